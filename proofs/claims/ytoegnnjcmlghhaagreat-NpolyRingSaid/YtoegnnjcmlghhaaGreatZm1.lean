/- What a proof needs: rules of walking, mirrors of functions and their plain laws. No condition. -/
import Derived.WalkKit
import Derived.KernelRfl
import Derived.CallsIn
import Derived.OrdersIn
import Derived.TacticsIn
import Derived.RangeFuncIn
import Derived.Laws.AppendOwn
import Derived.Laws.OwnMore
import Derived.Laws.CopyOwn
import Derived.Orders
import Derived.Laws.IdiomCopy
import Derived.Laws.CopyRow
import Derived.Scope
import Derived.Lib.BitFns
import Derived.Test.YtoegnnjcmlghhaaGreatRows
import Derived.ProofKit
import Derived.OpenShut
import Derived.Laws.Pointers
import Derived.Test.YtoegnnjcmlghhaaGreatProg
import Derived.RangeFuncSeq
import Derived.RangeFuncRecord
set_option linter.all false
namespace Go.Proofs.YtoegnnjcmlghhaaGreat
open Bool renaming false->I,true->wL
open Go renaming Value->wN,World->wP,TypeId->wT,Operand->wW,execOp->jp,Program->jP,run_underlying->ul,Oper->uT,undef->Z0,FuncId->Z2,Tmp->Z4,IntKind->Z5,Code->Z9,wpIn_mono->Wn,resolve->Ws,Func->WF,wpListIn->WL,invoke->WP,heap_alloc_new->WR,ResultVar->WS,results->WT,eqGuard->WW,Act->V0,sizeOf->V3,maxLen->V4,getD_set_ne->V5,binOp->V6,typeInfo->V9,BinOp->Jp,run_newObj_alloc->JP,asIntOf->Kw,builtin->Ut,Addr->UL,MemPlace->UP,getD_set_true->US,Calls->UT,run_loadCells_list->am,wpAnyIn->aC,run_storeCells_at->aM,PanicEntry->bv,wpIn_region_lit->bV,grownCap->ce,zeroValue->cE,newRow->cO,fenced_calm->cS,Ending->dL,size_zeroCells->eL,growslice_fits->eM,Exit->eX,asInt->fD,wpIn_seq->fN,wpListIn_nil->gC,madeCells->g9,setRow_heap->iI,loadVar->iP,goInt->i8,callFunc->i9,TypeInfo->li,Deferred->lm,DataW->lC,Fence->lI
open List renaming length->X
open Nat renaming beq->E
open Option renaming some->Z,none->wF
open _root_ renaming rfl->O,List->N,Int->J,Nat->K,Option->V,List->xS,Nat->wr,Option->ww,trivial->wR,absurd->wS,Bool->v6,Array->ut,congrArg->uL,if_false->uP,if_true->uS,Unit->Z3,True->Xs,cond_false->XS,cond_true->Wf,ByteArray->Wt,congrFun->Ww,Decidable->QR,False->KW,decide_eq_true_eq->Us,if_pos->bi,not_true_eq_false->g8
abbrev ol(S T:Type):=(S->Option T)->S->Option T
theorem W{p:Prop}(h:p:=by lia):p:=h
theorem lM{p:Prop}(h:p:=by lia):p:=h
theorem lW{p:Prop}(h:p:=by omega):p:=h
theorem mD{p:Prop}(h:p:=by decide):p:=h
theorem mK{p:Prop}(h:p:=by simp):p:=h
theorem mS{p:Prop}(h:p:=by kernel_rfl):p:=h
open Bool renaming and_eq_true->xad,false_eq_true->xai,false_or->xeG,not_eq_true'->xcM,not_true->xeS,or_eq_true->xdV
open Builtin renaming append_->xcb,copy_->xfQ,firstCells->xeO,lenOf->xfP,zeroCells->xbq
open DataW renaming TrodAll->xeT
open Deferred renaming ofValue->xcW
open Extern renaming find->xfa,findNext->xeP
open Extern.MathBitsCarry renaming m64->xbe,pair->xcm,three->xbK
open Fence renaming wide->xcS
open Instr renaming buildSlice->xeK,fill->xdJ,slice->xfT,sliceAt->xcV,sliceBound->xeJ,sliceBounds->xet,sureAddr->xfz
open Int renaming natAbs_ediv_le_natAbs->xbB,natCast_mul->xfi,toNat_natCast->xaZ
open IntKind renaming i64->xdb,u64->xcr,u8->xfZ
open Lib renaming bitLen->xfc
open List renaming all_eq_true->xaT,any_eq_true->xfJ,append_assoc->xaq,append_nil->xbm,cons_append->xbL,drop->xdO,drop_eq_getElem_cons->xbV,drop_eq_nil_of_le->xbR,drop_left'->xfS,eq_nil_of_length_eq_zero->xbp,ext_getElem?->xcv,getElem?_append_left->xbb,getElem?_append_right->xbr,getElem?_cons_zero->xbC,getElem?_drop->xfh,getElem?_eq_getElem->xab,getElem?_eq_none->xbn,getElem?_eq_some_iff->xaz,getElem?_replicate->xcN,getElem?_set_self->xds,getElem?_take->xbD,getElem?_zip_eq_some->xeX,getElem_mem->xbG,getElem_of_mem->xcZ,length_append->xat,length_cons->xaw,length_drop->xch,length_eq_one_iff->xcT,length_map->xav,length_nil->xbT,length_replicate->xaM,length_set->xbg,length_take->xar,map_cons->xbQ,map_nil->xdS,map_toArray->xeb,mem_append->xaa,mem_cons->xah,mem_cons_of_mem->FS,mem_cons_self->IR,mem_iff_getElem?->xfC,mem_map->xas,mem_of_getElem?->xbt,mem_of_mem_eraseIdx->xdI,mem_of_mem_take->xes,mem_range->xbd,mem_singleton->xac,nil_append->xbN,not_mem_nil->H1,pairwise_cons->xdk,range->xaO,range_succ->xdj,replicate->Nm,replicate_succ->xdU,set_append_left->xfM,set_append_right->xfD,set_cons_succ->xfj,set_eq_take_append_cons_drop->xee,set_getElem_self->xdf,take->xdB,take_append_drop->xby,take_of_length_le->xaW,take_succ_cons->xeF
open Nat renaming add_assoc->xcK,add_comm->xdR,add_mul->xbi,add_zero->xbM,ble->xfu,blt->xda,div_le_self->xcD,div_lt_iff_lt_mul->xaX,eq_of_beq_eq_true->xde,le_mul_of_pos_left->xea,le_mul_of_pos_right->xcj,le_of_ble_eq_true->xbH,le_refl->So,le_trans->xal,lt_of_le_of_lt->xaK,lt_of_lt_of_le->xag,lt_or_ge->xbS,mod_eq_of_lt->xao,mod_lt->xaN,mul_le_mul_right->xaj,mul_pos->xdL,one_mul->xcP,pos_of_ne_zero->xcR,strongRecOn->xdA,zero_add->xaJ,zero_le->xae,zero_mul->xcC
open Op renaming intCmp->xfU
open Oper renaming looksAt->xbk
open Option renaming getD_some->xcX
open Option.some renaming inj->xdW,injEq->xau
open Prod.mk renaming injEq->xcL
open Region renaming binds->xcp,ready->xef
open Result renaming andThen_ok->xan
open Sem renaming run_bind->xay,run_pure->xaV
open Sum renaming elim->xfk
open Value renaming bool->xeM,cells->xeE
open _root_.Array renaming getD_eq_getD_getElem?->xbv,getElem?_eq_getElem->xdw,getElem?_eq_some_iff->xbf,length_toList->xeY,mem_toList_iff->xdN,range->xeZ,replicate->xdi,toArray_toList->xcy
section
 universe u
def yg{c:Prop}{h:QR c}{α:Type}{t e:α}(hc:c:=by lia):ite c t e=t:=bi hc
def zD{c:Prop}{h:QR c}{α:Type}{t e:α}(hc:¬c:=by lia):ite c t e=e:=if_neg hc
def iq{c:Prop}{h:QR c}(hc:c){α:Sort u}{t e:α}:ite c t e=t:=bi hc
def ir{c:Prop}{h:QR c}(hc:¬c){α:Sort u}{t e:α}:ite c t e=e:=if_neg hc
structure yJ(S:K->Prop)(w w':wP):Prop where
 os:w'.os=w.os
 tape:w'.tape=w.tape
 output:w'.output=w.output
 size:w.heap.size<=w'.heap.size
 block:∀k,k<w.heap.size->S k->w'.heap[k]? =w.heap[k]?
abbrev bh(w w':wP):Prop:=yJ (λ_=>Xs) w w'
theorem yJ.refl(S:K->Prop)(w:wP):yJ S w w:=⟨O,O,O,So _,λ_ _ _=>O⟩
def yJ.trans{S:K->Prop}{a b c:wP}(h:yJ S a b)(k:yJ S b c):yJ S a c:=
 ⟨k.os.trans h.os,k.tape.trans h.tape,k.output.trans h.output,xal h.size k.size,
  λi hi d=>(k.block i (xag hi h.size) d).trans<|h.block i hi d⟩
def yJ.weak{S c:K->Prop}{a b:wP}(h:yJ S a b)(e:∀k,k<a.heap.size->c k->S k):yJ c a b:=
 ⟨h.os,h.tape,h.output,h.size,λk d f=>h.block k d<|e k d f⟩
def bh.to{S:K->Prop}{a b:wP}(h:bh a b):yJ S a b:=h.weak λ_ _ _=>wR
def bh.behind{S:K->Prop}{we a b:wP}(h:bh we a)(k:yJ S a b)(c:∀i,i<we.heap.size->S i):bh we b:=
 ⟨k.os.trans h.os,k.tape.trans h.tape,k.output.trans h.output,xal h.size k.size,
  λi hi _=>(k.block i (xag hi h.size)<|c i hi).trans<|h.block i hi wR⟩
def bh.alloc(w:wP)(o:Obj):bh w (w.alloc o):=
 ⟨O,O,O,mK,λk a _=>RowKit.Below.heap_alloc w o k a⟩
def bh.drawn(w:wP)(n:K):bh w {w with drawn:=n}:=⟨O,O,O,So _,λ_ _ _=>O⟩
structure FF where
 p:(K->Prop)->wP->Prop
 keep:∀{S:K->Prop}{w w':wP},p S w->yJ S w w'->p S w'
 sub:∀{S S':K->Prop}{w:wP},p S w->(∀k,k<w.heap.size->S k->S' k)->p S' w
structure MF where
 blk:K->Prop
 p:(K->Prop)->wP->Prop
 keep:∀{S:K->Prop}{w w':wP},p S w->yJ S w w'->(∀k,blk k->w'.heap[k]? =w.heap[k]?)->p S w'
 sub:∀{S S':K->Prop}{w:wP},p S w->(∀k,k<w.heap.size->S k->S' k)->p S' w
 lt:∀{S:K->Prop}{w:wP},p S w->∀k,blk k->k<w.heap.size
def zB(S:K->Prop):N FF->wP->Prop
 |[],_=>Xs
 |f::r,w=>f.p S w/\zB S r w
def yS(S:K->Prop):N MF->wP->Prop
 |[],_=>Xs
 |f::r,w=>f.p S w/\yS S r w
def zB.keep{S:K->Prop}{w w':wP}(k:yJ S w w'):∀{Γ:N FF},zB S Γ w->zB S Γ w'
 |[],_=>trivial
 |f::_,h=>⟨f.keep h.1 k,zB.keep k h.2⟩
def zB.sub{S a:K->Prop}{w:wP}(b:∀k,k<w.heap.size->S k->a k):∀{Γ:N FF},zB S Γ w->zB a Γ w
 |[],_=>trivial
 |f::_,h=>⟨f.sub h.1 b,zB.sub b h.2⟩
def zB.append{S:K->Prop}{w:wP}:∀{Γ Δ:N FF},zB S Γ w->zB S Δ w->zB S (Γ++Δ) w
 |[],_,_,h=>h
 |_::_,_,h,k=>⟨h.1,zB.append h.2 k⟩
def yS.sub{S a:K->Prop}{w:wP}(b:∀k,k<w.heap.size->S k->a k):∀{Γ:N MF},yS S Γ w->yS a Γ w
 |[],_=>trivial
 |f::_,h=>⟨f.sub h.1 b,yS.sub b h.2⟩
def yS.keep{S:K->Prop}{w w':wP}(k:yJ S w w'):∀{Γ:N MF},(∀m∈Γ,∀i,m.blk i->w'.heap[i]? =w.heap[i]?)->yS S Γ w->yS S Γ w'
 |[],_,_=>trivial
 |f::_,a,h=>⟨f.keep h.1 k<|a f<|IR,yS.keep k (λm b=>a m<|FS _ b) h.2⟩
def yS.lt{S:K->Prop}{w:wP}:∀{Γ:N MF},yS S Γ w->∀m∈Γ,∀i,m.blk i->i<w.heap.size
 |_::_,h,m,hm,i,hi=>by
  obtain rfl|hm:=xah.1 hm
  exact m.lt h.1 i hi;exact yS.lt h.2 m hm i hi
def QE:N MF->Prop
 |[]=>Xs
 |m::r=>(∀k,m.blk k->∀m'∈r,¬m'.blk k)/\QE r
def St(we:wP)(Se:K->Prop)(ms:N MF)(Γ:N FF)(w:wP):Prop:=
 bh we w/\(∀k,we.heap.size<=k->Se k)/\QE ms/\∃S:K->Prop,(∀k,S k->Se k)/\(∀k,w.heap.size<=k->S k)/\(∀m∈ms,∀k,m.blk k->¬S k/\we.heap.size<=k)/\
  yS S ms w/\zB S Γ w
section
variable{we:wP}{Se:wr->Prop}{ms:xS MF}{Γ Δ:xS FF}{w w':wP}
def St.ext(h:St we Se ms Γ w)(x:bh w w'):St we Se ms Γ w':=by
 have⟨h1,b,c,S,d,e,f,a,g⟩:=h
 exact⟨h1.trans x,b,c,S,d,λk j=>e k<|xal x.size j,f,
  yS.keep x.to (λm l i hi=>x.block i (yS.lt a m l i hi) wR) a,zB.keep x.to g⟩
def St.step(h:St we Se ms Γ w)(x:bh w w')(n:∀S:K->Prop,(∀k,w.heap.size<=k->S k)->zB S Γ w->zB S Δ w'):St we Se ms Δ w':=by
 have⟨h1,c,d,S,e,a,f,b,g⟩:=h
 exact⟨h1.trans x,c,d,S,e,λk j=>a k<|xal x.size j,f,
  yS.keep x.to (λm l i hi=>x.block i (yS.lt b m l i hi) wR) b,n S a g⟩
theorem St.weak(h:St we Se ms Γ w)(n:∀(S:K->Prop) (w:wP),zB S Γ w->zB S Δ w):St we Se ms Δ w:=
 h.step (yJ.refl _ _) λS _=>n S w
def St.ex(h:St we Se ms Γ w):∃S:K->Prop,(∀k,w.heap.size<=k->S k)/\zB S Γ w:=
 let⟨_,_,_,S,_,a,_,_,b⟩:=h;⟨S,a,b⟩
def Il:∀{ms:N MF} (i:K) (m':MF),QE ms->(∀m,ms[i]? =Z m->m'.blk=m.blk)->QE (ms.set i m')
 |[],_,_,h,_=>by simpa using h
 |m::r,0,m',h,a=>by
  have:=a m O;exact⟨λk b=>h.1 k (by rw[<-this];exact b),h.2⟩
 |m::r,i+1,m',h,a=>by
  refine⟨λk b g c=> ?_,Il i m' h.2<|λm d=>a m<|by simpa using d⟩;obtain⟨j,f,rfl⟩:=xcZ c;rw[List.getElem_set];rw[xbg]at f;split;rename_i e;rw[a r[i] mK];exact h.1 k b _<|xbG _;exact h.1 k b _<|xbG _
theorem yS.get{S:K->Prop}:∀{ms:N MF}{i:K}{m:MF},yS S ms w->ms[i]? =Z m->m.p S w
 |_::_,0,_,h,e=>by simp only[xbC,xau]at e;exact e▸h.1
 |_::_,_+1,_,h,e=>yS.get h.2<|by simpa using e
def eV:∀{ms:N MF}{i:K}{m:MF},QE ms->ms[i]? =Z m->∀k,m.blk k->∀(j:K) (m':MF),j≠i->ms[j]? =Z m'->¬m'.blk k
 |m0::r,0,m,h,e,k,b,j,m',c,a=>by
  simp only[xbC,xau]at e;subst e;obtain⟨j,rfl⟩:∃d,j=d+1:=⟨j-1,W⟩;exact h.1 k b m'<|xbt<|by simpa using a
 |m0::r,i+1,m,h,e,k,b,0,m',c,a=>by
  simp only[xbC,xau]at a;subst a;exact λhc=>h.1 k hc m (xbt<|by simpa using e) b
 |m0::r,i+1,m,h,e,k,b,j+1,m',c,a=>
  eV h.2 (by simpa using e) k b j m' W (by simpa using a)
def OX{S:K->Prop}{b:K}(x:yJ (λk=>k≠b) w w'):∀{ms:N MF} (i:K) (m':MF),(∀k,S k->k≠b)->m'.p S w'->
 (∀(j:K) (m:MF),j≠i->ms[j]? =Z m->¬m.blk b)->yS S ms w->yS S (ms.set i m') w'
 |[],_,_,_,_,_,_=>trivial
 |m::r,0,m',c,f,d,h=>by
  refine⟨f,yS.keep (x.weak λk _ a=>c k a) (λl g k a=> ?_) h.2⟩;obtain⟨j,n,rfl⟩:=xcZ g;exact x.block k (yS.lt h.2 _ (xbG _) k a)<|λe=>d (j+1) r[j] W mK<|e▸a
 |m::r,i+1,m',c,f,d,h=>by
  refine⟨m.keep h.1 (x.weak λk _ a=>c k a)<|λk a=>x.block k (m.lt h.1 k a)<|λe=>d 0 m W O<|e▸a,?_⟩;exact OX x i m' c f (λj l n g=>d (j+1) l W<|by simpa using g) h.2
theorem St.write{i:K}{m m':MF}{b:K}(h:St we Se ms Γ w)(hi:ms[i]? =Z m)(s:m.blk=λk=> @Z K b=Z k)(hd:m'.blk=λk=> @Z K b=Z k)(x:yJ (λk=>k≠b) w w')
 (n:∀S:K->Prop,(∀k,S k->k≠b)->m.p S w->zB S Γ w->m'.p S w'):St we Se (ms.set i m') Γ w':=by
 have⟨h1,f,g,S,t,u,l,o,q⟩:=h;have c:m.blk b:=by rw[s]
 have d:∀k,S k->k≠b:=λk a e=>(l m (xbt hi) b c).1<|e▸a;refine⟨h1.behind x (λk a e=>by have:=(l m (xbt hi) b c).2;lia),f,Il i m' g<|λr f=> ?_,S,t,λk a=>u k<|xal x.size a,?_,?_,?_⟩;simp_all;grind;exact OX x i m' d (n S d (yS.get o hi) q) (λj r v hc=>eV g hi b c j r v hc) o;exact zB.keep (x.weak λk _ a=>d k a) q
def St.fresh{m:MF}(h:St we Se ms Γ w)(x:bh w w')(c:m.blk=λk=>Z w.heap.size=Z k)(hd:w.heap.size<w'.heap.size)
 (n:∀S:K->Prop,(∀k,w.heap.size<=k->S k)->zB S Γ w->m.p (λk=>S k/\k≠w.heap.size) w'):St we Se (m::ms) Γ w':=by
 have⟨h1,j,l,S,o,d,e,b,f⟩:=h;have g:∀k,k<w.heap.size->S k->S k/\k≠w.heap.size:=λk a q=>⟨q,W⟩;refine⟨h1.trans x,j,⟨λk a m' hm' hc=> ?_,l⟩,λk=>S k/\k≠w.heap.size,λk a=>o k a.1,λk a=>⟨d k W,W⟩,?_,⟨n S d f,?_⟩,?_⟩;rw[c]at a;cases a;have:=yS.lt b m' hm' _ hc;lia
 intro m' hm' k a;obtain rfl|hm':=xah.1 hm'
 rw[c]at a;cases a;exact⟨λhc=>hc.2 O,h1.size⟩
 exact⟨λhc=>(e m' hm' k a).1 hc.1,(e m' hm' k a).2⟩;exact yS.keep x.to (λm' hm' i hi=>x.block i (yS.lt b m' hm' i hi) wR)<|yS.sub g b;exact zB.keep x.to<|zB.sub g f
def KF:∀{ms:N MF} (i:K),QE ms->QE (ms.eraseIdx i)
 |[],_,h=>by simpa using h
 |_::_,0,h=>h.2
 |m::r,i+1,h=>⟨λk a m' b=>h.1 k a m'<|xdI b,KF i h.2⟩
def aJ{S:K->Prop}:∀{ms:N MF} (i:K),yS S ms w->yS S (ms.eraseIdx i) w
 |[],_,h=>by simpa using h
 |_::_,0,h=>h.2
 |_::_,i+1,h=>⟨h.1,aJ i h.2⟩
def St.freeze{i:K}{m:MF}{F:FF}(h:St we Se ms Γ w)(hi:ms[i]? =Z m)
 (n:∀S a:K->Prop,(∀k,S k->a k)->(∀k,m.blk k->a k)->m.p S w->F.p a w):St we Se (ms.eraseIdx i) (F::Γ) w:=by
 have⟨h1,d,e,S,g,l,b,f,o⟩:=h;have q:=xbt hi;refine⟨h1,d,KF i e,λk=>S k\/m.blk k,?_,λk hk=> .inl<|l k hk,?_,yS.sub (λk _ hk=> .inl hk)<|aJ i f,n S _ (λk hk=> .inl hk) (λk hk=> .inr hk)<|yS.get f hi,zB.sub (λk _ hk=> .inl hk) o⟩;rintro k (hk|hk);exact g k hk;exact d k (b m q k hk).2;intro m' c k hk;refine⟨?_,(b m' (xdI c) k hk).2⟩;rintro(hc|hc);exact(b m' (xdI c) k hk).1 hc;have⟨j,r,hd⟩:=List.mem_eraseIdx_iff_getElem?.1 c;exact eV e hi k hc j m' r hd hk
def St.drop{i:K}(h:St we Se ms Γ w):St we Se (ms.eraseIdx i) Γ w:=by have⟨h1,a,b,S,c,d,e,f,g⟩:=h;exact⟨h1,a,KF i b,S,c,d,λm' j=>e m'<|xdI j,aJ i f,g⟩
def St.nil(h:zB Se Γ we)(a:∀k,we.heap.size<=k->Se k):St we Se [] Γ we:=
 ⟨yJ.refl _ _,a,wR,Se,λ_ h=>h,a,λ_ h=>wS h H1,wR,h⟩
end
abbrev y6:=K->wN
def L:N (K×wN)->y6->y6
 |[],r,t=>r t
 |(k,v)::l,r,t=>bif E t k then v else L l r t
def put(env:y6):V Z4->wN->y6
 |some d,v=>L [(d,v)] env
 |none,_=>env
def zW(a:V0):y6:=λt=>a.tmps.getD t Z0
def ev(env:y6):wW->wN
 |.tmp t=>env t
 |.const v=>v
 |.global g=> .pointer<|some ⟨g,0,wF⟩
 |.func f=> .func (.func f) #[] #[]
def zjt(env:y6):N (K×wN)->N wN
 |[]=>[]
 |(k,_)::l=>env k::zjt env l
def zbM:N (K×wN)->N wN
 |[]=>[]
 |(_,v)::l=>v::zbM l
def JV(env:y6)(l:N (K×wN)):Prop:=zjt env l=zbM l
def zax{env:y6}{k:K}{v:wN}{l:N (K×wN)}(h:env k=v)(a:JV env l):JV env ((k,v)::l):=by show env k::zjt env l=v::zbM l;rw[h,show zjt env l=zbM l from a]
def oQ{env:y6}{k:K}{v:wN}{l:N (K×wN)}(h:JV env ((k,v)::l)):env k=v/\JV env l:=by have h1:=h;exact List.cons.inj h1
def Q2{env:y6}:∀{live:N (K×wN)},JV env live->L live env=env
 |[],_=>rfl
 |(k,v)::l,h=>by
  funext t;have b:=Ww (Q2 (oQ h).2) t;simp only[L];cases a:E t k
  simp_all;simp only[Wf];rw[xde a];exact(oQ h).1.symm
def Km(a:V0):a.eval=ev (zW a):=by funext x;cases x<;>rfl
def Wa{a:V0}{d:V Z4}{v:wN}(h:∀t,d=Z t->t<a.tmps.size):zW (a.put d v)=put (zW a) d v:=by
 cases d with
 |none=>rfl
 |some d=>
  funext t;simp only[zW,Act.put,put,L,xbv];cases b:E t d
  have:d≠t:=λe=>by subst e;simp at b
  grind;simp_all
def UH(a:V0)(d:V Z4)(v:wN):(a.put d v).tmps.size=a.tmps.size:=by cases d<;>simp[Act.put]
def Wb(a:V0)(d:V Z4)(v:wN):(a.put d v).defers=a.defers:=by cases d<;>rfl
abbrev Qs:=eX->y6->wP->Prop
structure Nd where
 n:K
 ds:N lm
 rd:V K
abbrev Nd.of(n:K):Nd:=⟨n,[],wF⟩
abbrev Nd.F(N:Nd):lI:={xcS with round:=N.rd}
def zc0(N:Nd)(Q:Qs):eX->V0->wP->Prop:=λe a w=>a.tmps.size=N.n/\a.defers=N.ds/\Q e (zW a) w
def Wp(P:jP)(N:Nd)(c:Z9)(Q:Qs)(env:y6)(w:wP):Prop:=
 ∀a:V0,a.tmps.size=N.n->a.defers=N.ds->zW a=env->c.wpIn N.F 0 P (zc0 N Q) a w
def zme(K:y6->wP->Prop)(Q:Qs):Qs
 |.normal,env,w=>K env w
 |e,env,w=>Q e env w
def zg1(id:K)(Q:Qs):Qs
 |.exit a,env,w=>bif E a id then Q .normal env w else Q (.exit a) env w
 |e,env,w=>Q e env w
def T(P:jP)(N:Nd)(we:wP)(Se:K->Prop)(ms:xS MF)(Γ:xS FF)(c:Z9)(Q:Qs)(env:y6):Prop:=
 ∀w,St we Se ms Γ w->Wp P N c Q env w
section
variable{P:jP}{N:Nd}{we:wP}{Se:wr->Prop}{ms:xS MF}{Γ:xS FF}{Q:Qs}{env:y6}
def YI{x y:Z9}(h:T P N we Se ms Γ x (zme (Wp P N y Q) Q) env):T P N we Se ms Γ (.seq x y) Q env:=by intro w c a h1 d f;refine fN<|Wn (h w c a h1 d f) ?_;intro e g w' ⟨q1,q2,b⟩;cases e<;>first|exact b g q1 q2 O|exact⟨q1,q2,b⟩
def Ml(h:∀w,St we Se ms Γ w->Q .normal env w):T P N we Se ms Γ .skip Q env:=
 λw a _ h1 b c=>wpIn_skip ⟨h1,b,c▸h w a⟩
def zbL(h:∀w,St we Se ms Γ w->Q .ret env w):T P N we Se ms Γ .ret Q env:=
 λw a _ h1 b c=>wpIn_ret ⟨h1,b,c▸h w a⟩
def YR{c:wW}{x y:Z9}(hc:ev env c=.bool wL)(h:T P N we Se ms Γ x Q env):T P N we Se ms Γ (.cond c x y) Q env:=
 λw d a h1 e b=>wpIn_cond_true (by rw[Km,b];exact hc)<|h w d a h1 e b
def XJ{c:wW}{x y:Z9}(hc:ev env c=.bool I)(h:T P N we Se ms Γ y Q env):T P N we Se ms Γ (.cond c x y) Q env:=
 λw d a h1 e b=>wpIn_cond_false (by rw[Km,b];exact hc)<|h w d a h1 e b
def zoR{c:wW}{x y:Z9}(b:v6)(hc:ev env c=.bool b)(h:b=wL->T P N we Se ms Γ x Q env)(a:b=I->T P N we Se ms Γ y Q env):T P N we Se ms Γ (.cond c x y) Q env:=by
 cases b
 exact XJ hc<|a O;exact YR hc<|h O
def zcG{id:K}{c:Z9}(h:T P N we Se ms Γ c (zg1 id Q) env):T P N we Se ms Γ (.block id c) Q env:=by
 intro w f a h1 g j;refine wpIn_block<|Wn (h w f a h1 g j) ?_;intro e k w' ⟨q1,q2,b⟩
 cases e with
 |exit i=>
  simp only[zg1]at b;simp only[Exit.inBlock];cases d:E i id
  rw[d]at b;rw[ir<|λe=>by subst e;simp at d];exact⟨q1,q2,b⟩;rw[d]at b;rw[iq<|xde d];exact⟨q1,q2,b⟩
 |_=>exact⟨q1,q2,b⟩
structure Inv where
 ms:xS MF
 Γ:xS FF
 live:xS (K×wN)
def zai{F:lI}{n:K}{c:Z9}{Q:eX->V0->wP->Prop}{a:V0}{w:wP}{G:Type}(H:G->V0->wP->Prop)(t:G->K)(h:G)(p:H h a w)
 (round:∀g a w,H g a w->c.wpIn F n P (Exit.then (λo w'=>∃y,H y o w'/\t y<t g) Q) a w):(Code.loop c).wpIn F n P Q a w:=by
 intro b k cs hd u v
 have x:∀n g a w,t g=n->H g a w->
  ∃e o w',Q e o w'/\ArrivesIn (Machine.fenced P F) P (lone (b.atR a (.code c::.inLoop c::k)) cs w) b k cs e o w':=by
  intro n
  induction n using xdA with
  |_ n z=>
   intro g a w hn A;have⟨e,d,f,i,j⟩:=round g a w A b (.inLoop c::k) cs hd u v
   cases e with
   |normal=>
    have⟨m,B,C⟩:=i;have⟨q,r,s,D,hc⟩:=z (t m) (hn▸C) m d f O B;exact⟨q,r,s,D,.of_steps (StepsIn.trans j (.one (cS u v O) stepR_inLoop)) hc⟩
   |exit id=>exact⟨_,d,f,i,.pass O (λ_ _=> .inl mK) j⟩
   |goto l=>exact⟨_,d,f,i,.pass O (λ_ _=> .inl mK) j⟩
   |ret=>exact⟨_,d,f,i,.pass O (λ_ _=> .inl mK) j⟩
   |panic E=>exact⟨_,d,f,i,.pass O (λ_ _=> .inl mK) j⟩
   |outgrown=>exact⟨_,d,f,i,.pass O (λ_ _=> .inl mK) j⟩
 have⟨e,o,w',i,j⟩:=x _ h a w O p;exact⟨e,o,w',i,.of_steps (.one (cS u v O) stepR_loop) j⟩
end
def FnQ{U:Type}(Se:K->Prop)(w:wP)(b:U->wN)(a:U->N FF)(ok:U->Prop):dL->wP->Prop:=
 λe w'=>∃u,e=.returned (b u)/\ok u/\bh w w'/\zB Se (a u) w'
def Fn{U:Type}(P:jP)(f:Z2)(args:ut wN)(Γ:N FF)(b:U->wN)(a:U->N FF)(ok:U->Prop):Prop:=
 ∀w Se,(∀k,w.heap.size<=k->Se k)->zB Se Γ w->UT P f args w (FnQ Se w b a ok)
def zny{U:Type}(P:jP)(fn:WF)(we:wP)(Se:K->Prop)(c:U->wN)(b:U->N FF)(ok:U->Prop):Qs
 |.ret,env,w|.normal,env,w=>∃u,(∀a:V0,zW a=env->(WT fn a.tmps).run P w=.ok (c u) w)/\ok u/\bh we w/\zB Se (b u) w
 |_,_,_=>KW
def bO(args:ut wN)(n:K):zW ⟨args++xdi n Z0,[]⟩=λt=>args.getD t Z0:=by funext t;simp only[zW,xbv,Array.getElem?_append];split;rfl;grind
def JJ:∀(l:N wN) (k:K) (env:y6),(∀j,env (k+j)=l.getD j Z0)->JV env ((l.zipIdx k).map λx=>(x.2,x.1))
 |[],_,_,_=>rfl
 |v::l,k,env,h=>zax (by simpa using h 0)<|JJ l (k+1) env (λj=>by have:=h<|j+1;simpa[xcK,xdR 1 j]using this)
def Om{U:Type}{P:jP}{f:Z2}{args:N wN}{Γ:N FF}{b:U->wN}{a:U->N FF}{ok:U->Prop}{fn:WF}{c:Z9}
 (m:P.funcs[f]? =Z fn) (o:fn.body=Z c) (hn:xfu (X args) fn.ntmps=wL)
 (h:∀we Se rest,T P (Nd.of fn.ntmps) we Se [] Γ c (zny P fn we Se b a ok)<|L ((args.zipIdx 0).map λx=>(x.2,x.1)) rest):Fn P f args.toArray Γ b a ok:=by
 intro w Se p d;have hn:=xbH hn;refine calls_of_wp m o<|(wpIn_wide (n:=0)).1 ?_;have hc:JV (zW ⟨args.toArray++xdi (fn.ntmps-args.toArray.size) Z0,[]⟩) ((args.zipIdx 0).map λx=>(x.2,x.1)):=by refine JJ args 0 _ λj=> ?_;rw[bO];simp_all
 refine Wn (h w Se _ w (St.nil d p) _ (by simp;lia) O (Q2 hc).symm) ?_;intro e l w' ⟨q1,q2,g⟩;cases e<;>simp only[zny]at g
 have⟨u,r1,r2,i,k⟩:=g;exact⟨q2,_,r1 l O,u,O,r2,i,k⟩;have⟨u,r1,r2,i,k⟩:=g;exact⟨q2,_,r1 l O,u,O,r2,i,k⟩
section
variable{P:jP}{we:wP}{Se:wr->Prop}{ms:xS MF}{Γ:xS FF}{env:y6}{U:Type}{val:U->wN}{facts:U->xS FF}{ok:U->Prop}{fn:WF}
def St.out{Δ:N FF}{w:wP}(h:St we Se ms Γ w)(n:∀(S:K->Prop) (w:wP),zB S Γ w->zB S Δ w):bh we w/\zB Se Δ w:=by have⟨h1,c,d,S,a,e,f,g,b⟩:=h;exact⟨h1,zB.sub (λk _=>a k)<|n S w b⟩
def zi1{t:Z4}(u:U)(b:fn.results= #[.tmp t])(hv:env t=val u)(hc:ok u)(n:∀(S:K->Prop) (w:wP),zB S Γ w->zB S (facts u) w):
 ∀w,St we Se ms Γ w->zny P fn we Se val facts ok .ret env w:=by
 intro w c;refine⟨u,λa d=> ?_,hc,c.out n⟩;rw[<-hv,<-d];simp[WT,b,zW]
def Dw(tmps:ut wN):WS->Sem wN
 |.tmp t=>pure<|tmps.getD t Z0
 |.cell a t=>do iP t (<-asAddr (tmps.getD a Z0))
end
end
section
structure zT(α:Type)where
 n:K
 agg:v6
 n1:agg=I->n=1
 p:(K->Prop)->α->N wN->wP->Prop
 len:∀{S x cs w},p S x cs w->cs.length=n
 one:∀{S x cs w},p S x cs w->∀c∈cs,c.oneCell'=wL
 keep:∀{S x cs w w'},p S x cs w->yJ S w w'->p S x cs w'
 sub:∀{S S':K->Prop}{x cs w},p S x cs w->(∀k,k<w.heap.size->S k->S' k)->p S' x cs w
def zT.val{α:Type}(e:zT α)(cs:N wN):wN:=if e.agg then .agg cs.toArray else cs.headD Z0
def zT.val_cells{α:Type}(e:zT α){S:K->Prop}{x:α}{cs:N wN}{w:wP}(h:e.p S x cs w):(e.val cs).cells.toList=cs:=by
 unfold zT.val;cases a:e.agg
 have hl:=e.len h;rw[e.n1 a]at hl;obtain⟨c,rfl⟩:=xcT.1 hl;have:=e.one h c mK;cases c<;>simp_all [xeE,Value.oneCell']
 rfl
def fV{α:Type}(e:zT α)(x:α)(v:wN):FF where
 p S w:=∃cs,v=e.val cs/\e.p S x cs w
 keep:=λ⟨cs,h1,a⟩ k=>⟨cs,h1,e.keep a k⟩
 sub:=λ⟨cs,h1,a⟩ k=>⟨cs,h1,e.sub a k⟩
def eI:zT J where
 n:=1
 agg:=I
 n1 _:=O
 p _ x cs _:=cs=[.int .i64 x]/\ -9223372036854775808<=x/\x<=9223372036854775807
 len h:=by simp[h.1]
 one h:=by intro c hc;rw[h.1]at hc;simp at hc;subst hc;rfl
 keep h _:=h
 sub h _:=h
def eU:zT K where
 n:=1
 agg:=I
 n1 _:=O
 p _ x cs _:=cs=[.int .u64 (x:J)]/\x<18446744073709551616
 len h:=by simp[h.1]
 one h:=by intro c hc;rw[h.1]at hc;simp at hc;subst hc;rfl
 keep h _:=h
 sub h _:=h
def eB8:zT UInt8 where
 n:=1
 agg:=I
 n1 _:=O
 p _ x cs _:=cs=[.int .u8 (x.toNat:J)]
 len h:=by simp[h]
 one h:=by intro c hc;rw[h]at hc;simp at hc;subst hc;rfl
 keep h _:=h
 sub h _:=h
def Eu:zT v6 where
 n:=1
 agg:=I
 n1 _:=O
 p _ x cs _:=cs=[.bool x]
 len h:=by simp[h]
 one h:=by intro c hc;rw[h]at hc;simp at hc;subst hc;rfl
 keep h _:=h
 sub h _:=h
def Z6{α:Type}{e:zT α}{S:K->Prop}{x:α}{v:wN}{w:wP}(h:(fV e x v).p S w):e.p S x v.cells.toList w:=by obtain⟨cs,rfl,h⟩:=h;rw[e.val_cells h];exact h
def zqL{α:Type}{e:zT α}{S:K->Prop}{x:α}{cs:N wN}{w:wP}(h:e.p S x cs w):(fV e x<|e.val cs).p S w:=⟨cs,O,h⟩
def zmR{x:J}{v:wN}{S:K->Prop}{w:wP}(h:(fV eI x v).p S w):v=.int .i64 x/\ -9223372036854775808<=x/\x<=9223372036854775807:=by obtain⟨cs,rfl,rfl,h⟩:=h;exact⟨O,h⟩
def zez{x:K}{v:wN}{S:K->Prop}{w:wP}(h:(fV eU x v).p S w):v=.int .u64 (x:J)/\x<18446744073709551616:=by obtain⟨cs,rfl,rfl,h⟩:=h;exact⟨O,h⟩
def oE{x:v6}{v:wN}{S:K->Prop}{w:wP}(h:(fV Eu x v).p S w):v=.bool x:=by obtain⟨cs,rfl,rfl⟩:=h;rfl
def wQ{x:J}{S:K->Prop}{w:wP}(h: -9223372036854775808<=x/\x<=9223372036854775807):(fV eI x (.int .i64 x)).p S w:=⟨_,O,O,h⟩
def kf{x:K}{S:K->Prop}{w:wP}(h:x<18446744073709551616):(fV eU x (.int .u64 (x:J))).p S w:=⟨_,O,O,h⟩
def BT{x:v6}{S:K->Prop}{w:wP}:(fV Eu x (.bool x)).p S w:=⟨_,O,O⟩
def yT{α:Type}(e:zT α)(S:K->Prop):N α->N wN->wP->Prop
 |[],cs,_=>cs=[]
 |x::xs,cs,w=>∃c r,cs=c++r/\e.p S x c w/\yT e S xs r w
section
variable{α:Type}{e:zT α}{S S':wr->Prop}{w w':wP}
def yT.len:∀{xs:N α}{cs:N wN},yT e S xs cs w->X cs=X xs*e.n
 |[],_,h=>by simp[show _=[]from h]
 |x::xs,_,⟨c,r,h,hc,a⟩=>by rw[h,xat,e.len hc,yT.len a,xaw,xbi,xdR];simp
def yT.one:∀{xs:N α}{cs:N wN},yT e S xs cs w->∀c∈cs,c.oneCell'=wL
 |[],_,h=>by simp[show _=[]from h]
 |x::xs,_,⟨c,r,h,hc,a⟩=>by
  intro d hd;rw[h]at hd;obtain hd|hd:=xaa.1 hd
  exact e.one hc d hd;exact yT.one a d hd
def yT.keep(k:yJ S w w'):∀{xs:N α}{cs:N wN},yT e S xs cs w->yT e S xs cs w'
 |[],_,h=>h
 |_::_,_,⟨c,r,h,hc,a⟩=>⟨c,r,h,e.keep hc k,yT.keep k a⟩
def yT.sub(k:∀k,k<w.heap.size->S k->S' k):∀{xs:N α}{cs:N wN},yT e S xs cs w->yT e S' xs cs w
 |[],_,h=>h
 |_::_,_,⟨c,r,h,hc,a⟩=>⟨c,r,h,e.sub hc k,yT.sub k a⟩
def yT.append:∀{xs ys:N α}{cs ds:N wN},yT e S xs cs w->yT e S ys ds w->yT e S (xs++ys) (cs++ds) w
 |[],_,_,_,h,k=>by rw[show _=[]from h];exact k
 |_::_,_,_,_,⟨c,r,h,hc,a⟩,k=>⟨c,r++_,by rw[h,xaq],hc,yT.append a k⟩
def yT.drop:∀{xs:N α}{cs:N wN} (k:K),yT e S xs cs w->yT e S (xs.drop k) (cs.drop<|k*e.n) w
 |[],cs,k,h=>by simp[show cs=[]from h];exact O
 |x::xs,cs,0,h=>by simpa using h
 |x::xs,_,k+1,⟨c,r,h,hc,a⟩=>by
  have:=yT.drop k a;rw[List.drop_succ_cons,h,xbi,xcP,xdR,<-List.drop_drop];rwa[xfS<|e.len hc]
def yT.take:∀{xs:N α}{cs:N wN} (k:K),yT e S xs cs w->yT e S (xs.take k) (cs.take<|k*e.n) w
 |[],cs,k,h=>by simp[show cs=[]from h];exact O
 |x::xs,cs,0,h=>by simp;exact O
 |x::xs,_,k+1,⟨c,r,h,hc,a⟩=>by
  refine⟨c,r.take<|k*e.n,?_,hc,yT.take k a⟩;rw[h,xbi,List.take_append,e.len hc,xaW<|by rw[e.len hc];lia];simp_all
def yT.get{xs:N α}{cs:N wN}{i:K}{x:α}(h:yT e S xs cs w)(b:xs[i]? =Z x):
 ∃c,e.p S x c w/\∀j,j<e.n->cs[i*e.n+j]? =c[j]? :=by
 have hd:=h.drop i;obtain⟨hi,rfl⟩:=xaz.1 b;rw[xbV hi]at hd;have⟨c,r,h1,a,f⟩:=hd;refine⟨c,a,λj d=> ?_⟩;rw[<-xfh,h1,xbb<|by rw[e.len a];exact d]
def yT.replicate{x:α}{c:N wN}(h:e.p S x c w):∀n,yT e S (Nm n x) (Nm n c).flatten w
 |0=>rfl
 |n+1=>⟨c,_,by simp[xdU],h,yT.replicate h n⟩
end
def At(w:wP)(b o:K)(cs:N wN):Prop:=b<w.heap.size/\∀j v,cs[j]? =Z v->w.cell? ⟨b,o+j,wF⟩=Z v
def At.keep{S:K->Prop}{w w':wP}{b o:K}{cs:N wN}(h:At w b o cs)(a:S b)(k:yJ S w w'):At w' b o cs:=
 ⟨xag h.1 k.size,λj v hv=>by rw[World.cell?_of_block<|k.block b h.1 a];exact h.2 j v hv⟩
def At.drop{w:wP}{b o:K}{cs:N wN}(h:At w b o cs)(k:K):At w b (o+k) (cs.drop k):=
 ⟨h.1,λj v hv=>by rw[xfh]at hv;have:=h.2 _ v hv;rwa[xcK]⟩
def At.take{w:wP}{b o:K}{cs:N wN}(h:At w b o cs)(k:K):At w b o (cs.take k):=
 ⟨h.1,λj v hv=>h.2 j v<|by rw[xbD]at hv;split at hv<;>simp_all⟩
def At.row{w:wP}{b:K}{cs:ut wN}{t:wT}{fr:K×K}(h:w.heap[b]? =Z (.cells cs t fr)):At w b 0 cs.toList:=
 ⟨(xbf.1 h).1,λj v hv=>by rw[cell_of_row w b (0+j) cs t fr h];simpa using hv⟩
def SlP{α:Type}(e:zT α)(S:K->Prop)(xs:N α)(v:wN)(w:wP):Prop:=
 ∃a cap,v=.slice a (X xs) cap/\X xs<=cap/\cap<=V4/\(xs=[]\/∃b o cs,a=Z ⟨b,o,wF⟩/\S b/\At w b o cs/\yT e S xs cs w)
def eS{α:Type}(e:zT α):zT (N α)where
 n:=1
 agg:=I
 n1 _:=O
 p S xs cs w:=∃v,cs=[v]/\SlP e S xs v w
 len:=λ⟨v,h,_⟩=>by simp[h]
 one:=λ⟨v,h,⟨a,cap,hv,_⟩⟩=>by intro c hc;rw[h]at hc;simp at hc;subst hc;rw[hv];rfl
 keep:=λ⟨v,h,⟨a,cap,h1,f,g,i⟩⟩ k=>⟨v,h,a,cap,h1,f,g,i.imp id λ⟨b,o,cs,j,d,a3,a4⟩=>⟨b,o,cs,j,d,a3.keep d k,a4.keep k⟩⟩
 sub:=λ⟨v,h,⟨a,cap,h1,f,g,i⟩⟩ k=>⟨v,h,a,cap,h1,f,g,i.imp id λ⟨b,o,cs,j,d,a3,a4⟩=>⟨b,o,cs,j,k b a3.1 d,a3,a4.sub k⟩⟩
def wb{α:Type}{e:zT α}{xs:N α}{v:wN}{S:K->Prop}{w:wP}:(fV (eS e) xs v).p S w↔SlP e S xs v w:=
 ⟨λ⟨_,h1,c,a,b⟩=>by subst a;rw[h1];exact b,λh=>⟨[v],O,v,O,h⟩⟩
def eP{α β:Type}(e:zT α)(f:zT β):zT (α×β)where
 n:=e.n+f.n
 agg:=wL
 n1 h:=by cases h
 p S x cs w:=∃c d,cs=c++d/\e.p S x.1 c w/\f.p S x.2 d w
 len:=λ⟨c,d,h,hc,hd⟩=>by rw[h,xat,e.len hc,f.len hd]
 one:=λ⟨c,d,h,hc,hd⟩ x hx=>by
  rw[h]at hx;obtain hx|hx:=xaa.1 hx
  exact e.one hc x hx;exact f.one hd x hx
 keep:=λ⟨c,d,h,hc,hd⟩ k=>⟨c,d,h,e.keep hc k,f.keep hd k⟩
 sub:=λ⟨c,d,h,hc,hd⟩ k=>⟨c,d,h,e.sub hc k,f.sub hd k⟩
def eA{α:Type}(k:K)(e:zT α):zT (N α)where
 n:=k*e.n
 agg:=wL
 n1 h:=by cases h
 p S xs cs w:=X xs=k/\yT e S xs cs w
 len:=λ⟨h,a⟩=>by rw[a.len,h]
 one:=λ⟨_,a⟩=>a.one
 keep:=λ⟨h,a⟩ k=>⟨h,a.keep k⟩
 sub:=λ⟨h,a⟩ k=>⟨h,a.sub k⟩
abbrev Zr:=v6×N K
def fP{α:Type}(e:zT α)(x:α)(v:wN):FF where
 p S w:=∃b o cs,v=.pointer (Z ⟨b,o,wF⟩)/\S b/\At w b o cs/\e.p S x cs w
 keep:=λ⟨b,o,cs,h1,a,c,d⟩ k=>⟨b,o,cs,h1,a,c.keep a k,e.keep d k⟩
 sub:=λ⟨b,o,cs,h1,a,c,d⟩ k=>⟨b,o,cs,h1,k b c.1 a,c,e.sub d k⟩
structure sU(α:Type)where
 p:(K->Prop)->α->N wN->wP->Prop
 keep:∀{S x cs w w'},p S x cs w->yJ S w w'->p S x cs w'
 sub:∀{S S':K->Prop}{x cs w},p S x cs w->(∀k,k<w.heap.size->S k->S' k)->p S' x cs w
def zT.c{α:Type}(e:zT α):sU α:=⟨e.p,e.keep,e.sub⟩
def zpQ{α:Type}(e:zT α):sU (N α):=⟨yT e,λh k=>h.keep k,λh k=>h.sub k⟩
def mB{α:Type}(e:sU α)(E:wT)(b:K)(x:α):MF where
 blk k:=Z b=Z k
 p S w:=∃cs:ut wN,w.heap[b]? =Z (.cells cs E (0,0))/\e.p S x cs.toList w
 keep:=λ⟨cs,h1,a⟩ k hb=>⟨cs,by rw[hb b O];exact h1,e.keep a k⟩
 sub:=λ⟨cs,h1,a⟩ k=>⟨cs,h1,e.sub a k⟩
 lt:=λ⟨cs,h1,_⟩ k c=>by cases c;exact(xbf.1 h1).1
abbrev mR{α:Type}(e:zT α)(E:wT)(b:K)(xs:N α):MF:=mB (zpQ e) E b xs
def mO{α:Type}(e:zT α)(E:wT)(v:wN)(xs:N α):MF where
 blk k:=v.ownBlock=Z k
 p S w:=∃cs,w.ownsRow 0 E e.n v (X xs) cs/\yT e S xs cs w
 keep:=λ⟨cs,h1,a⟩ k hb=>by
  refine⟨cs,⟨h1.1,?_⟩,a.keep k⟩;obtain h|⟨g,cap,b,hv,c,d,r⟩:=h1.2
  exact .inl h;exact .inr ⟨g,cap,b,hv,c,by rw[hb g<|by rw[hv];rfl];exact d,r⟩
 sub:=λ⟨cs,h1,a⟩ k=>⟨cs,h1,a.sub k⟩
 lt:=λ⟨cs,h1,_⟩ k f=>(h1.lt k f).2
section
variable{α:Type}{e:zT α}{E:wT}{S S':wr->Prop}{w:wP}
def SlP.of_at{xs:N α}{b o n cap:K}{cs:N wN}(a:S b)(c:At w b o cs)(d:yT e S xs cs w)(hn:n=X xs)(hc:X xs<=cap)(f:cap<=V4):
 SlP e S xs (.slice (Z ⟨b,o,wF⟩) n cap) w:=⟨_,cap,by rw[hn],hc,f,.inr ⟨b,o,cs,O,a,c,d⟩⟩
def SlP.nil:SlP e S [] (.slice wF 0 0) w:=⟨wF,0,O,So _,xae _,.inl O⟩
def znE{x:α}{b:K}(a:∀k,S k->S' k)(d:S' b)(h:(mB e.c E b x).p S w):(fP e x (.pointer<|some ⟨b,0,wF⟩)).p S' w:=by have⟨cs,h1,f⟩:=h;exact⟨b,0,cs.toList,O,d,At.row h1,e.sub f λk _=>a k⟩
def ry{xs:N α}{v:wN}(a:∀k,S k->S' k)(b:∀k,v.ownBlock=Z k->S' k)(h:(mO e E v xs).p S w):(fV (eS e) xs v).p S' w:=by
 have⟨cs,h1,c⟩:=h;refine wb.2 ?_;rcases h1.2 with⟨rfl,h0⟩|⟨g,cap,d,rfl,hd,f,i,j,l,hc⟩
 have:xs=[]:=xbp h0;subst this;exact SlP.nil;refine SlP.of_at (b g O) ((At.row f).take<|X xs*e.n) ?_ O i j;rw[hc];exact c.sub λk _=>a k
end
end
section
def ui(P:jP)(o:uT)(env:y6)(w:wP)(K:wN->wP->Prop):Prop:=
 match(jp (ev env) o).run P w with
 |.ok (.value v) w'=>K v w'
 |.ok .skip w'=>K Z0 w'
 |.ok (.enter f args) w'=>UT P f args w' (λe b=>∃v,e=.returned v/\K v b)
 |.ok (.round l f ts a c) w'=>RoundIn xcS 0 P l f ts a c w' (λe b=>∃v,e=.returned v/\K v b)
 |_=>KW
def zmG{ro:V K}{a:wW->wN}{o:uT}{P:jP}{w:wP}(h:∀d w',(jp a o).run P w≠ .ok (.defer d) w')(e:∀r w',(jp a o).run P w≠ .halt r w'):(o.semAt ro a).run P w=(jp a o).run P w:=by
 by_cases hd:∃c,o.op=.defer c;have⟨c,hc⟩:=hd;exfalso
 cases b:(jp a o).run P w with
 |halt r w'=>exact e r w' b
 |ok x w'=>
  unfold jp at b;rw[hc]at b;simp only[xay]at b
  cases f:(Ws a c o.type).run P w with
  |halt r w1=>rw[f]at b;simp at b
  |ok d w1=>
   refine h d w' ?_;unfold jp;simp_all
 rw[Oper.semAt_eq _ _ _ λc hc=>hd ⟨c,hc⟩]
def ui.wp{P:jP}{o:uT}{a:V0}{w:wP}{K:wN->wP->Prop}{j:V0->wP->Prop}{Q:eX->V0->wP->Prop}{N:Nd}
 (h:ui P o (zW a) w K) (b:∀v w',K v w'->j (a.put o.dst v) w'):o.wpIn N.F 0 P a w j Q:=by
 unfold ui at h;refine⟨λ_ _=>wR,?_⟩;have k:=zmG (ro:=N.rd) (λd w' e=>by rw[e]at h;exact h) (λr w' e=>by rw[e]at h;exact h);rw[Km];rw[k];generalize(jp (ev<|zW a) o).run P w=r at*
 cases r with
 |ok n w'=>
  cases n<;>simp only at h<;>simp only[Oper.uponIn]
  case value v=>exact b _ _ h
  case skip=>exact b _ _ h
  case enter f args=>exact⟨λe=>by simp[xcS]at e,CallsIn.mono (callsIn_wide.2 h) λe g ⟨v,i,hv⟩=>by subst i;exact b _ _ hv⟩
  case round l f ts s c=>exact⟨λe=>by simp[xcS]at e,RoundIn.mono h λe g ⟨v,i,hv⟩=>by subst i;exact b _ _ hv⟩
 |halt x w'=>exact h.elim
def ui.mono{P:jP}{o:uT}{env:y6}{w:wP}{K g:wN->wP->Prop}(h:ui P o env w K)(a:∀v w',K v w'->g v w'):ui P o env w g:=by
 unfold ui at*
 generalize(jp (ev env) o).run P w=r at*
 cases r with
 |ok n w'=>
  cases n<;>simp only at h⊢
  case value v=>exact a _ _ h
  case skip=>exact a _ _ h
  case enter f args=>exact h.mono λe b ⟨v,d,hv⟩=>⟨v,d,a _ _ hv⟩
  case round l f ts s c=>exact h.mono λe b ⟨v,d,hv⟩=>⟨v,d,a _ _ hv⟩
 |halt x w'=>exact h.elim
def ui.of_value{P:jP}{o:uT}{env:y6}{w w':wP}{v:wN}{K:wN->wP->Prop}(h:(jp (ev env) o).run P w=.ok (.value v) w')(a:K v w'):ui P o env w K:=by unfold ui;rw[h];exact a
def ui.of_skip{P:jP}{o:uT}{env:y6}{w w':wP}{K:wN->wP->Prop}(h:(jp (ev env) o).run P w=.ok .skip w')(a:K Z0 w'):ui P o env w K:=by unfold ui;rw[h];exact a
def gd(a:ut uT)(env:y6)(j:K):V v6:=
 match(a[j]?).bind (·.dst)with
 |some d=>match env d with
  |.bool b=>Z b
  |_=>wF
 |none=>wF
def yR(b:ut uT)(env:y6)(o:uT):v6:=
 match o.guard with
 |none=>wL
 |some (j,a)=>gd b env j==Z a
theorem zat(b:ut uT)(a:V0)(j:K):yielded b a.tmps j=gd b (zW a) j:=by
 unfold yielded gd zW
 cases(b[j]?).bind (·.dst)with
 |none=>rfl
 |some d=>
  simp only[Option.bind_some,xbv]
  cases a.tmps[d]? with
  |none=>rfl
  |some v=>cases v<;>rfl
def WH(b:ut uT)(a:V0)(o:uT):Region.wanted o (yielded b a.tmps)=yR b (zW a) o:=by grind [Region.wanted,yR,zat]
def qK(N:K):V Z4->v6
 |some d=>xda d N
 |none=>wL
def U3{N:K}{d:V Z4}(h:qK N d=wL):∀t,d=Z t->t<N:=by rintro t rfl;simpa[qK]using h
def WpL(P:jP)(N:Nd)(b:ut uT)(l:xS uT)(Q:Qs)(env:y6)(w:wP):Prop:=
 ∀a:V0,a.tmps.size=N.n->a.defers=N.ds->zW a=env->WL N.F 0 P b (zc0 N Q) l a w
def TL(P:jP)(N:Nd)(we:wP)(Se:K->Prop)(ms:xS MF)(Γ:xS FF)(a:ut uT)(l:xS uT)(Q:Qs)(env:y6):Prop:=
 ∀w,St we Se ms Γ w->WpL P N a l Q env w
def NV{U:Type}(P:jP)(o:uT)(env:y6)(ms:N MF)(Γ:N FF)(b:U->wN)(a:U->N FF)(ok:U->Prop):Prop:=
 ∀w (S:K->Prop),(∀k,w.heap.size<=k->S k)->yS S ms w->zB S Γ w->ui P o env w (λv w'=>∃u,v=b u/\ok u/\bh w w'/\zB S (a u) w')
section
variable{P:jP}{N:Nd}{we:wP}{Se:wr->Prop}{ms:xS MF}{Γ:xS FF}{Q:Qs}{env:y6}{ops:ut uT}{o:uT}{rest:xS uT}
def wH{id:K}{l:xS uT}(h:TL P N we Se ms Γ l.toArray l Q env):T P N we Se ms Γ (.region id l.toArray I) Q env:=
 λw b a h1 c d=>bV<|h w b a h1 c d
def jr(h:∀w,St we Se ms Γ w->Q .normal env w):TL P N we Se ms Γ ops [] Q env:=
 λw a _ h1 b c=>gC ⟨h1,b,c▸h w a⟩
def Nv{c:Z9}{a:Qs}(h:T P N we Se ms Γ c a env):TL P N we Se ms Γ ops [] (zme (Wp P N c a) Q) env:=jr h
def ze0(live:xS (K×wN)){l:xS uT}(h:JV env live)(k:∀rest,TL P N we Se ms Γ ops l Q<|L live rest):TL P N we Se ms Γ ops l Q env:=by have:=k env;rwa[Q2 h]at this
def zrs{p:Prop}{l:xS uT}(hp:∀(S:K->Prop) (w:wP),zB S Γ w->p)(k:p->TL P N we Se ms Γ ops l Q env):TL P N we Se ms Γ ops l Q env:=
 λw a=>let⟨S,_,h⟩:=a.ex;k (hp S w h) w a
def zho{p:Prop}{c:Z9}(hp:∀(S:K->Prop) (w:wP),zB S Γ w->p)(k:p->T P N we Se ms Γ c Q env):T P N we Se ms Γ c Q env:=
 λw a=>let⟨S,_,h⟩:=a.ex;k (hp S w h) w a
def nW(b:yR ops env o=wL)(hd:qK N.n o.dst=wL)
 (h:∀w,St we Se ms Γ w->ui P o env w (λv w'=>WpL P N ops rest Q (put env o.dst v) w')):TL P N we Se ms Γ ops (o::rest) Q env:=by
 intro w c a h1 d e;subst e;unfold WL;rw[iq<|by rw[WH];exact b];refine(h w c).wp λv w' f=> ?_;exact f _ (by rw[UH];exact h1) (by rw[Wb];exact d)<|Wa<|by rw[h1];exact U3 hd
def znC(b:yR ops env o=I)(hd:qK N.n o.dst=wL)(k:TL P N we Se ms Γ ops rest Q (put env o.dst Z0)):TL P N we Se ms Γ ops (o::rest) Q env:=by intro w c a h1 d e;subst e;unfold WL;rw[ir<|by rw[WH,b];exact Bool.false_ne_true];exact⟨λ_ _=>wR,k w c _ (by rw[UH];exact h1) (by rw[Wb];exact d)<|Wa<|by rw[h1];exact U3 hd⟩
def zkz{U:Type}{b:U->wN}{a:U->xS FF}{ok:U->Prop}(f:yR ops env o=wL)(hd:qK N.n o.dst=wL)
 (h:NV P o env ms Γ b a ok) (k:∀u,ok u->TL P N we Se ms (a u++Γ) ops rest Q (put env o.dst<|b u)):TL P N we Se ms Γ ops (o::rest) Q env:=by
 refine nW f hd λw g=> ?_;have⟨h1,j,l,S,p,d,q,c,e⟩:=g;refine(h w S d c e).mono ?_;rintro v w' ⟨u,rfl,r,x,s⟩
 exact k u r w' ⟨h1.trans x,j,l,S,p,λk t=>d k<|xal x.size t,q,
  yS.keep x.to (λm y i hi=>x.block i (yS.lt c m y i hi) wR) c,zB.append s<|zB.keep x.to e⟩
def ZY{v:wN}(a:yR ops env o=wL)(hd:qK N.n o.dst=wL)(h:∀w,(jp (ev env) o).run P w=.ok (.value v) w)
 (k:TL P N we Se ms Γ ops rest Q (put env o.dst v)):TL P N we Se ms Γ ops (o::rest) Q env:=
 nW a hd λw b=>ui.of_value (h w)<|k w b
end
def OG{ι:Type}(P:jP)(o:uT)(env:y6)(we:wP)(Se:K->Prop)(ms:N MF)(Γ:N FF)(a:ι->wN)(b:ι->N MF)(c:ι->N FF)(ok:ι->Prop):Prop:=
 ∀w,St we Se ms Γ w->ui P o env w (λv w'=>∃i,v=a i/\ok i/\St we Se (b i) (c i) w')
section
variable{P:jP}{N:Nd}{we:wP}{Se:wr->Prop}{ms:xS MF}{Γ:xS FF}{Q:Qs}{env:y6}{ops:ut uT}{o:uT}{rest:xS uT}
def zmd{ι:Type}{a:ι->wN}{b:ι->xS MF}{c:ι->xS FF}{ok:ι->Prop}(d:yR ops env o=wL)(hd:qK N.n o.dst=wL)(h:OG P o env we Se ms Γ a b c ok)
 (k:∀i,ok i->TL P N we Se (b i) (c i) ops rest Q (put env o.dst<|a i)):TL P N we Se ms Γ ops (o::rest) Q env:=
 nW d hd λw f=>(h w f).mono λv w' ⟨i,e,hi,g⟩=>e▸k i hi w' g
def Sw{U:Type}{b:U->wN}{a:U->xS FF}{ok:U->Prop}(h:NV P o env ms Γ b a ok):OG P o env we Se ms Γ b (λ_=>ms) (λu=>a u++Γ) ok:=by
 intro w ⟨h1,g,j,S,l,d,n,c,f⟩;refine(h w S d c f).mono ?_;rintro v w' ⟨u,e,p,x,q⟩
 exact⟨u,e,p,h1.trans x,g,j,S,l,λk r=>d k<|xal x.size r,n,
  yS.keep x.to (λm s i hi=>x.block i (yS.lt c m s i hi) wR) c,zB.append q<|zB.keep x.to f⟩
end
def pv(o:uT)(env:y6):V wN:=
 match o.op with
 |.move x|.assign x=>Z<|ev env x
 |.extract t i=>match ev env t with
  |.tuple vs=>vs[i]?
  |_=>wF
 |.pick c a b=>match ev env c with
  |.bool t=>Z<|bif t then ev env a else ev env b
  |_=>wF
 |.unOp .not _ x=>match ev env x with
  |.bool t=>Z (.bool !t)
  |_=>wF
 |.makeFunc f first d=>Z (.func f (first.map<|ev env)<|d.map<|ev env)
 |_=>wF
def da{P:jP}{o:uT}{env:y6}{v:wN}(h:pv o env=Z v)(w:wP):(jp (ev env) o).run P w=.ok (.value v) w:=by
 unfold pv at h;unfold jp;split at h;simp_all;simp_all;rename_i t i e;simp only[e];split at h
 next vs hv=>simp[hv,Instr.extract,h]
 cases h
 rename_i c a b e;simp only[e];split at h
 next t ht=>cases h;cases t<;>simp[ht,asBool]
 cases h
 rename_i ty x e;simp only[e];split at h
 next t ht=>cases h;simp[ht,Op.unary]
 cases h
 next f a b e=>cases h;simp[e,Instr.makeFunc]
 cases h
def Av(N:K)(a:ut uT):xS uT->y6->V y6
 |[],env=>Z env
 |o::r,env=>bif qK N o.dst then(bif yR a env o then(match pv o env with
  |some v=>Av N a r<|put env o.dst v
  |none=>wF)else(match o.guard with
  |some (j,b)=>bif gd a env j==Z (!b)then Av N a r (put env o.dst Z0)else wF
  |none=>wF))else wF
section
variable{P:jP}{N:Nd}{we:wP}{Se:wr->Prop}{ms:xS MF}{Γ:xS FF}{Q:Qs}{ops:ut uT}
def bJ:∀(l:xS uT) (b:xS uT) (env a:y6),Av N.n ops l env=Z a->TL P N we Se ms Γ ops b Q a->TL P N we Se ms Γ ops (l++b) Q env
 |[],_,env,a,h,k=>by cases h;exact k
 |o::r,b,env,a,h,k=>by
  unfold Av at h;cases hd:qK N.n o.dst
  simp_all;rw[hd]at h;cases d:yR ops env o
  rw[d]at h;simp only[XS]at h;split at h;rename_i j c f;cases e:(gd ops env j==Z (!c))
  simp_all;rw[e]at h;exact znC d hd<|bJ r b _ _ h k;cases h
  rw[d]at h
  cases hp:pv o env with
  |none=>rw[hp]at h;cases h
  |some v=>rw[hp]at h;exact ZY d hd (λw=>da hp w)<|bJ r b _ _ h k
def chk(env:V y6)(live:xS (K×wN)):Prop:=match env with
 |some env=>JV env live
 |none=>KW
def Ig(n:K)(live:xS (K×wN)){l:xS uT}{env:y6}(h:chk (Av N.n ops (l.take n) env) live)(k:∀rest,TL P N we Se ms Γ ops (l.drop n) Q<|L live rest):TL P N we Se ms Γ ops l Q env:=by
 rw[<-xby n l]
 cases hp:Av N.n ops (l.take n) env with
 |none=>rw[hp]at h;exact h.elim
 |some a=>
  rw[hp]at h;refine bJ _ _ _ _ hp ?_;exact ze0 live h k
end
structure Jo(P:jP)(t:wT)(agg:v6)(size bytes:K)(zero:wN):Prop where
 und:∃d,P.underlying t=Z d/\(match d with|.struct _|.array _ _=>wL|_=>I)=agg
 info:∃i,P.info? t=Z i/\i.size=size/\i.bytes=bytes/\i.zero=Z zero
def tyB(P:jP)(t:wT):V (v6×K×K×V wN):=
 match P.underlying t,P.info? t with
 |some d,Z i=>Z ((match d with|.struct _|.array _ _=>wL|_=>I),i.size,i.bytes,i.zero)
 |_,_=>wF
def Jo.of{P:jP}{t:wT}{agg:v6}{size bytes:K}{a:wN}(h:tyB P t=Z (agg,size,bytes,Z a)):Jo P t agg size bytes a:=by unfold tyB at h;split at h;rename_i d i hd hi;simp only[xau,xcL]at h;exact⟨⟨d,hd,h.1⟩,i,hi,h.2.1,h.2.2.1,h.2.2.2⟩;cases h
def jb(b o j:K):(⟨b,o,wF⟩:UL).add j=⟨b,o+j,wF⟩:=by unfold Addr.add;split<;>simp_all
def Hq{P:jP}{t:wT}{agg:v6}{size bytes:K}{a:wN}(ht:Jo P t agg size bytes a)(w:wP):(isAgg t).run P w=.ok agg w:=by have⟨⟨d,hd,b⟩,_⟩:=ht;unfold isAgg;simp only[xay,ul hd];cases d<;>simp_all
def wo{P:jP}{t:wT}{agg:v6}{size bytes:K}{a:wN}(ht:Jo P t agg size bytes a)(w:wP):(V3 t).run P w=.ok size w:=by have⟨_,i,hi,h1,_⟩:=ht;simp[V3,V9,hi,h1]
def uu{P:jP}{t:wT}{agg:v6}{size bytes:K}{a:wN}(ht:Jo P t agg size bytes a)(w:wP):(cE t).run P w=.ok a w:=by have⟨_,i,hi,_,_,h1⟩:=ht;simp[cE,V9,hi,h1]
def NA{P:jP}{α:Type}{e:zT α}{t:wT}{bytes:K}{a:wN}(ht:Jo P t e.agg e.n bytes a){w w0:wP}{b o:K}{cs:N wN}{S:K->Prop}{x:α}
 (hp:e.p S x cs w0) (d:At w b o cs):(iP t ⟨b,o,wF⟩).run P w=.ok (e.val cs) w:=by
 unfold iP;rw[xay,Hq ht];cases hd:e.agg
 have hl:=e.len hp;rw[e.n1 hd]at hl;obtain⟨c,rfl⟩:=xcT.1 hl;have:=d.2 0 c O;simp only[xbM]at this;simp[this,zT.val,hd];have hl:=e.len hp;have hc:=am (P:=P) w ⟨b,o,wF⟩ cs (λj v hv=>by rw[jb];exact d.2 j v hv);rw[hl]at hc;simp[wo ht,hc,zT.val,hd]
def fJ{P:jP}{α:Type}{e:zT α}{t:wT}{bytes:K}{a:wN}(ht:Jo P t e.agg e.n bytes a){w:wP}{b o:K}{cs:N wN}{S:K->Prop}{x:α}
 (hp:e.p S x cs w) (c:At w b o cs):(iP t ⟨b,o,wF⟩).run P w=.ok (e.val cs) w:=NA ht hp c
section
variable{P:jP}{env:y6}{ms:xS MF}{Γ:xS FF}{d:ww Z4}{ty:wT}{pos:String}{aft:ut Edge}{g:ww (wr×v6)}
def zou{α:Type}{e:zT α}{xs:N α}{v:wN}{x:wW}{at_ b:wT}(c:P.underlying at_=Z (.slice b))(f:ev env x=v)(h:∀(S:K->Prop) (w:wP),zB S Γ w->(fV (eS e) xs v).p S w):
 NV P ⟨d,.call ⟨.builtin .len,#[x],#[at_]⟩,ty,pos,aft,g⟩ env ms Γ (λ_:Z3=> .int .i64 (X xs:J)) (λ_=>[]) (λ_=>X xs<=9223372036854775807):=by
 intro w S _ _ a;have⟨j,cap,hv,hc,i,_⟩:=wb.1<|h S w a;refine ui.of_value ?_ ⟨(),O,xal hc i,yJ.refl _ _,wR⟩;simp[jp,Ws,WP,Ut,f,hv,Builtin.len_,i8,ul c]
def PV{α:Type}{e:zT α}{t c:wT}{bytes:K}{a:wN}(ht:P.underlying t=Z (.slice c))(f:Jo P c e.agg e.n bytes a){w:wP}{b o n cap k:K}
 (h:k<n) (ik:Z5):(Instr.indexAt t (.slice (Z ⟨b,o,wF⟩) n cap) (.int ik (k:J))).run P w=.ok (.pointer<|some ⟨b,o+k*e.n,wF⟩) w:=by
 unfold Instr.indexAt;have:(0:J)<=k/\(k:J)<n:=W
 simp only[Kw,ul ht,xay,xaV,xan,iq this,wo f,jb,xaZ]
theorem zgF{α:Type}{e:zT α}{xs:N α}{v:wN}{x i:wW}{t h:wT}{bytes:K}{a:wN}{k:K}{y:α}{ik:Z5}(q:ev env x=v)(hi:ev env i=.int ik (k:J))
 (ht:P.underlying t=Z (.slice h)) (hd:Jo P h e.agg e.n bytes a) (l:xs[k]? =Z y) (r:∀(S:K->Prop) (w:wP),zB S Γ w->(fV (eS e) xs v).p S w):
 NV P ⟨d,.indexAddr t x i,ty,pos,aft,g⟩ env ms Γ (λp:wN=>p) (λp=>[fP e y p]) (λ_=>Xs):=by
 intro w S _ _ f;have⟨D,cap,hv,h1,E,s⟩:=wb.1<|r S w f;have u:=(xaz.1 l).1;obtain rfl|⟨b,o,cs,rfl,z,m,A⟩:=s
 grind;refine ui.of_value (v:=.pointer<|some ⟨b,o+k*e.n,wF⟩) ?_ ⟨_,O,wR,yJ.refl _ _,⟨⟨b,o+k*e.n,?_⟩,wR⟩⟩;simp[jp,q,hi,hv,PV ht hd u];have⟨c,hc,B⟩:=A.get l;refine⟨c,O,z,⟨m.1,λj v hv=> ?_⟩,hc⟩;have C:j<e.n:=by rw[<-e.len hc];exact(xaz.1 hv).1
 rw[xcK];exact m.2 _ v<|by rw[B j C];exact hv
def zkU{α:Type}{e:zT α}{y:α}{p:wN}{x:wW}{t:wT}{bytes:K}{a:wN}(h:ev env x=p)(ht:Jo P t e.agg e.n bytes a)
 (i:∀(S:K->Prop) (w:wP),zB S Γ w->(fP e y p).p S w):
 NV P ⟨d,.load t x,ty,pos,aft,g⟩ env ms Γ (λv:wN=>v) (λv=>[fV e y v]) (λ_=>Xs):=by
 intro w S _ _ c;obtain⟨b,o,cs,rfl,k,j,f⟩:=i S w c;refine ui.of_value ?_ ⟨_,O,wR,yJ.refl _ _,⟨⟨cs,O,f⟩,wR⟩⟩;simp[jp,h,Instr.loadAt,xfz,fJ ht f j]
def O7{α:Type}{e:zT α}{xs:N α}{v:wN}{x:wW}{lo hi:V wW}{t j:wT}{bytes:K}{a:wN}{l h:K}(k:ev env x=v)
 (ht:P.underlying t=Z (.slice j)) (m:Jo P j e.agg e.n bytes a) (hl:(lo.map<|ev env)=Z (.int .i64 (l:J))\/(lo=wF/\l=0)) (c:(hi.map<|ev env)=Z (.int .i64 (h:J))\/(hi=wF/\h=X xs))
 (A:l<=h) (B:h<=X xs) (q:∀(S:K->Prop) (w:wP),zB S Γ w->(fV (eS e) xs v).p S w):
 NV P ⟨d,.slice t x lo hi wF,ty,pos,aft,g⟩ env ms Γ (λp:wN=>p) (λp=>[fV (eS e) ((xs.drop l).take<|h-l) p]) (λ_=>Xs):=by
 intro w S _ _ i;have⟨f,cap,hv,h1,C,r⟩:=wb.1<|q S w i;have b1:(0:J)<=(l:J)/\(l:J)<=(h:J):=W
 have b2:(0:J)<=(h:J)/\(h:J)<=(cap:J):=W
 have s:(xcV t v (lo.map<|ev env) (hi.map<|ev env) wF).run P w=.ok (.slice (if cap=l then f else f.map (·.add (l*e.n))) (h-l)<|cap-l) w:=by
  unfold xcV;rw[hv];simp only[xay,ul ht,xan];unfold xfT;simp only[xay,ul ht,xan];unfold xet
  obtain hl|⟨hl,rfl⟩:=hl<;>obtain c|⟨c,rfl⟩:=c<;>
   simp only[hl,c,xeJ,Kw,Option.map_none,xay,xaV,xan,iq b1,iq b2,wo m,xaZ]
 refine ui.of_value (w':=w) (v:=.slice (if cap=l then f else f.map (·.add (l*e.n))) (h-l)<|cap-l) ?_ ⟨_,O,wR,yJ.refl _ _,⟨?_,wR⟩⟩;simp[jp,k,s];have hd:X ((xs.drop l).take<|h-l)=h-l:=by simp;lia
 refine wb.2 ⟨_,cap-l,by rw[hd],by rw[hd];lia,W,?_⟩;obtain rfl|⟨b,o,cs,rfl,u,y,z⟩:=r
 left;simp;by_cases hc:cap=l;left;have:h-l=0:=W
 simp[this];right;refine⟨b,o+l*e.n,(cs.drop<|l*e.n).take<|(h-l)*e.n,by simp[hc,jb],u,(y.drop _).take _,(z.drop l).take<|h-l⟩
end
end
section
section
variable{P:jP}{env:y6}{Γ:xS FF}{d:ww Z4}{ty yt t:wT}{pos:String}{aft:ut Edge}{g:ww (wr×v6)}{x y:wW}
def w64{x:J}(h: -9223372036854775808<=x/\x<=9223372036854775807):xdb.wrap x=x:=IntWalk.i64_in x h
def zsm(n:K):xcr.wrap (n:J)=((n%18446744073709551616:K):J):=by rfl
theorem pV{n:K}(h:n<18446744073709551616):xcr.wrap (n:J)=(n:J):=by rw[zsm,xao h]
def Cr(x:J):xcr.wrap x=x%18446744073709551616:=by rfl
def Au{c:Jp}{k:Z5}{a b:J}{v:wN}(e:ev env x=.int k a)(f:ev env y=.int k b)(hv:∀w,(V6 c t (.int k a) (.int k b)).run P w=.ok v w)(w:wP):
 (jp (ev env) ⟨d,.binOp c t x y yt,ty,pos,aft,g⟩).run P w=.ok (.value v) w:=by
 have:(WW c t x y (.int k a) (.int k b)).run P w=.ok () w:=by unfold WW;simp_all
 simp only[jp,e,f,xay,this,xan,hv,xaV]
def CB{k:Z5}{a b c:J}(e:ev env x=.int k a)(f:ev env y=.int k b)(hc:k.wrap (a+b)=c)(w:wP):
 (jp (ev env) ⟨d,.binOp .add t x y yt,ty,pos,aft,g⟩).run P w=.ok (.value (.int k c)) w:=
 Au e f (λw=>by simp[V6,Op.intArith,hc]) w
def zeJ{k:Z5}{a b c:J}(e:ev env x=.int k a)(f:ev env y=.int k b)(hc:k.wrap (a-b)=c)(w:wP):
 (jp (ev env) ⟨d,.binOp .sub t x y yt,ty,pos,aft,g⟩).run P w=.ok (.value (.int k c)) w:=
 Au e f (λw=>by simp[V6,Op.intArith,hc]) w
def zlq{k:Z5}{a b c:J}(e:ev env x=.int k a)(f:ev env y=.int k b)(hc:k.wrap (a*b)=c)(w:wP):
 (jp (ev env) ⟨d,.binOp .mul t x y yt,ty,pos,aft,g⟩).run P w=.ok (.value (.int k c)) w:=
 Au e f (λw=>by simp[V6,Op.intArith,hc]) w
def zlJ{k:Z5}{a b c:J}(e:ev env x=.int k a)(f:ev env y=.int k b)(h0:b≠0)(hc:k.wrap (a.tdiv b)=c)(w:wP):
 (jp (ev env) ⟨d,.binOp .quo t x y yt,ty,pos,aft,g⟩).run P w=.ok (.value (.int k c)) w:=
 Au e f (λw=>by simp[V6,Op.intDiv,h0,hc]) w
def zl4{k:Z5}{a b c:J}(e:ev env x=.int k a)(f:ev env y=.int k b)(h0:b≠0)(hc:a.tmod b=c)(w:wP):
 (jp (ev env) ⟨d,.binOp .rem t x y yt,ty,pos,aft,g⟩).run P w=.ok (.value (.int k c)) w:=
 Au e f (λw=>by simp[V6,Op.intDiv,h0,hc]) w
def Ey{k e:Z5}{a b c:J}(f:ev env x=.int k a)(h:ev env y=.int e b)(h0:0<=b)(hc:a.fdiv (2^(min b.toNat k.bits))=c)(w:wP):
 (jp (ev env) ⟨d,.binOp .shr t x y yt,ty,pos,aft,g⟩).run P w=.ok (.value (.int k c)) w:=by
 have:¬b<0:=W
 simp[jp,f,h,WW,V6,Op.shift,this,hc]
def zbe{k e:Z5}{a b c:J}(f:ev env x=.int k a)(h:ev env y=.int e b)(h0:0<=b)(hc:k.wrap (a*2^(min b.toNat k.bits))=c)(w:wP):
 (jp (ev env) ⟨d,.binOp .shl t x y yt,ty,pos,aft,g⟩).run P w=.ok (.value (.int k c)) w:=by
 have:¬b<0:=W
 simp[jp,f,h,WW,V6,Op.shift,this,hc]
def zl0{k:Z5}{a b c:J}(e:ev env x=.int k a)(f:ev env y=.int k b)(hc:k.wrap (((a%2^k.bits).toNat &&& (b%2^k.bits).toNat:K):J)=c)(w:wP):
 (jp (ev env) ⟨d,.binOp .and t x y yt,ty,pos,aft,g⟩).run P w=.ok (.value (.int k c)) w:=
 Au e f (λw=>by simp[V6,Op.intBits,hc]) w
def zpb{k:Z5}{a b c:J}(e:ev env x=.int k a)(f:ev env y=.int k b)(hc:k.wrap (((a%2^k.bits).toNat|||(b%2^k.bits).toNat:K):J)=c)(w:wP):
 (jp (ev env) ⟨d,.binOp .or t x y yt,ty,pos,aft,g⟩).run P w=.ok (.value (.int k c)) w:=
 Au e f (λw=>by simp[V6,Op.intBits,hc]) w
def zlV{k:Z5}{a c:J}(b:ev env x=.int k a)(hc:k.wrap (0-a)=c)(w:wP):
 (jp (ev env) ⟨d,.unOp .neg t x,ty,pos,aft,g⟩).run P w=.ok (.value (.int k c)) w:=by
 simp only[jp,b,Op.unary,Op.intArith,hc,xay,xaV,xan]
def Qk{k k':Z5}{src b:wT}{e:TypeDesc}{a c:J}(f:P.underlying src=Z e)(hd:P.underlying b=Z (.int k'))(h:ev env x=.int k a)(hc:k'.wrap a=c)(w:wP):
 (jp (ev env) ⟨d,.convert src b x,ty,pos,aft,g⟩).run P w=.ok (.value (.int k' c)) w:=by
 simp[jp,h,convert,ul f,ul hd,Conv.intToInt,hc]
def zpv{a b:J}{ts:ut wT}(c:ev env x=.int .i64 a)(f:ev env y=.int .i64 b)(w:wP):
 (jp (ev env) ⟨d,.call ⟨.builtin .max,#[x,y],ts⟩,ty,pos,aft,g⟩).run P w=.ok (.value (.int .i64<|max a b)) w:=by
 have e:(if b>a then b else a)=max a b:=W
 simp only[jp,Ws,WP,Ut,xeb,xbQ,xdS,c,f,Builtin.max_,Builtin.max2,xay,xaV,xan,List.foldlM_cons,List.foldlM_nil,e]
def zpX{a b:J}{ts:ut wT}(c:ev env x=.int .i64 a)(f:ev env y=.int .i64 b)(w:wP):
 (jp (ev env) ⟨d,.call ⟨.builtin .min,#[x,y],ts⟩,ty,pos,aft,g⟩).run P w=.ok (.value (.int .i64<|min a b)) w:=by
 have e:(if b<a then b else a)=min a b:=W
 simp only[jp,Ws,WP,Ut,xeb,xbQ,xdS,c,f,Builtin.min_,Builtin.min2,xay,xaV,xan,List.foldlM_cons,List.foldlM_nil,e]
end
end
section
def O2{α:Type}(l:N α){n:K}(h:X l<=n):l.drop n=[]:=xbR h
section
variable{P:jP}{N:Nd}{we:wP}{Se:wr->Prop}{ms:xS MF}{Γ:xS FF}{Q:Qs}{env:y6}{ops:ut uT}{rest:xS uT}
 {d:ww Z4}{ty yt t:wT}{pos:String}{aft:ut Edge}{g:ww (wr×v6)}{x y:wW}
def Ar{e:Jp}{k:Z5}{a b:J}{c:v6}(f:ev env x=.int k a)(h:ev env y=.int k b)
 (hc:∀w,(V6 e t (.int k a) (.int k b)).run P w=.ok (.bool c) w) (w:wP):(jp (ev env) ⟨d,.binOp e t x y yt,ty,pos,aft,g⟩).run P w=.ok (.value (.bool c)) w:=Au f h hc w
def zaV{k:Z5}{a b:J}(c:yR ops env ⟨d,.binOp .geq t x y yt,ty,pos,aft,g⟩=wL)(hd:qK N.n d=wL)(e:ev env x=.int k a)(f:ev env y=.int k b)
 (k1:b<=a->TL P N we Se ms Γ ops rest Q (put env d (.bool wL))) (k2:¬b<=a->TL P N we Se ms Γ ops rest Q (put env d (.bool I))):
 TL P N we Se ms Γ ops (⟨d,.binOp .geq t x y yt,ty,pos,aft,g⟩::rest) Q env:=by
 by_cases h:b<=a;exact ZY c hd (Ar e f λw=>by simp[V6,xfU,h])<|k1 h;exact ZY c hd (Ar e f λw=>by simp[V6,xfU,h])<|k2 h
def ziy{k:Z5}{a b:J}(c:ev env x=.int k a)(e:ev env y=.int k b)(w:wP):(jp (ev env) ⟨d,.binOp .lss t x y yt,ty,pos,aft,g⟩).run P w=.ok (.value (.bool<|decide<|a<b)) w:=
 Ar c e (λw=>by simp[V6,xfU]) w
def zfs{k:Z5}{a b:J}(c:ev env x=.int k a)(e:ev env y=.int k b)(w:wP):(jp (ev env) ⟨d,.binOp .leq t x y yt,ty,pos,aft,g⟩).run P w=.ok (.value (.bool<|decide<|a<=b)) w:=
 Ar c e (λw=>by simp[V6,xfU]) w
def zit{k:Z5}{a b:J}(c:ev env x=.int k a)(e:ev env y=.int k b)(w:wP):(jp (ev env) ⟨d,.binOp .gtr t x y yt,ty,pos,aft,g⟩).run P w=.ok (.value (.bool<|decide<|b<a)) w:=
 Ar c e (λw=>by simp[V6,xfU]) w
def zgt{k:Z5}{a b:J}(c:ev env x=.int k a)(e:ev env y=.int k b)(w:wP):(jp (ev env) ⟨d,.binOp .geq t x y yt,ty,pos,aft,g⟩).run P w=.ok (.value (.bool<|decide<|b<=a)) w:=
 Ar c e (λw=>by simp[V6,xfU]) w
def zhs{k:Z5}{a b:J}(c:ev env x=.int k a)(e:ev env y=.int k b)(w:wP):(jp (ev env) ⟨d,.binOp .eql t x y yt,ty,pos,aft,g⟩).run P w=.ok (.value (.bool<|decide<|a=b)) w:=
 Ar c e (λw=>by simp[V6,xfU];by_cases h:a=b<;>simp[h]) w
def ziA{k:Z5}{a b:J}(c:ev env x=.int k a)(e:ev env y=.int k b)(w:wP):(jp (ev env) ⟨d,.binOp .neq t x y yt,ty,pos,aft,g⟩).run P w=.ok (.value (.bool (!decide (a=b)))) w:=
 Ar c e (λw=>by simp[V6,xfU];by_cases h:a=b<;>simp[h]) w
def fI{a b:v6}(ht:P.underlying t=Z .bool)(w:wP):(Op.equal t (.bool a) (.bool b)).run P w=.ok (a==b) w:=by show(Op.equalIn (9999+1) t (.bool a) (.bool b)).run P w=_;unfold Op.equalIn;simp only[xay,ul ht,xan,xaV]
def zqk{a b:v6}(ht:P.underlying t=Z .bool)(c:ev env x=.bool a)(e:ev env y=.bool b)(w:wP):
 (jp (ev env) ⟨d,.binOp .eql t x y yt,ty,pos,aft,g⟩).run P w=.ok (.value (.bool<|a==b)) w:=by
 have h:(WW .eql t x y (.bool a) (.bool b)).run P w=.ok () w:=by simp[WW]
 have f:(V6 .eql t (.bool a) (.bool b)).run P w=.ok (.bool<|a==b) w:=by simp only[V6,xay,fI ht,xan,xaV]
 simp only[jp,c,e,xay,h,f,xan,xaV]
def zqV{a b:v6}(ht:P.underlying t=Z .bool)(c:ev env x=.bool a)(e:ev env y=.bool b)(w:wP):
 (jp (ev env) ⟨d,.binOp .neq t x y yt,ty,pos,aft,g⟩).run P w=.ok (.value (.bool (!(a==b)))) w:=by
 have h:(WW .neq t x y (.bool a) (.bool b)).run P w=.ok () w:=by simp[WW]
 have f:(V6 .neq t (.bool a) (.bool b)).run P w=.ok (.bool (!(a==b))) w:=by simp only[V6,xay,fI ht,xan,xaV]
 simp only[jp,c,e,xay,h,f,xan,xaV]
def sG(P:jP)(f:Z2):v6:=match P.funcs[f]? with
 |some fn=> !(fn.name== "runtime.NumGoroutine") && fn.body.isSome
 |none=>I
def vY{f:Z2}(h:sG P f=wL)(args:ut wN)(w:wP):(i9 f args).run P w=.ok (.enter f args) w:=by
 unfold sG at h;unfold i9;split at h;rename_i fn a;simp only[xad,xcM]at h;have b:fn.body.isNone=I:=by simpa using h.2
 simp only[xay,run_program,xan,a,h.1,b,xai,uP,xaV];cases h
def zrj{U:Type}{b:U->wN}{a:U->xS FF}{ok:U->Prop}{c:xS FF}{f:Z2}{asv:xS wW}{ts:ut wT}{args:xS wN}(i:sG P f=wL)
 (j:Fn P f args.toArray c b a ok) (k:asv.map (ev env)=args) (l:∀(S:K->Prop) (w:wP),zB S Γ w->zB S c w):
 NV P ⟨d,.call ⟨.value (.func f),asv.toArray,ts⟩,ty,pos,aft,g⟩ env ms Γ b a ok:=by
 intro w S m _ h;unfold ui;have:(jp (ev env) ⟨d,.call ⟨.value (.func f),asv.toArray,ts⟩,ty,pos,aft,g⟩).run P w=.ok (.enter f args.toArray) w:=by simp[jp,Ws,ev,xcW,WP,vY i,k]
 rw[this];exact(j w S m<|l S w h).mono λe w' ⟨u,n,o,p,hc⟩=>⟨b u,n,u,O,o,p,hc⟩
def re{U:Type}{b:U->wN}{a:U->xS FF}{ok:U->Prop}{c:xS FF}{f:Z2}{asv:xS wW}{ts:ut wT}{args br:xS wN}{x:wW}(j:sG P f=wL)
 (h:ev env x=.func (.func f) #[] br.toArray) (k:Fn P f (args++br).toArray c b a ok) (l:asv.map (ev env)=args) (m:∀(S:K->Prop) (w:wP),zB S Γ w->zB S c w):
 NV P ⟨d,.call ⟨.value x,asv.toArray,ts⟩,ty,pos,aft,g⟩ env ms Γ b a ok:=by
 intro w S n _ i;unfold ui;have:(jp (ev env) ⟨d,.call ⟨.value x,asv.toArray,ts⟩,ty,pos,aft,g⟩).run P w=.ok (.enter f (args++br).toArray) w:=by simp[jp,Ws,h,xcW,WP,vY j,l]
 rw[this];exact(k w S n<|m S w i).mono λe w' ⟨u,o,p,h,hc⟩=>⟨b u,o,u,O,p,h,hc⟩
def tS(off:K):∀(c:xS wN) (k:K) (a:ut wN),off+k+X c<=a.size->
 ((c.zipIdx k).foldl (λcs (x:wN×K)=>cs.setIfInBounds (off+x.2) x.1) a).toList=a.toList.take (off+k)++c++a.toList.drop (off+k+X c)
 |[],k,a,h=>by simp
 |v::c,k,a,h=>by
  simp only[xaw]at h;rw[List.zipIdx_cons,List.foldl_cons];have:=tS off c (k+1) (a.setIfInBounds (off+k) v) (by simp;lia);rw[this];simp only[Array.toList_setIfInBounds,xaw];have b:off+k<X a.toList:=by simp;lia
  rw[(W:off+(k+1)=off+k+1),xee,iq b];have e1:X (a.toList.take<|off+k)=off+k:=by simp;lia
  rw[List.take_append,List.drop_append,e1];simp only[(W:off+k+1-(off+k)=1),xeF,List.take_zero,(W:off+k+1+X c-(off+k)=X c+1),List.drop_succ_cons];rw[xaW (by rw[e1];lia),O2 (xdB (off+k) a.toList) (by rw[e1];lia),List.drop_drop];simp only[xbN,xaq,xbL,xbN];congr 3;congr 1;lia
def jz(parts:xS (K×wN)):xS wN:=parts.flatMap λx=>x.2.cells.toList
def aY(a:K->V (K×K)):xS (K×wN)->K->Prop
 |[],_=>Xs
 |(i,v)::r,off=>a i=Z (off,v.cells.size)/\aY a r (off+v.cells.size)
def nV{c:K->V (K×K)}:∀(parts:xS (K×wN)) (b z:xS wN),aY c parts (X b)->X (jz parts)<=X z->
 xdJ c (b++z).toArray parts=Z (b++jz parts++z.drop (X (jz parts))).toArray
 |[],b,z,_,_=>by simp[xdJ,jz]
 |(i,v)::r,b,z,⟨h1,e⟩,hl=>by
  simp only[jz,List.flatMap_cons,xat,xeY]at hl;have f:¬(X b+v.cells.size>(b++z).toArray.size):=by simp;lia
  have h:v.cells.zipIdx.foldl (λcs (x:wN×K)=>cs.setIfInBounds (X b+x.2) x.1) (b++z).toArray=((b++v.cells.toList)++z.drop v.cells.size).toArray:=by apply Array.ext';rw[<-Array.foldl_toList,Array.toList_zipIdx,tS (X b) v.cells.toList 0 _<|by simp;lia];simp
  unfold xdJ;simp only[h1];rw[ir<|by simp only[ne_eq,g8,decide_false,xeG,Us];exact f];have:=nV r (b++v.cells.toList) (z.drop v.cells.size) (by simpa using e) (by simp[jz]at*;lia);refine(uL (λa=>xdJ c a r) h).trans<|this.trans ?_;simp[jz]
def zd6(i:K)(v:wN)(r:xS (K×wN)):jz ((i,v)::r)=v.cells.toList++jz r:=by simp[jz]
def SE{α:Type}{e:zT α}{z:α}{bytes:K}{a:wN}{parts:xS (K×wW)}{vs:xS (K×wN)}(ht:Jo P t wL e.n bytes a)(r:e.agg=wL)(s:a.cells.size=e.n)
 (hv:parts.map (λx=>(x.1,ev env x.2))=vs)
 (hc:(∃fs,P.underlying t=Z (.struct fs)/\∃pl:ut (K×K),(∀w,(fs.mapM (λf=>do pure (f.offset,<-V3 f.type)):Sem (ut<|K×K)).run P w=.ok pl w)/\(∀(S:K->Prop) (w:wP),zB S Γ w->aY (pl[·]?) vs 0))\/
  (∃k l n b2 z2 j,P.underlying t=Z (.array k l)/\Jo P l j n b2 z2/\(∀(S:K->Prop) (w:wP),zB S Γ w->aY (λi=>Z (i*n,n)) vs 0)))
 (hp:∀(S:K->Prop) (w:wP),zB S Γ w->e.p S z (jz vs) w):
 NV P ⟨d,.build t parts.toArray,ty,pos,aft,g⟩ env ms Γ (λv:wN=>v) (λv=>[fV e z v]) (λ_=>Xs):=by
 intro w S _ _ c;have o:=hp S w c;have hl:=e.len o;have u:X a.cells.toList=e.n:=by simpa using s
 refine ui.of_value (w':=w) (v:=.agg (jz vs).toArray) ?_ ⟨_,O,wR,yJ.refl _ _,⟨⟨jz vs,by simp[zT.val,r],o⟩,wR⟩⟩;have q:∀b,aY b vs 0->xdJ b a.cells vs=Z (jz vs).toArray:=by intro b h;have:=nV vs [] a.cells.toList h (by rw[hl,u];exact So _);simp_all
 have hi:parts.toArray.map (λx=>(x.1,ev env x.2))=vs.toArray:=by rw[<-hv];simp
 simp only[jp,xay];have A:(Instr.build t<|parts.toArray.map λx=>(x.1,ev env x.2)).run P w=.ok (.agg (jz vs).toArray) w:=by
  rw[hi];unfold Instr.build;rcases hc with⟨fs,m,pl,hc,hd⟩|⟨k,l,n,b2,z2,j,m,B,hd⟩
  simp only[xay,uu ht,xan,ul m,hc,q _<|hd S w c,xaV];simp only[xay,uu ht,xan,ul m,wo B,q _<|hd S w c,xaV]
 rw[A];rfl
def zcd{α:Type}{e:zT α}{y:α}{v:wN}{S:K->Prop}{w:wP}(h:(fV e y v).p S w):v.cells.size=e.n:=by have:=e.len<|Z6 h;simpa using this
def Gb{α:Type}{e:zT α}{c:wT}{zs:xS α}{len bytes:K}{a:wN}{parts:xS (K×wW)}{vs:xS (K×wN)}(ht:P.underlying t=Z (.slice c))(j:Jo P c e.agg e.n bytes a)
 (hn:0<e.n) (hd:X zs=len) (s:len*e.n<=16777216) (hv:parts.map (λx=>(x.1,ev env x.2))=vs)
 (m:∀(S:K->Prop) (w:wP),zB S Γ w->aY (λi=>Z (i*e.n,e.n)) vs 0) (hp:∀(S:K->Prop) (w:wP),zB S Γ w->yT e S zs (jz vs) w):
 NV P ⟨d,.buildSlice t len parts.toArray,ty,pos,aft,g⟩ env ms Γ (λv:wN=>v) (λv=>[fV (eS e) zs v]) (λ_=>Xs):=by
 intro w S o _ h;have k:=hp S w h;have hl:X (jz vs)=len*e.n:=by rw[k.len,hd]
 have x:=bh.alloc w (.cells (jz vs).toArray c);refine ui.of_value (w':=w.alloc (.cells (jz vs).toArray c)) (v:=.slice (Z ⟨w.heap.size,0,wF⟩) len len) ?_ ⟨_,O,wR,x,⟨wb.2 ?_,wR⟩⟩;have hi:parts.toArray.map (λx=>(x.1,ev env x.2))=vs.toArray:=by rw[<-hv];simp
 have hc:xdJ (λi=>Z (i*e.n,e.n)) ((xeZ<|len*e.n).map (a.cells[·%a.cells.size]!)) vs=Z (jz vs).toArray:=by have:=nV vs [] ((xeZ<|len*e.n).map (a.cells[·%a.cells.size]!)).toList (m S w h) (by simp[hl]);rw[xbN,xcy,xbN,xbR (by simp[hl]),xbm]at this;exact this
 have p:(xeK t len<|parts.toArray.map λx=>(x.1,ev env x.2)).run P w=.ok (.slice (Z ⟨w.heap.size,0,wF⟩) len len) (w.alloc (.cells (jz vs).toArray c)):=by
  rw[hi];unfold xeK;simp only[xay,ul ht,xan,wo j,ir (W:¬len*e.n>2^24),cO];by_cases h0:len*e.n=0
  have u:jz vs=[]:=xbp (by rw[hl,h0]);have q:xdJ (λi=>Z (i*e.n,e.n)) ((xeZ 0).map ((#[]:ut wN)[·%(#[]:ut wN).size]!)) vs=Z (jz vs).toArray:=by
   have l:∀f:K->wN,(xeZ 0).map f= #[]:=λf=>by simp
   rw[<-hc,h0,l,l]
  simp only[h0,uS];simp only[q,xay,JP,xan,xaV];simp only[ir h0,xay,uu j,xan,xaV,hc,JP]
 simp only[jp,xay,p,xan,xaV];have r:At (w.alloc (.cells (jz vs).toArray c)) w.heap.size 0 (jz vs):=by have:=At.row (b:=w.heap.size) (cs:=(jz vs).toArray) (t:=c) (fr:=(0,0))<|WR w _;simpa using this
 refine SlP.of_at (o _<|So _) r (k.keep x.to) hd.symm W ?_;have:len<=len*e.n:=xcj _ hn;unfold V4;lia
def zmB{α:Type}{e:zT α}{E:wT}{z:α}{v:wN}(c:ev env x=v)(f:∀(S:K->Prop) (w:wP),zB S Γ w->(fV e z v).p S w):
 NV P ⟨d,.box E x,ty,pos,aft,g⟩ env ms Γ (λv:wN=>v) (λp=>[fP e z p]) (λ_=>Xs):=by
 intro w S i _ a;have h:=Z6<|f S w a;have b:=bh.alloc w (.cells v.cells E);refine ui.of_value (w':=w.alloc (.cells v.cells E)) (v:=.pointer<|some ⟨w.heap.size,0,wF⟩) ?_ ⟨_,O,wR,b,⟨⟨w.heap.size,0,v.cells.toList,O,i _<|So _,At.row<|WR w _,e.keep h b.to⟩,wR⟩⟩;simp[jp,c,Instr.box,newVar,cO]
end
end
section
def Sub{α β:Type}(e:sU α)(x:α)(o:K)(d:zT β)(g:β)(up:β->α):Prop:=
 ∀(S:K->Prop) (w:wP) (cs:N wN),e.p S x cs w->∃b c a,cs=b++c++a/\X b=o/\d.p S g c w/\∀(w':wP) y f,yJ S w w'->d.p S y f w'->e.p S (up y) (b++f++a) w'
def Sub.self{α:Type}(e:zT α)(x:α):Sub e.c x 0 e x id:=
 λ_ _ cs h=>⟨[],cs,[],mK,O,h,λ_ y b _ a=>by simpa[zT.c]using a⟩
def Sub.fst{α β:Type}(e:zT α)(f:zT β)(x:α×β):Sub (eP e f).c x 0 e x.1 (λy=>(y,x.2)):=by rintro S w cs ⟨c,d,rfl,hc,hd⟩;exact⟨[],c,d,mK,O,hc,λw' y a k b=>⟨a,d,mK,b,f.keep hd k⟩⟩
def Sub.snd{α β:Type}(e:zT α)(f:zT β)(x:α×β):Sub (eP e f).c x e.n f x.2 (λy=>(x.1,y)):=by rintro S w cs ⟨c,d,rfl,hc,hd⟩;exact⟨c,d,[],mK,e.len hc,hd,λw' y a k b=>⟨c,a,mK,e.keep hc k,b⟩⟩
def Sub.nth{α:Type}(k:K)(e:zT α)(xs:N α)(i:K)(x:α)(d:xs[i]? =Z x):Sub (eA k e).c xs (i*e.n) e x (λy=>xs.set i y):=by
 rintro S w cs ⟨hl,a⟩;obtain⟨hi,rfl⟩:=xaz.1 d;have hd:=a.drop i;rw[xbV hi]at hd;have⟨c,r,h1,f,g⟩:=hd;have l:i*e.n<=X cs:=by rw[a.len];exact xaj _ W
 refine⟨cs.take<|i*e.n,c,r,?_,by simp;lia,f,λw' y h b j=>⟨by simpa using hl,?_⟩⟩;rw[xaq,<-h1,xby];show yT e S (xs.set i y) _ w';rw[xee,iq hi,xaq];exact((a.keep b).take i).append ⟨h,r,O,j,g.keep b⟩
def Sub.row{α:Type}(e:zT α)(xs:N α)(i:K)(x:α)(d:xs[i]? =Z x):Sub (zpQ e) xs (i*e.n) e x (λy=>xs.set i y):=by intro S w cs f;have⟨b,c,a,h1,g,h,j⟩:=Sub.nth (X xs) e xs i x d S w cs ⟨O,f⟩;exact⟨b,c,a,h1,g,h,λw' y k l m=>(j w' y k l m).2⟩
def Sub.comp{α β γ:Type}{e:sU α}{x:α}{o m:K}{f:zT β}{y:β}{g:zT γ}{z:γ}{up:β->α}{b:γ->β}(h:Sub e x o f y up)(n:Sub f.c y m g z b):
 Sub e x (o+m) g z (λt=>up<|b t):=by
 intro S w cs p;obtain⟨j,c,d,rfl,h1,q,r⟩:=h S w cs p;obtain⟨i,s,a,rfl,u,hd,v⟩:=n S w c q;refine⟨j++i,s,a++d,mK,by simp[h1,u],hd,λw' t l k hc=> ?_⟩;have:=r w' _ _ k<|v w' t l k hc;simp_all
section
variable{P:jP}{N:Nd}{we:wP}{Se:wr->Prop}{ms:xS MF}{Γ:xS FF}{Q:Qs}{env:y6}{ops:ut uT}{rest:xS uT}
 {d:ww Z4}{ty yt t:wT}{pos:String}{aft:ut Edge}{g:ww (wr×v6)}{x y:wW}
def Cb{c:wT}{ag:v6}{e bytes:K}{a:wN}{b o n cap k:K}{ik:Z5}(ht:P.underlying t=Z (.slice c))(f:Jo P c ag e bytes a)
 (h:ev env x=.slice (Z ⟨b,o,wF⟩) n cap) (hi:ev env y=.int ik (k:J)) (i:k<n) (w:wP):
 (jp (ev env) ⟨d,.indexAddr t x y,ty,pos,aft,g⟩).run P w=.ok (.value (.pointer<|some ⟨b,o+k*e,wF⟩)) w:=by
 have:(0:J)<=k/\(k:J)<n:=W
 simp only[jp,h,hi,Instr.indexAt,Kw,ul ht,xay,xaV,xan,iq this,wo f,jb,xaZ]
def Oc{c:wT}{ag:v6}{e bytes:K}{a:wN}{b o n k:K}{ik:Z5}(ht:P.underlying t=Z (.array n c))(f:Jo P c ag e bytes a)
 (h:ev env x=.pointer (Z ⟨b,o,wF⟩)) (hi:ev env y=.int ik (k:J)) (i:k<n) (w:wP):
 (jp (ev env) ⟨d,.indexAddr t x y,ty,pos,aft,g⟩).run P w=.ok (.value (.pointer<|some ⟨b,o+k*e,wF⟩)) w:=by
 have:(0:J)<=k/\(k:J)<n:=W
 simp only[jp,h,hi,Instr.indexAt,xfz,Kw,ul ht,xay,xaV,xan,iq this,wo f,jb,xaZ]
theorem zdI{α β:Type}{e:zT α}{f:zT β}{z:α}{z':β}{up:β->α}{p:wN}{l:wT}{ag:v6}{h bytes:K}{a:wN}{n k:K}{ik:Z5}(ht:P.underlying t=Z (.array n l))(hd:Jo P l ag h bytes a)
 (r:ev env x=p) (hi:ev env y=.int ik (k:J)) (s:k<n) (hc:Sub e.c z (k*h) f z' up) (u:∀(S:K->Prop) (w:wP),zB S Γ w->(fP e z p).p S w):
 NV P ⟨d,.indexAddr t x y,ty,pos,aft,g⟩ env ms Γ (λp:wN=>p) (λp=>[fP f z' p]) (λ_=>Xs):=by
 intro w S _ _ i;obtain⟨b,o,cs,rfl,A,m,B⟩:=u S w i;obtain⟨C,c,q,rfl,h1,D,_⟩:=hc S w cs B;refine ui.of_value (Oc ht hd r hi s w) ⟨_,O,wR,yJ.refl _ _,⟨⟨b,o+k*h,c,O,A,⟨m.1,λj v hv=> ?_⟩,D⟩,wR⟩⟩;rw[xcK];refine m.2 _ v ?_;grind
def zay(P:jP)(t:wT)(i:K):V K:=match P.underlying t with
 |some (.struct fs)=>match fs[i]? with
  |some f=>match P.info? f.type with
   |some a=>if a.size=0 then wF else Z f.offset
   |none=>wF
  |none=>wF
 |_=>wF
def P6{i off b o:K}(h:zay P t i=Z off)(w:wP):(Instr.fieldAt t (.pointer<|some ⟨b,o,wF⟩) i).run P w=.ok (.pointer<|some ⟨b,o+off,wF⟩) w:=by
 unfold zay at h;split at h;rename_i fs a;split at h;rename_i f c;split at h;rename_i e hi;split at h;cases h
 rename_i j;cases h;simp only[Instr.fieldAt,xay,ul a,xan,c,xfz,xaV,fieldPlace,V3,V9,run_program,hi,ir j,jb]
 cases h
 cases h
 cases h
def oD{i off b o:K}(h:zay P t i=Z off)(a:ev env x=.pointer (Z ⟨b,o,wF⟩))(w:wP):
 (jp (ev env) ⟨d,.fieldAddr t x i,ty,pos,aft,g⟩).run P w=.ok (.value (.pointer<|some ⟨b,o+off,wF⟩)) w:=by
 simp only[jp,a,xay,P6 h,xan,xaV]
theorem zhF{α β:Type}{e:zT α}{f:zT β}{z:α}{z':β}{up:β->α}{p:wN}{i off:K}(h:zay P t i=Z off)(m:ev env x=p)(hc:Sub e.c z off f z' up)
 (n:∀(S:K->Prop) (w:wP),zB S Γ w->(fP e z p).p S w):NV P ⟨d,.fieldAddr t x i,ty,pos,aft,g⟩ env ms Γ (λp:wN=>p) (λp=>[fP f z' p]) (λ_=>Xs):=by
 intro w S _ _ a;obtain⟨b,o,cs,rfl,q,k,r⟩:=n S w a;obtain⟨s,c,l,rfl,h1,u,_⟩:=hc S w cs r;refine ui.of_value (oD h m w) ⟨_,O,wR,yJ.refl _ _,⟨⟨b,o+off,c,O,q,⟨k.1,λj v hv=> ?_⟩,u⟩,wR⟩⟩;rw[xcK];refine k.2 _ v ?_;grind
theorem St.muts{i:K}{m:MF}{w:wP}(h:St we Se ms Γ w)(hi:ms[i]? =Z m):∃S:K->Prop,m.p S w/\yS S ms w/\zB S Γ w:=by have⟨h1,c,e,S,f,j,k,a,b⟩:=h;exact⟨S,yS.get a hi,a,b⟩
def St.mut{i:K}{m:MF}{w:wP}(h:St we Se ms Γ w)(hi:ms[i]? =Z m):∃S:K->Prop,(∀k,w.heap.size<=k->S k)/\m.p S w/\zB S Γ w/\∀(Δ:xS FF),zB S Δ w->St we Se ms Δ w:=by have⟨h1,e,f,S,j,b,l,c,n⟩:=h;exact⟨S,b,yS.get c hi,n,λΔ a=>⟨h1,e,f,S,j,b,l,c,a⟩⟩
def At.mid{w:wP}{b:K}{cs:ut wN}{E:wT}{a c e:xS wN}(h:w.heap[b]? =Z (.cells cs E (0,0)))(f:cs.toList=a++c++e):At w b (X a) c:=by have:=((At.row h).drop (X a)).take (X c);simp_all
def VH{α β:Type}{e:sU α}{E b:K}{z:α}{f:zT β}{o:K}{z':β}{up:β->α}{bytes:K}{a:wN}(i:K)
 (k:ms[i]? =Z (mB e E b z)) (l:ev env x=.pointer (Z ⟨b,o,wF⟩)) (hc:Sub e z o f z' up) (ht:Jo P t f.agg f.n bytes a):
 NV P ⟨d,.load t x,ty,pos,aft,g⟩ env ms Γ (λv:wN=>v) (λv=>[fV f z' v]) (λ_=>Xs):=by
 intro w S _ m p;have⟨cs,q,hp⟩:=yS.get m k;have⟨r,c,h,hd,h1,j,_⟩:=hc S w cs.toList hp;have s:=h1▸At.mid q hd;refine ui.of_value ?_ ⟨_,O,wR,yJ.refl _ _,zqL j,wR⟩;simp[jp,l,Instr.loadAt,xfz,fJ ht j s]
def Jk(w:wP)(b:K)(cs:ut wN):yJ (λk=>k≠b) w (w.setRow b cs):=
 ⟨O,O,O,mK,λk _ a=>setRow_other w b k cs a⟩
def LR{ag:v6}{n bytes:K}{f:wN}(ht:Jo P t ag n bytes f){w:wP}{b:K}{cs:ut wN}{E:wT}{a c e:xS wN}{v:wN}
 (h:w.heap[b]? =Z (.cells cs E (0,0))) (i:cs.toList=a++c++e) (hc:X c=n) (hv:X v.cells.toList=n) (h1:∀u∈v.cells.toList,u.oneCell'=wL):
 (storeVar t ⟨b,X a,wF⟩ v).run P w=.ok () (w.setRow b (a++v.cells.toList++e).toArray):=by
 unfold storeVar;have hd:cs.size=X (a++c++e):=by rw[<-i];simp
 have j:=aM P b (X a) E v.cells.toList 0 cs w h (by rw[hd,hv];simp;lia) h1;have k:v.cells.size=n:=by simpa using hv
 simp only[xay,wo ht,xan,k,ne_eq,g8,uP];refine j.trans ?_;congr 2;rw[i,hv,xbM];congr 2;rw[xaq,List.take_left' O];rw[<-hc,<-xat,xfS O]
theorem uq{α β:Type}{e:sU α}{E b:K}{z:α}{f:zT β}{o:K}{z' y':β}{up:β->α}{bytes:K}{q v:wN}(i:K)(s:ms[i]? =Z (mB e E b z))(G:ev env x=.pointer (Z ⟨b,o,wF⟩))(H:ev env y=v)(u:Sub e z o f z' up)(ht:Jo P t f.agg f.n bytes q)
 (hv:∀(S:K->Prop) (w:wP),zB S Γ w->(fV f y' v).p S w):OG P ⟨wF,.store t x y,ty,pos,aft,g⟩ env we Se ms Γ (λ_:Z3=>Z0) (λ_=>(ms.set i<|mB e E b<|up y')) (λ_=>Γ) (λ_=>Xs):=by
 intro w A;have⟨S0,_,⟨h,r,J⟩,L,_⟩:=A.mut s;have⟨l,c0,a,hd,hi,B,_⟩:=u S0 w h.toList J;have hn:=Z6<|hv S0 w L;have M:(jp (ev env) ⟨wF,.store t x y,ty,pos,aft,g⟩).run P w=.ok .skip (w.setRow b (l++v.cells.toList++a).toArray):=by have:=LR ht r hd (f.len B) (f.len hn)<|f.one hn;rw[hi]at this;simp only[jp,G,H,Instr.storeAt,xfz,xay,xaV,xan,this]
 refine ui.of_skip M ⟨(),O,wR,A.write s O O (Jk w b _) ?_⟩;rintro S R ⟨cs,C,hp⟩ T;rw[r]at C;cases C;have⟨m,c,j,D,hl,hc,U⟩:=u S w h.toList hp;have e1:m=l:=by
  have h1:m=h.toList.take o:=by rw[D,xaq,<-hl,List.take_left' O]
  grind
 have V:j=a:=by
  have h1:j=h.toList.drop (o+f.n):=by rw[D,<-hl,<-f.len hc,<-xat,xfS O]
  have Y:a=h.toList.drop (o+f.n):=by rw[hd,<-hi,<-f.len B,<-xat,xfS O]
  rw[h1,Y]
 subst e1 V;have F:yJ S w (w.setRow b (m++v.cells.toList++j).toArray):=(Jk w b _).weak λk _ hk=>R k hk;exact⟨_,iI w b h _ E (0,0) r,by simpa using U _ y' _ F (f.keep (Z6<|hv S w T) F)⟩
def zbN{α:Type}{e:zT α}{c:wT}{z:α}{n bytes:K}{zero:wN}{q:wW}{r s:Z5}(ht:P.underlying t=Z (.slice c))(u:Jo P c e.agg e.n bytes zero)(hx:ev env x=.int r (n:J))(A:ev env q=.int s (n:J))(hb:bytes*n<=281474976710656)(hn:n<=9223372036854775807)
 (f:∀(S:K->Prop) (w:wP),e.p S z zero.cells.toList w):OG P ⟨d,.makeSlice t x q,ty,pos,aft,g⟩ env we Se ms Γ (λb=>(.slice (Z ⟨b,0,wF⟩) n n)) (λb=>(mR e c b (Nm n z)::ms)) (λ_=>Γ) (λ_=>Xs):=by
 intro w B;have⟨i,hi,h1,C,D⟩:=u.info;have E:=run_make (P:=P) w t c i zero ht hi D r s (n:J) (n:J) W W (by rw[C,<-xfi];exact Int.ofNat_le.2 hb) W;have hd:X zero.cells.toList=e.n:=e.len<|f (λ_=>Xs) w;have hc:(g9 zero.cells<|n*i.size).toList=(Nm n zero.cells.toList).flatten:=by
  rw[h1];apply xcv;intro j;have hs:zero.cells.size=e.n:=by simpa using hd
  by_cases a:j<n*e.n;have k:0<e.n:=xcR λh0=>by rw[h0]at a;simp at a
  have e1:(g9 zero.cells<|n*e.n).toList[j]? =zero.cells.toList[j%e.n]? :=by have o:=xaN j k;simp[g9,a,hs,o]
  have F:((Nm n zero.cells.toList).flatten)[j]? =zero.cells.toList[j%e.n]? :=by have:=(yT.replicate (f (λ_=>Xs) w) n).get (i:=j/e.n) (x:=z) (by rw[xcN,iq<|(xaX k).2 a]);exact flatten_get zero.cells.toList e.n hd k n j a
  rw[e1,F];rw[xbn (by simp[size_madeCells];lia),xbn<|by simp[hd];lia]
 refine ui.of_value (w':=w.alloc (.cells (g9 zero.cells<|n*i.size) c)) (v:=.slice (Z ⟨w.heap.size,0,wF⟩) n n) ?_ ⟨_,O,wR,B.fresh (bh.alloc w _) O mK ?_⟩;simp only[jp,hx,A,xay,E,xan,xaV,xaZ];intro S _ _;refine⟨_,WR w _,?_⟩;rw[hc];exact yT.replicate (f _ _) n
 where
 flatten_get (l:xS wN) (m:K) (hl:X l=m) (o:0<m):∀(n j:K),j<n*m->((Nm n l).flatten)[j]? =l[j%m]?
  |0,j,h=>by simp at h
  |n+1,j,h=>by
   rw[xdU,List.flatten_cons];by_cases a:j<m;rw[xbb W,xao a];rw[xbr W,hl,flatten_get l m hl o n (j-m) (by rw[xbi]at h;lia),<-Nat.mod_eq_sub_mod W]
end
end
section
section
variable{we:wP}{Se:wr->Prop}{ms:xS MF}{Γ Δ:xS FF}{w w':wP}
theorem St.growM{i:K}{m m':MF}(h:St we Se ms Γ w)(hi:ms[i]? =Z m)(x:yJ (λk=>¬m.blk k) w w')(hb:∀k,m'.blk k->m.blk k\/w.heap.size<=k)
 (n:∀S:K->Prop,(∀k,S k->¬m.blk k)->yS S ms w->zB S Γ w->m'.p S w'):St we Se (ms.set i m') Γ w':=by
 have⟨h1,B,t,S,C,D,q,s,u⟩:=h;have o:=xbt hi;have E:∀k,S k->¬m.blk k:=λk a e=>(q m o k e).1 a;have hd:∀k,k<w.heap.size->S k->S k/\¬m'.blk k:=λk a hs=>⟨hs,λe=>by
  obtain h|h:=hb k e
  simp_all;lia⟩
 have v:∀k,(S k/\¬m'.blk k)->¬m.blk k:=λk a=>E k a.1;have y:yJ (λk=>S k/\¬m'.blk k) w w':=x.weak λk _ a=>v k a;have z:=λb f=>yS.lt s b f;have other:∀(j:K) (b:MF),j≠i->ms[j]? =Z b->∀k,b.blk k->¬m.blk k/\¬m'.blk k:=λj b g f k a=>by
  have h1:¬m.blk k:=λe=>eV t hi k e j b g f a;refine⟨h1,λe=> ?_⟩;obtain h|h:=hb k e
  exact h1 h;have:=z b (xbt f) k a;lia
 have A:=n _ v (yS.sub hd s)<|zB.sub hd u;refine⟨h1.behind x (λk a e=>by have:=(q m o k e).2;lia),B,?_,λk=>S k/\¬m'.blk k,λk a=>C k a.1,?_,?_,?_,?_⟩;exact c i m' t<|λj b g f k a=>(other j b g f k a).2;exact λk a=>⟨D k<|xal x.size a,λe=>by have:=m'.lt A k e;lia⟩;intro b f k a;obtain⟨j,g,rfl⟩:=xcZ f;rw[List.getElem_set]at a;rw[xbg]at g;split at a;refine⟨λhc=>hc.2 a,?_⟩;obtain h|h:=hb k a
 exact(q m o k h).2;have:=h1.size;lia;exact⟨λhc=>(q _ (xbG g) k a).1 hc.1,(q _ (xbG g) k a).2⟩;exact d i m' y A (λj b g f k a=>x.block k (z b (xbt f) k a) (other j b g f k a).1)<|yS.sub hd s;exact zB.keep y<|zB.sub hd u
 where
 c:∀{ms:N MF} (i:K) (m':MF),QE ms->(∀(j:K) (b:MF),j≠i->ms[j]? =Z b->∀k,b.blk k->¬m'.blk k)->QE (ms.set i m')
  |[],_,_,h,_=>by simpa using h
  |m::r,0,m',h,l=>⟨λk a b f hc=>by
   obtain⟨j,g,rfl⟩:=xcZ f;exact l (j+1) r[j] W (by simp[g]) k hc a,h.2⟩
  |m::r,i+1,m',h,l=>by
   refine⟨λk a b f=> ?_,c i m' h.2<|λj b g f=>l (j+1) b W<|by simpa using f⟩;obtain⟨j,g,rfl⟩:=xcZ f;rw[List.getElem_set];split;exact l 0 m W O k a;exact h.1 k a _<|xbG _
 d {S:K->Prop}:∀{ms:N MF} (i:K) (m':MF),yJ S w w'->m'.p S w'->(∀(j:K) (b:MF),j≠i->ms[j]? =Z b->∀k,b.blk k->w'.heap[k]? =w.heap[k]?)->yS S ms w->yS S (ms.set i m') w'
  |[],_,_,_,_,_,_=>trivial
  |m::r,0,m',x,o,l,h=>⟨o,yS.keep x (λb f k a=>by
   obtain⟨j,g,rfl⟩:=xcZ f;exact l (j+1) r[j] W (by simp[g]) k a) h.2⟩
  |m::r,i+1,m',x,o,l,h=>⟨m.keep h.1 x<|λk a=>l 0 m W O k a,d i m' x o (λj b g f=>l (j+1) b W<|by simpa using f) h.2⟩
theorem St.grow{i:K}{m m':MF}(h:St we Se ms Γ w)(hi:ms[i]? =Z m)(x:yJ (λk=>¬m.blk k) w w')(a:∀k,m'.blk k->m.blk k\/w.heap.size<=k)
 (n:∀S:K->Prop,(∀k,S k->¬m.blk k)->m.p S w->zB S Γ w->m'.p S w'):St we Se (ms.set i m') Γ w':=by grind [St.growM,yS.get]
theorem St.conv{i:K}{m m':MF}(h:St we Se ms Γ w)(hi:ms[i]? =Z m)(a:m'.blk=m.blk)(n:∀S:K->Prop,m.p S w->m'.p S w):St we Se (ms.set i m') Γ w:=by grind [St.grow,yJ.refl]
theorem St.nilO{α:Type}{e:zT α}{E:wT}(h:St we Se ms Γ w):St we Se (mO e E (.slice wF 0 0) []::ms) Γ w:=by
 have⟨h1,b,c,S,d,f,j,g,i⟩:=h;refine⟨h1,b,⟨(λ_ a=>by cases a),c⟩,S,d,f,?_,⟨⟨[],World.ownsRow_nil _ _ _ _,O⟩,g⟩,i⟩;intro m hm k a;obtain rfl|hm:=xah.1 hm
 cases a
 grind
end
section
variable{P:jP}{N:Nd}{we:wP}{Se:wr->Prop}{ms:xS MF}{Γ:xS FF}{Q:Qs}{env:y6}{ops:ut uT}{rest:xS uT}
 {d:ww Z4}{ty yt t:wT}{pos:String}{aft:ut Edge}{g:ww (wr×v6)}{x y:wW}
def tQ{α:Type}{e:sU α}{z:α}{ag:v6}{c bytes:K}{a:wN}{E:wT}(ht:Jo P E ag c bytes a)
 (f:∀(S:K->Prop) (w:wP),e.p S z a.cells.toList w):OG P ⟨d,.alloc E,ty,pos,aft,g⟩ env we Se ms Γ (λb=>(.pointer<|some ⟨b,0,wF⟩)) (λb=>(mB e E b z::ms)) (λ_=>Γ) (λ_=>Xs):=by
 intro w h;refine ui.of_value ?_ ⟨_,O,wR,h.fresh (bh.alloc w _) O mK λS _ _=>⟨_,WR w _,f _ _⟩⟩;simp only[jp,Instr.alloc,xay,uu ht,xan,newVar,cO,JP,xaV]
def zlb{α:Type}{e:zT α}{z:α}{v:wN}{E:wT}(f:ev env x=v)
 (h:∀(S:K->Prop) (w:wP),zB S Γ w->(fV e z v).p S w):OG P ⟨d,.box E x,ty,pos,aft,g⟩ env we Se ms Γ (λb=>(.pointer<|some ⟨b,0,wF⟩)) (λb=>(mB e.c E b z::ms)) (λ_=>Γ) (λ_=>Xs):=by
 intro w i;refine ui.of_value (w':=w.alloc (.cells v.cells E)) ?_ ⟨_,O,wR,i.fresh (bh.alloc w _) O mK λS l a=>⟨_,WR w _,?_⟩⟩;simp only[jp,f,Instr.box,newVar,cO,xay,JP,xan,xaV];exact e.keep (e.sub (Z6<|h S w a) λk m j=>⟨j,W⟩) (bh.alloc w _).to
def dq(w:wP)(t ty e:wT)(i:li)(z:wN)(size bytes:K)(ht:P.underlying t=Z (.slice e))(hi:P.info? e=Z i)(r:i.zero=Z z)
 (s:i.size=size) (hn:i.bytes=bytes) (hv:z.cells.size=size) (B:0<size)
 (v:wN) (n:K) (xs:xS wN) (hd:w.ownsRow 0 e size v n xs)
 (a:UL) (m c:K) (b:xS wN) (hl:X b=m*size) (q:∀j u,b[j]? =Z u->w.cell? (a.add j)=Z u) (h1:∀u∈b,u.oneCell'=wL)
 (hp:n+m<=V4) (hc:(n+m)*bytes<=140737488355328):
 ∃o w',(xcb #[t,t] ty #[v,.slice (Z a) m c]).run P w=.ok o w'/\w'.ownsRow 0 e size o (n+m) (xs++b)/\w.grownBy w' v.ownBlock/\
  ∀k,o.ownBlock=Z k->v.ownBlock=Z k\/w.heap.size<=k:=by
 have⟨o,w',h,C,D,_⟩:=run_append_own (P:=P) w 0 t ty e i z size bytes ht hi r s hn hv B v n xs hd a m c b hl q h1 hp hc<|xae _;refine⟨o,w',h,C,D,?_⟩;subst s hn;have L:n+m<=9223372036854775807:=by simp only[V4]at hp;lia
 rcases hd.2 with⟨rfl,rfl⟩|⟨g,cap,p,rfl,M,E,R,S,F,T⟩
 by_cases G:m=0
 subst G;have:=f (w:=w) t ty e i ht hi a c;rw[this]at h;cases h;exact λk l=>by cases l
 have:=run_append_nil (P:=P) w t ty e i z ht hi r a m c b hl q W W (by have hb:=hc;simp only[xaJ]at hb;lia);rw[this]at h;cases h;exact λk l=> .inr<|by cases l;exact So _
 by_cases A:n+m<=cap;have H:n*i.size+X b<=p.size:=by rw[hl,F,<-xbi];exact xaj _ A
 have:=run_append_room (P:=P) w t ty e i ht hi g n cap p E a m c b hl q h1 A H;rw[this]at h;cases h;exact λk l=> .inl l
 have J:∀j u,xs[j]? =Z u->w.cell? ((⟨g,0,wF⟩:UL).add j)=Z u:=hd.cells (g:=g) O;have:=run_append_grow (P:=P) w t ty e i z ht hi r ⟨g,0,wF⟩ n cap xs hd.1 J a m c b hl q W W<|eM W hc;rw[this]at h;cases h;exact λk l=> .inr<|by cases l;exact So _
 where
 f {w:wP} (t ty e:wT) (i:li) (ht:P.underlying t=Z (.slice e)) (hi:P.info? e=Z i) (a:UL) (c:K):
  (xcb #[t,t] ty #[.slice wF 0 0,.slice (Z a) 0 c]).run P w=.ok (.slice wF 0 0) w:=by
  simp[xcb,ul ht,V3,V9,hi,xfP,xeO,loadCells,loadCellsFrom]
def SlQ{α:Type}(e:zT α)(S:K->Prop)(xs:xS α)(v:wN)(w:wP):Prop:=
 ∃a cap,v=.slice a (X xs) cap/\X xs<=cap/\cap<=V4/\(xs=[]\/∃b o cs,a=Z ⟨b,o,wF⟩/\At w b o cs/\yT e S xs cs w)
theorem SlQ.of{α:Type}{e:zT α}{S:K->Prop}{xs:xS α}{v:wN}{w:wP}(h:(fV (eS e) xs v).p S w):SlQ e S xs v w:=by
 have⟨c,cap,h1,f,i,a⟩:=wb.1 h;refine⟨c,cap,h1,f,i,?_⟩;obtain a|⟨b,o,cs,j,k,a3,a4⟩:=a
 simp_all;grind
def aU{α:Type}{e:zT α}{z:wT}{xs ys:xS α}{v u:wN}{bytes:K}{zero:wN}(i:K)(ht:P.underlying t=Z (.slice z))(hK:Jo P z e.agg e.n bytes zero)(Y:zero.cells.size=e.n)(hn:0<e.n)
 (J:ms[i]? =Z (mO e z v xs)) (hx:ev env x=v) (hy:ev env y=u) (hf:∀(S:K->Prop) (w:wP),yS S ms w->zB S Γ w->SlQ e S ys u w)
 (h4:X xs+X ys<=9223372036854775807) (hb:(X xs+X ys)*bytes<=140737488355328):OG P ⟨d,.call ⟨.builtin .append,#[x,y],#[t,t]⟩,ty,pos,aft,g⟩ env we Se ms Γ (λq=>q) (λq=>(ms.set i<|mO e z q<|xs++ys)) (λ_=>Γ) (λ_=>Xs):=by
 intro w hE;have⟨S,⟨cs,D,he⟩,h7,h8⟩:=hE.muts J;have⟨ao,cap,L,h1,h2,h3⟩:=hf S w h7 h8;have⟨R,hi,i1,i2,i3⟩:=hK.info;have hL:∀q w',(xcb #[t,t] ty #[v,u]).run P w=.ok q w'->(jp (ev env) ⟨d,.call ⟨.builtin .append,#[x,y],#[t,t]⟩,ty,pos,aft,g⟩).run P w=.ok (.value q) w':=λq w' B=>by simp only[jp,Ws,WP,Ut,xeb,xbQ,xdS,hx,hy,xay,B,xaV,xan]
 have hz:X xs+X ys<=V4:=by unfold V4;lia
 have E:∃q w',(xcb #[t,t] ty #[v,u]).run P w=.ok q w'/\w.grownBy w' v.ownBlock/\(∀k,q.ownBlock=Z k->v.ownBlock=Z k\/w.heap.size<=k)/\
  ∀S:K->Prop,(∀k,S k->v.ownBlock≠Z k)->yS S ms w->zB S Γ w->(mO e z q<|xs++ys).p S w':=by
  have F:∀(w':wP) (q:wN) (m:xS wN),w.grownBy w' v.ownBlock->w'.ownsRow 0 z e.n q (X xs+X ys) (cs++m)->
   (∀S:K->Prop,yS S ms w->zB S Γ w->yT e S ys m w)->∀S:K->Prop,(∀k,S k->v.ownBlock≠Z k)->yS S ms w->zB S Γ w->(mO e z q<|xs++ys).p S w':=by
   intro w' q m s hd hB S hS hM T;have⟨C,hF,hN⟩:=yS.get hM J;have hO:C=cs:=by
    rcases D.2 with⟨rfl,h0⟩|⟨g,cap,U,rfl,_,hP,_,_,_,hQ⟩
    have a1:=D.1;have a2:=hF.1;rw[h0]at a1 a2;have c1:cs=[]:=xbp (by simpa using a1);have c2:C=[]:=xbp (by simpa using a2);rw[c1,c2];rcases hF.2 with⟨hc,_⟩|⟨g',a0,a3,hR,_,hA,_,_,_,hG⟩
    cases hc
    cases hR;rw[hP]at hA;cases hA;rw[<-hQ,<-hG]
   subst hO;have kk:yJ S w w':=⟨s.os,s.tape,s.output,s.size,λk V hs=>s.block k V<|λe=>hS k hs e.symm⟩;exact⟨C++m,by rw[xat];exact hd,(hN.keep kk).append<|(hB S hM T).keep kk⟩
  have A:ys=[]->(ao=wF->u=.slice wF 0 cap)->∃q w',(xcb #[t,t] ty #[v,u]).run P w=.ok q w'/\w.grownBy w' v.ownBlock/\(∀k,q.ownBlock=Z k->v.ownBlock=Z k\/w.heap.size<=k)/\
   ∀S:K->Prop,(∀k,S k->v.ownBlock≠Z k)->yS S ms w->zB S Γ w->(mO e z q<|xs++ys).p S w':=by
   intro M hC
   subst M
   cases ao with
   |none=>
    have hT:=hC O
    have B:=f (w:=w) t ty z R e.n ht hi v (X xs) cs D cap
    rw[<-hT]at B
    exact⟨v,w,B,⟨O,O,O,So _,λ_ _ _=>O⟩,λk V=> .inl V,λS _ hp _=>by simpa using yS.get hp J⟩
   |some a=>
    have⟨q,w',B,hd,s,hl⟩:=dq w t ty z R zero e.n bytes ht hi i3 i1 i2 Y hn v (X xs) cs D a 0 cap [] mK mK mK (by simpa using hz)<|by simpa using hb
    exact⟨q,w',by rw[L];exact B,s,hl,F w' q [] s (by simpa using hd)<|λ_ _ _=>O⟩
  obtain M|⟨b,o,m,rfl,ha,G⟩:=h3
  exact A M<|λh=>by rw[L,h,M];rfl
  have⟨q,w',B,hd,s,hl⟩:=dq w t ty z R zero e.n bytes ht hi i3 i1 i2 Y hn v (X xs) cs D ⟨b,o,wF⟩ (X ys) cap m G.len
   (λj c hc=>by rw[jb];exact ha.2 j c hc) G.one hz hb
  refine⟨q,w',by rw[L];exact B,s,hl,F w' q m s hd λS2 hU hV=> ?_⟩;have⟨a5,a4,hH,_,_,hW⟩:=hf S2 w hU hV;rw[L]at hH;cases hH;obtain rfl|⟨b2,o2,r,hX,hY,hv⟩:=hW
  have:=G.len;rw[xbT,xcC]at this;rw[xbp this];rfl
  cases hX;have:r=m:=by
   apply xcv;intro j;by_cases H:j<X m;have e1:=ha.2 j m[j] (by simp[H]);have hI:j<X r:=by rw[hv.len,<-G.len];exact H
   have e2:=hY.2 j r[j] (by simp[hI]);rw[e1]at e2;rw[xab H,xab hI,e2];have h5:X r=X m:=by rw[hv.len,<-G.len]
   rw[xbn (l:=m) W,xbn (l:=r) W]
  rw[<-this];exact hv
 have⟨q,w',B,s,hl,hp⟩:=E;exact ui.of_value (hL q w' B) ⟨q,O,wR,hE.growM J ⟨s.os,s.tape,s.output,s.size,λj H hs=>s.block j H<|λe=>hs e.symm⟩ hl hp⟩
 where
 f {w:wP} (t ty e:wT) (i:li) (size:K) (ht:P.underlying t=Z (.slice e)) (hi:P.info? e=Z i)
  (v:wN) (n:K) (xs:xS wN) (hJ:w.ownsRow 0 e size v n xs) (c:K):
  (xcb #[t,t] ty #[v,.slice wF 0 c]).run P w=.ok v w:=by
  rcases hJ.2 with⟨rfl,rfl⟩|⟨g,cap,U,rfl,_,_,hZ,_⟩
  simp[xcb,ul ht,V3,V9,hi,xfP,xeO];simp[xcb,ul ht,V3,V9,hi,xfP,xeO,hZ,storeCells]
def Tq{α:Type}{e:zT α}{b:wT}{xs ys:xS α}{v u:wN}{bytes:K}{a:wN}(i:K)(f:yR ops env ⟨d,.call ⟨.builtin .append,#[x,y],#[t,t]⟩,ty,pos,aft,g⟩=wL)(hd:qK N.n d=wL)
 (ht:P.underlying t=Z (.slice b)) (h:Jo P b e.agg e.n bytes a) (hc:a.cells.size=e.n) (hn:0<e.n)
 (j:ms[i]? =Z (mO e b v xs)) (l:ev env x=v) (m:ev env y=u) (o:∀(S:K->Prop) (w:wP),yS S ms w->zB S Γ w->SlQ e S ys u w)
 (p:X xs+X ys<=9223372036854775807) (q:(X xs+X ys)*bytes<=140737488355328)
 (k:∀c,TL P N we Se (ms.set i<|mO e b c<|xs++ys) Γ ops rest Q<|put env d c):TL P N we Se ms Γ ops (⟨d,.call ⟨.builtin .append,#[x,y],#[t,t]⟩,ty,pos,aft,g⟩::rest) Q env:=
 zmd f hd (aU i ht h hc hn j l m o p q) λc _=>k c
def zdQ{α:Type}{e:zT α}{b:wT}{xs ys:xS α}{v u:wN}{bytes:K}{a:wN}(i:K)(f:yR ops env ⟨d,.call ⟨.builtin .append,#[x,y],#[t,t]⟩,ty,pos,aft,g⟩=wL)(hd:qK N.n d=wL)
 (ht:P.underlying t=Z (.slice b)) (j:Jo P b e.agg e.n bytes a) (hc:a.cells.size=e.n) (hn:0<e.n)
 (l:ms[i]? =Z (mO e b v xs)) (m:ev env x=v) (o:ev env y=u) (q:∀(S:K->Prop) (w:wP),zB S Γ w->(fV (eS e) ys u).p S w)
 (r:X xs+X ys<=9223372036854775807) (s:(X xs+X ys)*bytes<=140737488355328)
 (k:∀c,TL P N we Se (ms.set i<|mO e b c<|xs++ys) Γ ops rest Q<|put env d c):TL P N we Se ms Γ ops (⟨d,.call ⟨.builtin .append,#[x,y],#[t,t]⟩,ty,pos,aft,g⟩::rest) Q env:=
 Tq i f hd ht j hc hn l m o (λS w _ h=>SlQ.of<|q S w h) r s k
def zox{α:Type}{e:zT α}{E b:K}{z:α}{w:wP}(i:K)(h:St we Se ms Γ w)(a:ms[i]? =Z (mB e.c E b z)):
 St we Se (ms.eraseIdx i) (fP e z (.pointer<|some ⟨b,0,wF⟩)::Γ) w:=
 h.freeze a λS k f j hp=>znE f (j b O) hp
def LP{α:Type}{e:zT α}{E:K}{v:wN}{xs:xS α}{w:wP}(i:K)(h:St we Se ms Γ w)(a:ms[i]? =Z (mO e E v xs)):
 St we Se (ms.eraseIdx i) (fV (eS e) xs v::Γ) w:=
 h.freeze a λS f b c hp=>ry b c hp
def zjI{α:Type}{e:zT α}{E b:K}{xs:xS α}{n:K}{w:wP}(i:K)(h:St we Se ms Γ w)(c:ms[i]? =Z (mR e E b xs))(hn:n=X xs)(j:X xs<=9223372036854775807):
 St we Se (ms.set i<|mO e E (.slice (Z ⟨b,0,wF⟩) n n) xs) Γ w:=
 h.conv c O λS ⟨cs,f,a⟩=>by
  subst hn;have hl:cs.size=X xs*e.n:=by have:=yT.len a;simpa using this
  refine⟨cs.toList,⟨by simpa using hl,.inr ⟨b,X xs,cs,O,xae _,f,So _,by unfold V4;lia,hl,?_⟩⟩,a⟩;rw[xaW<|by simp[hl]]
end
end
section
def Yw{a b:K}(h:a≠b):E a b=I:=by grind [xde]
def Cx{a b:K}(h:b<=a):xda a b=I:=by
 cases c:xda a b
 rfl;have:=xbH c;omega
structure Pr where
 p:(K->Prop)->wN->wP->Prop
 keepS:∀{S:K->Prop}{v:wN}{w w':wP},p S v w->yJ S w w'->p S v w'
 sub:∀{S S':K->Prop}{v:wN}{w:wP},p S v w->(∀k,k<w.heap.size->S k->S' k)->p S' v w
def Pr.keep(a:Pr){S:K->Prop}{v:wN}{w w':wP}(h:a.p S v w)(x:bh w w'):a.p S v w':=a.keepS h x.to
def sO(d:V Z4)(a:Pr)(K:N (Z4×Pr)):N (Z4×Pr):=match d with
 |some d=>(d,a)::K
 |none=>K
def Xf(K:N (Z4×Pr))(env0 env:y6)(S:wr->Prop)(w:wP)(t:Z4):Prop:=match K.find? (λx=>E x.1 t)with
 |some x=>x.2.p S (env t) w
 |none=>env t=env0 t
def QC(K:N (Z4×Pr))(env0 env:y6)(S:wr->Prop)(w:wP):N Z4->Prop
 |[]=>Xs
 |t::ts=>Xf K env0 env S w t/\QC K env0 env S w ts
def Ob(P:jP)(a:ut uT)(ms:N MF)(Γ:N FF)(env0:y6)(K:N (Z4×Pr))(o:uT)(b:Pr):Prop:=
 ∀(S:wr->Prop) (w:wP) (env:y6),(∀k,w.heap.size<=k->S k)->yS S ms w->zB S Γ w->QC K env0 env S w (o.looksAt a)->
  (yR a env o=wL->ui P o env w (λv w'=>bh w w'/\b.p S v w'))/\(yR a env o=I->b.p S Z0 w)
def Obs(P:jP)(a:ut uT)(ms:N MF)(Γ:N FF)(env0:y6):N (uT×Pr)->N (Z4×Pr)->Prop
 |[],_=>Xs
 |(o,b)::r,K=>Ob P a ms Γ env0 K o b/\Obs P a ms Γ env0 r (sO o.dst b K)
def Kof:N (uT×Pr)->N (Z4×Pr)->N (Z4×Pr)
 |[],K=>K
 |(o,a)::r,K=>Kof r<|sO o.dst a K
def QD(o:uT)(i:K):v6:=o.after.toList.any λe=>xcp .any e && E e.on i
def zS(l:N uT)(i:K):uT:=l.getD i default
def zas(l:N uT)(m:K):v6:=xfu m (X l) && (xaO (X l)).all λj=>
 ((zS l j).after.toList.all λe=> !xcp .any e||xda e.on j) &&
 (bif xda j m then(xaO m).all λi=>E i j||(match(zS l i).dst with
  |some t=> !((xbk l.toArray<|zS l j).contains t||(zS l j).dst==Z t)||(bif xda i j then QD (zS l j) i else QD (zS l i) j)
  |none=>wL)
  else(xaO j).all λk=>QD (zS l j) k)
def vO(l:N uT):K->K->K->v6
 |0,i,k=>QD (zS l i) k
 |f+1,i,k=>QD (zS l i) k||(zS l i).after.toList.any λe=>xcp .any e && vO l f e.on k
def W9(l:N uT)(m:K):v6:=xfu m (X l) && (xaO (X l)).all λj=>
 ((zS l j).after.toList.all λe=> !xcp .any e||xda e.on j) &&
 (bif xda j m then(xaO m).all λi=>E i j||(match(zS l i).dst with
  |some t=> !((xbk l.toArray<|zS l j).contains t||(zS l j).dst==Z t)||(bif xda i j then QD (zS l j) i else QD (zS l i) j)
  |none=>wL)
  else bif E j m then(xaO m).all λk=>vO l 16 m k else QD (zS l j) (j-1))
section
variable{l:xS uT}{m:wr}
def uF{o:uT}{i:K}(h:QD o i=wL):∃e∈o.after,xcp .any e=wL/\e.on=i:=by unfold QD at h;rw[xfJ]at h;simp_all
def SZ(h:zas l m=wL):m<=X l/\
 (∀j,j<X l->∀e∈(zS l j).after,xcp .any e=wL->e.on<j)/\
 (∀j i t,j<m->i<m->i≠j->(zS l i).dst=Z t->(t∈xbk l.toArray (zS l j)\/(zS l j).dst=Z t)->(i<j->QD (zS l j) i=wL)/\(j<i->QD (zS l i) j=wL))/\
 (∀j,m<=j->j<X l->∀k,k<j->QD (zS l j) k=wL):=by
 unfold zas at h;rw[xad,xaT]at h;have⟨h0,h1⟩:=h;have d:=xbH h0;refine⟨d,λj a e f g=> ?_,λj i t a hi hc ht hl=> ?_,λj hd a k n=> ?_⟩;have:=h1 j<|xbd.2 a;rw[xad,xaT]at this;have:=this.1 e<|xdN.2 f;rw[g]at this;simpa using this;have:=h1 j (xbd.2 lW);rw[xad]at this;have b:=this.2;rw[show xda j m=wL by simpa using a,Wf,xaT]at b;have c:=b i<|xbd.2 hi;rw[Yw hc,xeG,ht]at c;have o:((xbk l.toArray<|zS l j).contains t||(zS l j).dst==Z t)=wL:=by
  rw[xdV];obtain hl|hl:=hl
  left;simpa using hl;right;simp[hl]
 simp only[o,xeS,xeG]at c;constructor;intro p;rwa[show xda i j=wL by simpa using p,Wf]at c;intro q;rwa[Cx lW,XS]at c;have:=h1 j<|xbd.2 a;rw[xad]at this;have b:=this.2;rw[Cx hd,XS,xaT]at b;exact b k<|xbd.2 n
def YV(h:W9 l m=wL):m<=X l/\
 (∀j,j<X l->∀e∈(zS l j).after,xcp .any e=wL->e.on<j)/\
 (∀j i t,j<m->i<m->i≠j->(zS l i).dst=Z t->(t∈xbk l.toArray (zS l j)\/(zS l j).dst=Z t)->(i<j->QD (zS l j) i=wL)/\(j<i->QD (zS l i) j=wL))/\
 (∀j,m<j->j<X l->QD (zS l j) (j-1)=wL)/\(m<X l->∀k,k<m->vO l 16 m k=wL):=by
 unfold W9 at h;rw[xad,xaT]at h;have⟨h0,h1⟩:=h;have d:=xbH h0;refine⟨d,λj b e f g=> ?_,λj i t b hi hc ht hl=> ?_,λj q b=> ?_,λn k o=> ?_⟩;have:=h1 j<|xbd.2 b;rw[xad,xaT]at this;have:=this.1 e<|xdN.2 f;rw[g]at this;simpa using this;have:=h1 j (xbd.2 lW);rw[xad]at this;have a:=this.2;rw[show xda j m=wL by simpa using b,Wf,xaT]at a;have c:=a i<|xbd.2 hi;rw[Yw hc,xeG,ht]at c;have p:((xbk l.toArray<|zS l j).contains t||(zS l j).dst==Z t)=wL:=by
  rw[xdV];obtain hl|hl:=hl
  left;simpa using hl;right;simp[hl]
 simp only[p,xeS,xeG]at c;constructor;intro hd;rwa[show xda i j=wL by simpa using hd,Wf]at c;intro r;rwa[Cx lW,XS]at c;have:=h1 j<|xbd.2 b;rw[xad]at this;have a:=this.2;rw[Cx lW,XS,Yw lW,XS]at a;exact a;have:=h1 m<|xbd.2 n;rw[xad]at this;have a:=this.2;rw[Cx<|So m,XS,Nat.beq_refl,Wf,xaT]at a;exact a k<|xbd.2 o
theorem aW{a:ut v6}(d:∀i,i<X l->a.getD i I=wL->∀e∈(zS l i).after,xcp .any e=wL->a.getD e.on I=wL)
 (h1:∀j,j<X l->∀e∈(zS l j).after,xcp .any e=wL->e.on<j):∀(f i k:K),i<X l->(∀e∈(zS l i).after,xcp .any e=wL->a.getD e.on I=wL)->vO l f i k=wL->a.getD k I=wL
 |0,i,k,hi,hd,h=>by
  have⟨e,c,g,n⟩:=uF h;grind
 |f+1,i,k,hi,hd,h=>by
  unfold vO at h;rw[xdV]at h;obtain h|h:=h
  have⟨e,c,g,n⟩:=uF h;grind;rw[xfJ]at h;have⟨e,c,b⟩:=h;rw[xad]at b;have hc:=xdN.1 c;have o:=h1 i hi e hc b.1;exact aW d h1 f e.on k lW (d e.on lW<|hd e hc b.1) b.2
def Yt{i:K}(h:i<X l):l.toArray[i]? =Z (zS l i):=by simp[zS,h]
end
def cvt{α:Type}{e:zT α}{x y:α}{v:wN}{S:K->Prop}{w:wP}(h:x=y)(hp:(fV e x v).p S w):(fV e y v).p S w:=h▸hp
def zeG{α:Type}{e:zT α}{S:K->Prop}{w:wP}:(fV (eS e) [] (.slice wF 0 0)).p S w:=wb.2 SlP.nil
def getD_some{α:Type}{l:N α}{k:K}(z:α)(h:k<X l):l[k]? =Z (l.getD k z):=by grind
def zoj{α:Type}{e:zT α}{xs:N α}{v:wN}{S:K->Prop}{w:wP}(h:(fV (eS e) xs v).p S w):X xs<=9223372036854775807:=by have⟨b,cap,hv,hc,a,_⟩:=wb.1 h;exact xal hc a
def yT.all_u{S:K->Prop}{w:wP}:∀{xs:N K}{cs:N wN},yT eU S xs cs w->∀x∈xs,x<18446744073709551616
 |[],_,_=>λx hx=>wS hx H1
 |y::ys,_,⟨c,r,_,hc,a⟩=>λx hx=>by
  obtain rfl|hx:=xah.1 hx
  exact hc.2;exact yT.all_u a x hx
def zm(l:N K):Prop:=∀x∈l,x<18446744073709551616
def zfH{xs:N K}{v:wN}{S:K->Prop}{w:wP}(h:(fV (eS eU) xs v).p S w):zm xs:=by
 have⟨e,cap,hv,hc,f,a⟩:=wb.1 h;obtain rfl|⟨b,o,cs,_,_,_,c⟩:=a
 exact λx d=>wS d H1;exact c.all_u
def ot(t:Z4):∀(r:N (uT×Pr)) (K:N (Z4×Pr)),
 (∃(i:wr) (x:uT×Pr),r[i]? =Z x/\x.1.dst=Z t/\(∀(a:wr) (b:uT×Pr),r[a]? =Z b->b.1.dst=Z t->a<=i)/\(Kof r K).find? (λy=>E y.1 t)=Z (t,x.2))\/
 ((∀(i:wr) (x:uT×Pr),r[i]? =Z x->x.1.dst≠Z t)/\(Kof r K).find? (λy=>E y.1 t)=K.find? (λy=>E y.1 t))
 |[],K=> .inr ⟨λi x h=>by simp at h,O⟩
 |(o,c)::r,K=>by
  rcases ot t r (sO o.dst c K)with⟨i,x,h1,f,j,k⟩|⟨h1,f⟩
  refine .inl ⟨i+1,x,by simpa using h1,f,λa b g hd=> ?_,k⟩
  cases a with
  |zero=>omega
  |succ a=>have:=j a b (by simpa using g) hd;omega
  by_cases hd:o.dst=Z t;refine .inl ⟨0,(o,c),O,hd,λa b g l=> ?_,?_⟩;grind;show(Kof r<|sO o.dst c K).find? _=_;rw[f,hd];simp[sO];refine .inr ⟨λi x m=> ?_,?_⟩;grind;show(Kof r<|sO o.dst c K).find? _=_;rw[f]
  cases hc:o.dst with
  |none=>rfl
  |some d=>
   have:E d t=I:=Yw λe=>hd (by rw[hc,e]);simp[sO,this]
def zbk{P:jP}{a:ut uT}{ms:N MF}{Γ:N FF}{env0:y6}:∀(r:N (uT×Pr)) (K:N (Z4×Pr)) (i:wr) (x:uT×Pr),Obs P a ms Γ env0 r K->r[i]? =Z x->Ob P a ms Γ env0 (Kof (r.take i) K) x.1 x.2
 |[],_,_,_,_,h=>by simp at h
 |(o,c)::r,K,0,x,h,b=>by simp at b;subst b;exact h.1
 |(o,c)::r,K,i+1,x,h,b=>by
  have:=zbk r (sO o.dst c K) i x h.2 (by simpa using b);simpa[Kof]using this
def UW{K:N (Z4×Pr)}{env0 env:y6}{S:wr->Prop}{w:wP}:∀(ts:N Z4),(∀t∈ts,Xf K env0 env S w t)->QC K env0 env S w ts
 |[],_=>trivial
 |t::ts,h=>⟨h t<|IR,UW ts λu a=>h u<|FS _ a⟩
def td{a:ut v6}{i:K}(hi:i<a.size)(b:a.getD i wL=I):∀(r:N K),
 (r.countP λk=> !(a.setIfInBounds i wL).getD k wL)<=(r.countP λk=> !a.getD k wL)/\
 (i∈r->(r.countP λk=> !(a.setIfInBounds i wL).getD k wL)<(r.countP λk=> !a.getD k wL))
 |[]=>⟨So _,λh=>by cases h⟩
 |k::r=>by
  have d:=td hi b r;rw[List.countP_cons,List.countP_cons];by_cases c:i=k;subst c;have e1:(a.setIfInBounds i wL).getD i wL=wL:=by simp[hi]
  grind;simp_all
section
variable{P:jP}{N:Nd}{we:wP}{Se:wr->Prop}{ms:xS MF}{Γ:xS FF}{Q:Qs}{env0:y6}{l:xS uT}{m:wr}
def zp2(hc:zas l m=wL){q:eX->V0->wP->Prop}:∀(c j:K) (b:ut v6) (a:V0) (w:wP),m<=j->j<=X l->X l-j<=c->b.size=X l->
 (∀k,k<X l->b.getD k wL=decide (k<j))->WL N.F 0 P l.toArray q (l.drop j) a w->aC N.F 0 P .any l.toArray q c b a w:=by
 have⟨h0,h1,R,A⟩:=SZ hc;have hd:∀(j:K) (b:ut v6),m<=j->j<=X l->b.size=X l->(∀k,k<X l->b.getD k wL=decide (k<j))->∀i,i∈xef .any l.toArray b->i=j:=by
  intro j b hn hp p d i hi;have⟨s,o,n,hv⟩:=mem_ready.1 hi;have ht:i<X l:=by simpa using(xbf.1 n).1
  rw[d i ht]at s;have S:j<=i:=by simpa using s
  rw[Yt ht]at n;cases n;obtain g|hge:=xbS j i
  have⟨e,t,u,B⟩:=uF<|A i lW ht j g;have hl:=hv e t u;rw[B]at hl;have v:=d j lW;have C:j<b.size:=lW
  simp only[xbv,xdw C,xcX]at hl v;rw[hl]at v;simp at v;omega
 intro c
 induction c with
 |zero=>
  intro j b a w hn hp D p d f;have:j=X l:=lW
  subst this;refine⟨?_,by simpa[WL]using f⟩
  cases E:xef .any l.toArray b with
  |nil=>rfl
  |cons i r=>
   have hi:i∈xef .any l.toArray b:=by rw[E];exact IR
   have G:=hd _ b hn hp p d i hi;have⟨s,o,n,_⟩:=mem_ready.1 hi;have:=(xbf.1 n).1;simp at this;omega
 |succ c H=>
  intro j b a w hn hp D p d f;rcases xbS j (X l) with g|hge
  have y:j∈xef .any l.toArray b:=by
   refine mem_ready.2 ⟨by rw[d j g];simp,zS l j,Yt g,λe t u=> ?_⟩;have:=h1 j g e t u;have hl:=d e.on lW;have J:e.on<b.size:=lW
   simp only[xbv,xdw J,xcX]at hl⊢;rw[hl];simpa using this
  refine⟨λh=>(by rw[h]at y;cases y),λi hi=> ?_⟩;have:=hd j b hn hp p d i hi;subst this;rw[xbV g]at f;have L:l[i]=zS l i:=by simp[zS,g]
  unfold WL at f;unfold wpOpIn;rw[Yt g];simp only[<-L];have next:∀a w,WL N.F 0 P l.toArray q (l.drop<|i+1) a w->aC N.F 0 P .any l.toArray q c (b.setIfInBounds i true) a w:=λa w h=>
   H (i+1) _ a w lW lW lW (by simpa using p) (λk M=>by
    by_cases z:i=k;subst z;have:i<b.size:=lW
    simp[this];rw[V5 wL z,d k M];simp only[decide_eq_decide];omega) h
  split;rename_i x;rw[iq x]at f;exact Oper.wpIn_mono next f
  rename_i x;rw[ir x]at f;exact⟨f.1,next _ _ f.2⟩;have:j=X l:=lW
  subst this;refine⟨λ_=>by simpa[WL]using f,λi hi=> ?_⟩;have G:=hd _ b hn hp p d i hi;have⟨s,o,n,_⟩:=mem_ready.1 hi;have:=(xbf.1 n).1;simp at this;omega
def ig(hc:W9 l m=wL){q:eX->V0->wP->Prop}:∀(c j:K) (b:ut v6) (a:V0) (w:wP),m<=j->j<=X l->X l-j<=c->b.size=X l->
 (∀k,k<X l->b.getD k wL=decide (k<j))->WL N.F 0 P l.toArray q (l.drop j) a w->aC N.F 0 P .any l.toArray q c b a w:=by
 have⟨h0,h1,R,A,_⟩:=YV hc;have hd:∀(j:K) (b:ut v6),m<=j->j<=X l->b.size=X l->(∀k,k<X l->b.getD k wL=decide (k<j))->∀i,i∈xef .any l.toArray b->i=j:=by
  intro j b hn hp p d i hi;have⟨s,o,g,hv⟩:=mem_ready.1 hi;have ht:i<X l:=by simpa using(xbf.1 g).1
  rw[d i ht]at s;have S:j<=i:=by simpa using s
  rw[Yt ht]at g;cases g;obtain n|hge:=xbS j i
  have⟨e,t,u,B⟩:=uF<|A i lW ht;have hl:=hv e t u;rw[B]at hl;have v:=d (i-1) lW;have C:i-1<b.size:=lW
  simp only[xbv,xdw C,xcX]at hl v;rw[hl]at v;simp at v;omega;omega
 intro c
 induction c with
 |zero=>
  intro j b a w hn hp D p d f;have:j=X l:=lW
  subst this;refine⟨?_,by simpa[WL]using f⟩
  cases E:xef .any l.toArray b with
  |nil=>rfl
  |cons i r=>
   have hi:i∈xef .any l.toArray b:=by rw[E];exact IR
   have G:=hd _ b hn hp p d i hi;have⟨s,o,g,_⟩:=mem_ready.1 hi;have:=(xbf.1 g).1;simp at this;omega
 |succ c H=>
  intro j b a w hn hp D p d f;rcases xbS j (X l) with n|hge
  have y:j∈xef .any l.toArray b:=by
   refine mem_ready.2 ⟨by rw[d j n];simp,zS l j,Yt n,λe t u=> ?_⟩;have:=h1 j n e t u;have hl:=d e.on lW;have J:e.on<b.size:=lW
   simp only[xbv,xdw J,xcX]at hl⊢;rw[hl];simpa using this
  refine⟨λh=>(by rw[h]at y;cases y),λi hi=> ?_⟩;have:=hd j b hn hp p d i hi;subst this;rw[xbV n]at f;have L:l[i]=zS l i:=by simp[zS,n]
  unfold WL at f;unfold wpOpIn;rw[Yt n];simp only[<-L];have next:∀a w,WL N.F 0 P l.toArray q (l.drop<|i+1) a w->aC N.F 0 P .any l.toArray q c (b.setIfInBounds i true) a w:=λa w h=>
   H (i+1) _ a w lW lW lW (by simpa using p) (λk M=>by
    by_cases z:i=k;subst z;have:i<b.size:=lW
    simp[this];rw[V5 wL z,d k M];simp only[decide_eq_decide];omega) h
  split;rename_i x;rw[iq x]at f;exact Oper.wpIn_mono next f
  rename_i x;rw[ir x]at f;exact⟨f.1,next _ _ f.2⟩;have:j=X l:=lW
  subst this;refine⟨λ_=>by simpa[WL]using f,λi hi=> ?_⟩;have G:=hd _ b hn hp p d i hi;have⟨s,o,g,_⟩:=mem_ready.1 hi;have:=(xbf.1 g).1;simp at this;omega
def zfw{id:K}(m:K)(d:xS Pr)(ts:xS Z4)(hm:P.follows .mixedOrders=wL)(hc:W9 l m=wL)(hl:X d=m)(hd:(l.all λo=>qK N.n o.dst)=wL)
 (hY:Obs P l.toArray ms Γ env0 ((l.take m).zip d) [])
 (a3:∀(S:K->Prop) (w:wP) (env:y6),(∀k,w.heap.size<=k->S k)->zB S Γ w->QC (Kof ((l.take m).zip d) []) env0 env S w ts->
  ∃r live,zB S r w/\JV env live/\∀rest,TL P N we Se ms r l.toArray (l.drop m) Q<|L live rest):
 T P N we Se ms Γ (.region id l.toArray wL) Q env0:=by
 intro w0 a9 a0 b0 b3 b4;have⟨h0,h1,h2,h3,c0⟩:=YV hc;have⟨s1,s2,s3,S,s4,s5,s6,s7,s8⟩:=a9;have mk:∀w' Δ,bh w0 w'->zB S Δ w'->St we Se ms Δ w':=λw' Δ x c1=>
  ⟨s1.trans x,s2,s3,S,s4,λk f=>s5 k<|xal x.size f,s6,yS.keep x.to (λm hm i hi=>x.block i (yS.lt s7 m hm i hi) wR) s7,c1⟩
 have c8:X ((l.take m).zip d)=m:=by simp;omega
 have hD:∀i,i<m->∃s,((l.take m).zip d)[i]? =Z (zS l i,s):=λi hi=>by
  have hn:i<X l:=lW
  refine⟨d[i]'lW,?_⟩;rw[xeX];refine⟨?_,mK⟩;rw[xbD,iq hi];simp[zS,hn]
 have hp:∀i x,((l.take m).zip d)[i]? =Z x->i<m/\x.1=zS l i:=λi x hx=>by
  have hi:i<m:=by have:=(xaz.1 hx).1;omega
  have⟨s,h⟩:=hD i hi;rw[h]at hx;cases hx;exact⟨hi,O⟩
 refine wpIn_region_any hm ?_
 have c2:∀(g:K) (b:ut v6) (a:V0) (w:wP),(xaO (X l)).countP (λk=> !b.getD k wL)<=g->b.size=X l->a.tmps.size=N.n->a.defers=N.ds->bh w0 w->
  (∀i,m<=i->i<X l->b.getD i wL=I)->
  (∀i,i<X l->b.getD i I=wL->∀e∈(zS l i).after,xcp .any e=wL->b.getD e.on I=wL)->
  (∀t,((∀i,i<m->b.getD i I=wL->(zS l i).dst≠Z t)/\zW a t=env0 t)\/
   ∃i s,i<m/\b.getD i I=wL/\((l.take m).zip d)[i]? =Z (zS l i,s)/\(zS l i).dst=Z t/\(∀H,H<m->b.getD H I=wL->(zS l H).dst=Z t->H<=i)/\s.p S (zW a t) w)->
  aC N.F 0 P .any l.toArray (zc0 N Q) g b a w:=by
  intro g
  induction g with
  |zero=>
   intro b a w hN hM b1 b2 x hq hA J;have D:∀k,k<X l->b.getD k wL=wL:=λk f=>by
    have hz:(xaO (X l)).countP (λk=> !b.getD k wL)=0:=lW
    rw[List.countP_eq_zero]at hz;have:=hz k<|xbd.2 f;simpa using this
   have c9:m=X l:=by
    rcases xbS m (X l) with M|hge
    have h5:=hq m (So _) M;rw[D m M]at h5;cases h5
    omega
   have hJ:=zB.keep x.to s8;have⟨r,live,f1,f2,f3⟩:=a3 S w (zW a) (λk f=>s5 k<|xal x.size f) hJ (UW ts λt _=>hK hD hp J (λi hi=>by
    have A:=D i lW;rwa[c (by omega:i<b.size)]at A))
   refine ig hc 0 m b a w (So _) h0 lW hM (λk f=>by rw[D k f];simp;omega) ?_;exact f3 (zW a) w (mk w r x f1) a b1 b2 (Q2 f2).symm
  |succ g ih=>
   intro b a w hN hM b1 b2 x hq hA J;by_cases D:∀k,k<m->b.getD k wL=wL
   have hJ:=zB.keep x.to s8;have⟨r,live,f1,f2,f3⟩:=a3 S w (zW a) (λk f=>s5 k<|xal x.size f) hJ (UW ts λt _=>hK hD hp J (λi hi=>by
    have A:=D i hi;rwa[c (by omega:i<b.size)]at A))
   have hZ:∀k,k<X l->b.getD k wL=decide (k<m):=λk f=>by
    by_cases hR:k<m;rw[D k hR];simp[hR];rw[hq k lW f];simp[hR]
   refine ig hc (g+1) m b a w (So _) h0 (xal ?_ hN) hM hZ ?_;rw[show(xaO (X l)).countP (λk=> !b.getD k wL)=(xaO (X l)).countP (λk=> !decide (k<m))from List.countP_congr λk f=>by rw[hZ k<|xbd.1 f]];exact count_ge m (X l);exact f3 (zW a) w (mk w r x f1) a b1 b2 (Q2 f2).symm;have h4:∃k,k<m/\b.getD k wL=I:=by
    by_cases hh:∃k,k<m/\b.getD k wL=I;exact hh
    exact wS (λk f=>by
     cases hb:b.getD k wL
     exact wS ⟨k,f,hb⟩ hh;rfl) D
   refine⟨λhr=> ?_,λi hi=> ?_⟩
   exfalso;have⟨k,f,hS,h9⟩:=first_un h4;have:k∈xef .any l.toArray b:=mem_ready.2 ⟨hS,zS l k,Yt lW,λe G hb=>by
    have h5:=h1 k lW e G hb;have A:=h9 e.on h5;rwa[c (by omega:e.on<b.size)]at A⟩
   rw[hr]at this;cases this
   have⟨hu,o,ho,hB⟩:=mem_ready.1 hi;have hn:i<X l:=by simpa using(xbf.1 ho).1
   rw[Yt hn]at ho;cases ho;have hT:i<m:=by
    obtain h|h:=xbS i m
    exact h;exfalso;by_cases h':m=i;subst h';have⟨k,f,hS⟩:=h4;have A:=aW hA h1 16 m k hn hB<|c0 hn k f;rw[<-c (by omega:k<b.size),hS]at A;cases A
    have⟨e,G,hb,hL⟩:=uF<|h3 i lW hn;have A:=hB e G hb;rw[hL,<-c (by omega:i-1<b.size),hq (i-1) lW lW]at A;cases A
   have⟨s,a4⟩:=hD i hT;have c3:=zbk _ [] i _ hY a4;have hC:∀t,(t∈xbk l.toArray (zS l i)\/(zS l i).dst=Z t)->∀j,j<m->(zS l j).dst=Z t->j≠i->(b.getD j I=wL↔j<i):=by
    intro t ht j B Y hU;have h7:=h2 i j t hT B hU Y ht;constructor;intro u;obtain h|h:=xbS j i
    exact h;exfalso;have⟨e,G,hb,hL⟩:=uF (h7.2 lW);have h8:=hA j lW u e G hb;rw[hL,<-c (by omega:i<b.size),hu]at h8;cases h8
    intro C;have⟨e,G,hb,hL⟩:=uF<|h7.1 C;have h8:=hB e G hb;rwa[hL]at h8
   have a5:b.getD i I=I:=by rw[<-c (by omega:i<b.size)];exact hu
   have hV:QC (Kof (((l.take m).zip d).take i) []) env0 (zW a) S w (xbk l.toArray<|zS l i):=by
    refine UW _ λt ht=> ?_;have tk:∀(j:K) (y:uT×Pr),(((l.take m).zip d).take i)[j]? =Z y->j<i/\((l.take m).zip d)[j]? =Z y:=λj y R=>by
     rw[xbD]at R;split at R;exact⟨by assumption,R⟩;cases R
    unfold Xf;rcases ot t (((l.take m).zip d).take i) []with⟨j,y,g1,z,g3,g4⟩|⟨g1,z⟩
    rw[g4];have⟨C,R⟩:=tk j y g1;have⟨U,hW⟩:=hp j y R;rw[hW]at z;have u:=(hC t (.inl ht) j U z lW).2 C;rcases J t with⟨f1,_⟩|⟨k,q,k1,k2,k3,k4,k5,V⟩
    exact wS z<|f1 j U u;have hX:k=j:=by have a1:=k5 j U u z;have hH:k<i:=(hC t (.inl ht) k k1 k4<|λe=>by subst e;rw[a5]at k2;cases k2).1 k2;have a2:=g3 k (zS l k,q) (by rw[xbD,iq hH];exact k3) k4;omega
    subst hX;rw[k3]at R;cases R;exact V
    rw[z];simp only[List.find?_nil];rcases J t with⟨_,f2⟩|⟨k,q,k1,k2,k3,k4,k5,V⟩
    exact f2;exfalso;have hH:k<i:=(hC t (.inl ht) k k1 k4<|λe=>by subst e;rw[a5]at k2;cases k2).1 k2;exact g1 k (zS l k,q) (by rw[xbD,iq hH];exact k3) k4
   have hJ:=zB.keep x.to s8;have hO:=c3 S w (zW a) (λk f=>s5 k<|xal x.size f) (yS.keep x.to (λm hm i hi=>x.block i (yS.lt s7 m hm i hi) wR) s7) hJ hV;have c4:qK N.n (zS l i).dst=wL:=by
    rw[xaT]at hd;refine hd _ ?_;have:zS l i=l[i]:=by simp[zS,hn]
    rw[this];exact xbG _
   have next:∀v w',bh w w'->s.p S v w'->aC N.F 0 P .any l.toArray (zc0 N Q) g (b.setIfInBounds i true) (a.put (zS l i).dst v) w':=by
    intro v w' x' hv;have hP:i<b.size:=lW
    refine ih _ _ w' ?_ (by simpa using hM) (by rw[UH];exact b1) (by rw[Wb];exact b2) (x.trans x') (λk c5 f=> ?_) (λk f a6 e G hb=> ?_)<|λt=> ?_;have:=(td hP hu<|xaO (X l)).2<|xbd.2 hn;omega;rw[V5 wL lW];exact hq k c5 f;by_cases hH:i=k;subst hH;exact US<|hB e G hb;rw[V5 I hH]at a6;exact US<|hA k f a6 e G hb;rw[Wa<|by rw[b1];exact U3 c4];by_cases hI:(zS l i).dst=Z t;right;refine⟨i,s,hT,by simp[hP],a4,hI,λj B u Y=> ?_,?_⟩;by_cases C:i=j;omega;rw[V5 I C]at u;have:=(hC t (.inr hI) j B Y lW).1 u;omega;rw[hI];simpa[put,L]using hv;have a7:put (zW a) (zS l i).dst v t=zW a t:=by
     cases c6:(zS l i).dst with
     |none=>rfl
     |some dd=>
      have hU:¬t=dd:=λe=>hI (by rw[c6,e]);have:E t dd=I:=Yw hU;simp[put,L,this]
    rw[a7];rcases J t with⟨f1,f2⟩|⟨k,q,k1,k2,k3,k4,k5,V⟩
    refine .inl ⟨λj B u=> ?_,f2⟩;by_cases C:i=j;subst C;exact hI;rw[V5 I C]at u;exact f1 j B u;refine .inr ⟨k,q,k1,US k2,k3,k4,λj B u Y=> ?_,q.keep V x'⟩;by_cases C:i=j;subst C;exact wS Y hI;rw[V5 I C]at u;exact k5 j B u Y
   unfold wpOpIn;rw[Yt hn];simp only[WH];cases hQ:yR l.toArray (zW a) (zS l i)
   simp only[xai,uP];exact⟨λ_ _=>wR,next undef w (yJ.refl _ _) (hO.2 hQ)⟩;simp only[uS];exact(hO.1 hQ).wp λv w' a8=>next v w' a8.1 a8.2
 refine c2 l.toArray.size _ a0 _ ?_ mK b0 b3 (bh.drawn w0 _) (λi h' hi=>by simp[hi]) (λi hi M=> ?_)<|λt=> .inl ⟨λi hi M=> ?_,by rw[b4]⟩;exact xal (List.countP_le_length) mK
 have:i<(xdi l.toArray.size I).size:=by simpa using hi
 rw[<-c this]at M;simp[hi]at M;have hn:i<X l:=lW
 have:i<(xdi l.toArray.size I).size:=by simpa using hn
 rw[<-c this]at M;simp[hn]at M
 where
 c {b:ut v6}{i:K} (h:i<b.size):b.getD i wL=b.getD i I:=by simp[xbv,xdw h]
 first_un {m:K}{b:ut v6} (h:∃k,k<m/\b.getD k wL=I):∃k,k<m/\b.getD k wL=I/\∀j,j<k->b.getD j wL=wL:=by
  have⟨k,f,hu⟩:=h
  induction k using xdA with
  |_ k ih=>
   by_cases hh:∃j,j<k/\b.getD j wL=I;have⟨j,B,c7⟩:=hh;exact ih j B lW c7;refine⟨k,f,hu,λj B=> ?_⟩;cases hb:b.getD j wL
   exact wS ⟨j,B,hb⟩ hh;rfl
 count_ge (m:K):∀n,n-m<=(xaO n).countP (λk=> !decide (k<m))
  |0=>by simp
  |n+1=>by
   have:=count_ge m n;rw[xdj,List.countP_append];by_cases h:n<m;omega;simp[h];omega
 hK {d:xS Pr}{b:ut v6}{a:V0}{w:wP}{S:K->Prop}{l:xS uT}{m:K}{env0:y6} (hD:∀i,i<m->∃s,((l.take m).zip d)[i]? =Z (zS l i,s)) (hp:∀i x,((l.take m).zip d)[i]? =Z x->i<m/\x.1=zS l i)
  (J:∀t,((∀i,i<m->b.getD i I=wL->(zS l i).dst≠Z t)/\zW a t=env0 t)\/
   ∃i s,i<m/\b.getD i I=wL/\((l.take m).zip d)[i]? =Z (zS l i,s)/\(zS l i).dst=Z t/\(∀H,H<m->b.getD H I=wL->(zS l H).dst=Z t->H<=i)/\s.p S (zW a t) w)
  (D:∀i,i<m->b.getD i I=wL) {t:Z4}:Xf (Kof ((l.take m).zip d) []) env0 (zW a) S w t:=by
  unfold Xf;rcases ot t ((l.take m).zip d) []with⟨j,y,g1,z,g3,g4⟩|⟨g1,z⟩
  rw[g4];have⟨U,hW⟩:=hp j y g1;rw[hW]at z;rcases J t with⟨f1,_⟩|⟨k,q,k1,k2,k3,k4,k5,V⟩
  exact wS z<|f1 j U<|D j U;have hX:k=j:=by have a1:=k5 j U (D j U) z;have a2:=g3 k (zS l k,q) k3 k4;omega
  subst hX;rw[k3]at g1;cases g1;exact V
  rw[z];simp only[List.find?_nil];rcases J t with⟨_,f2⟩|⟨k,q,k1,k2,k3,k4,k5,V⟩
  exact f2;exact wS k4<|g1 k (zS l k,q) k3
end
end
section
def zc2{we:wP}{Se:K->Prop}{ms a:N MF}{Γ b:N FF}{R:wP->Prop}(c:∀w,St we Se ms Γ w->St we Se a b w)(k:∀w,St we Se a b w->R w):∀w,St we Se ms Γ w->R w:=
 λw h=>k w<|c w h
def zkd{a b:K}:xcr.wrap ((a:J)+(b:J))=(((a+b)%18446744073709551616:K):J):=by rfl
def zkm{a b:K}:xcr.wrap ((a:J)*(b:J))=(((a*b)%18446744073709551616:K):J):=by rfl
def zjQ{a b:K}(h:b<=18446744073709551616):xcr.wrap ((a:J)-(b:J))=(((a+18446744073709551616-b)%18446744073709551616:K):J):=by rw[Cr];lia
def znN{a:K}(h:a<18446744073709551616):xcr.wrap (0-(a:J))=(((18446744073709551616-a)%18446744073709551616:K):J):=by rw[Cr];lia
def zcO{a b:K}(h:a<18446744073709551616):xcr.wrap ((a:J).tdiv (b:J))=((a/b:K):J):=by exact pV<|xaK (xcD _ _) h
def zqa{a b:K}:(a:J).tmod (b:J)=((a%b:K):J):=(Int.ofNat_tmod a b).symm
section
variable{P:jP}{N:Nd}{we:wP}{Se:wr->Prop}{ms:xS MF}{Γ:xS FF}{Q:Qs}{env:y6}{ops:ut uT}{rest:xS uT}
 {d:ww Z4}{ty yt t:wT}{pos:String}{aft:ut Edge}{g:ww (wr×v6)}{x y:wW}
def RU{a n cap:K}{b:V UL}(c:P.underlying t=Z (.slice a))(e:ev env x=.slice b n cap)(w:wP):
 (jp (ev env) ⟨d,.call ⟨.builtin .len,#[x],#[t]⟩,ty,pos,aft,g⟩).run P w=.ok (.value (.int .i64 (n:J))) w:=by
 simp[jp,Ws,WP,Ut,e,Builtin.len_,i8,ul c]
def NN{α:Type}{e:zT α}{E c:K}{v:wN}{xs:xS α}(i:K)(f:ms[i]? =Z (mO e E v xs))(a:P.underlying t=Z (.slice c))(b:ev env x=v):
 NV P ⟨d,.call ⟨.builtin .len,#[x],#[t]⟩,ty,pos,aft,g⟩ env ms Γ (λ_:Z3=> .int .i64 (X xs:J)) (λ_=>[]) (λ_=>X xs<=9223372036854775807):=by
 intro w S _ h _;have⟨cs,h1,l⟩:=yS.get h f;rcases h1.2 with⟨rfl,h0⟩|⟨m,cap,j,rfl,hc,n,hd,k,_⟩
 refine ui.of_value (RU a b w) ⟨(),by rw[h0],W,yJ.refl _ _,wR⟩;exact ui.of_value (RU a b w) ⟨(),O,by unfold V4 at k;lia,yJ.refl _ _,wR⟩
end
end
section
def zjl{P:jP}{f:Z2}{fn:WF}{e:ut wN->Sem wN}{args:ut wN}{w:wP}{v:wN}(a:P.funcs[f]? =Z fn)(hn:(fn.name== "runtime.NumGoroutine")=I)(b:fn.body=wF)
 (h1:(xeP fn).isNone=wL) (c:xfa fn=Z e) (d:(e args).run P w=.ok v w):(i9 f args).run P w=.ok (.value v) w:=by simp_all [i9]
section
variable{P:jP}{env:y6}{d:ww Z4}{ty:wT}{pos:String}{aft:ut Edge}{g:ww (wr×v6)}
def zmi{f:Z2}{fn:WF}{e:ut wN->Sem wN}{asv:N wW}{ts:ut wT}{args:N wN}{v:wN}(a:P.funcs[f]? =Z fn)(hn:(fn.name== "runtime.NumGoroutine")=I)(b:fn.body=wF)
 (h1:(xeP fn).isNone=wL) (c:xfa fn=Z e) (h:asv.map (ev env)=args) (i:∀w,(e args.toArray).run P w=.ok v w) (w:wP):
 (jp (ev env) ⟨d,.call ⟨.value (.func f),asv.toArray,ts⟩,ty,pos,aft,g⟩).run P w=.ok (.value v) w:=by
 have:=zjl (P:=P) (args:=args.toArray) (w:=w) a hn b h1 c<|i w;simp[jp,Ws,ev,xcW,WP,h,this]
def zfq(s:String)(x y c:wN):∃z:String,xbK s #[x,y,c]=(do
 let c:=(<-fD c).toNat
 if c>1 then unsupported (.noEntry z)
 pure ((<-fD x).toNat,(<-fD y).toNat,c)):=⟨_,O⟩
def GN(s:String){x y c:K}(hc:c<=1)(w:wP):(xbK s #[.int .u64 (x:J),.int .u64 (y:J),.int .u64 (c:J)]).run P w=.ok (x,y,c) w:=by
 have:¬c>1:=W
 have⟨z,a⟩:=zfq s (.int .u64 x) (.int .u64 y) (.int .u64 c);rw[a];simp only[fD,Kw,xay,xaV,xan,xaZ,this,uP]
def zdf{x y c:K}(hc:c<=1)(w:wP):((do
 let(x,y,c)<-xbK "Add64" #[.int .u64 (x:J),.int .u64 (y:J),.int .u64 (c:J)]
 pure (xcm ((x+y+c)%xbe)<|(x+y+c)/xbe):Sem wN)).run P w=
  .ok (.tuple #[.int .u64 (((x+y+c)%18446744073709551616:K):J),.int .u64 (((x+y+c)/18446744073709551616:K):J)]) w:=by
 rw[xay,GN _ hc];rfl
def zdF{x y c:K}(hc:c<=1)(w:wP):((do
 let(x,y,b)<-xbK "Sub64" #[.int .u64 (x:J),.int .u64 (y:J),.int .u64 (c:J)]
 pure (xcm ((x+xbe-y-b)%xbe) (if x<y+b then 1 else 0)):Sem wN)).run P w=
  .ok (.tuple #[.int .u64 (((x+18446744073709551616-y-c)%18446744073709551616:K):J),.int .u64 ((if x<y+c then 1 else 0:K):J)]) w:=by
 rw[xay,GN _ hc];rfl
def zj7{f:Z2}{fn:WF}{a b c:wW}{ts:ut wT}{x y z:K}(e:P.funcs[f]? =Z fn)(hn:(fn.name== "runtime.NumGoroutine")=I)(h:fn.body=wF)
 (h1:(xeP fn).isNone=wL) (i:xfa fn=Z (λargs=>do
  let(x,y,c)<-xbK "Add64" args
  pure (xcm ((x+y+c)%xbe)<|(x+y+c)/xbe)))
 (j:ev env a=.int .u64 (x:J)) (hc:ev env b=.int .u64 (y:J)) (hd:ev env c=.int .u64 (z:J)) (k:z<=1) (w:wP):
 (jp (ev env) ⟨d,.call ⟨.value (.func f),#[a,b,c],ts⟩,ty,pos,aft,g⟩).run P w=
  .ok (.value (.tuple #[.int .u64 (((x+y+z)%18446744073709551616:K):J),.int .u64 (((x+y+z)/18446744073709551616:K):J)])) w:=
 zmi e hn h h1 i (by simp[j,hc,hd]) (λw=>zdf k w) w
def zjZ{f:Z2}{fn:WF}{a b c:wW}{ts:ut wT}{x y z:K}(e:P.funcs[f]? =Z fn)(hn:(fn.name== "runtime.NumGoroutine")=I)(h:fn.body=wF)
 (h1:(xeP fn).isNone=wL) (i:xfa fn=Z (λargs=>do
  let(x,y,b)<-xbK "Sub64" args
  pure (xcm ((x+xbe-y-b)%xbe) (if x<y+b then 1 else 0))))
 (j:ev env a=.int .u64 (x:J)) (hc:ev env b=.int .u64 (y:J)) (hd:ev env c=.int .u64 (z:J)) (k:z<=1) (w:wP):
 (jp (ev env) ⟨d,.call ⟨.value (.func f),#[a,b,c],ts⟩,ty,pos,aft,g⟩).run P w=
  .ok (.value (.tuple #[.int .u64 (((x+18446744073709551616-y-z)%18446744073709551616:K):J),.int .u64 ((if x<y+z then 1 else 0:K):J)])) w:=
 zmi e hn h h1 i (by simp[j,hc,hd]) (λw=>zdF k w) w
end
def zlf(P:jP)(w:wP)(env:y6):WS->wN->Prop
 |.tmp t,v=>env t=v
 |.cell a t,v=>∃b,env a=.pointer (Z b)/\(iP t b).run P w=.ok v w
def dN(P:jP)(w:wP)(env:y6):N WS->N wN->Prop
 |[],[]=>Xs
 |r::rs,v::vs=>zlf P w env r v/\dN P w env rs vs
 |_,_=>KW
def PN(P:jP)(w:wP)(a:V0):∀(rs:N WS) (vs:N wN),dN P w (zW a) rs vs->(rs.mapM<|Dw a.tmps).run P w=Result.ok vs w
 |[],[],_=>by simp
 |r::rs,v::vs,⟨h1,c⟩=>by
  have f:=PN P w a rs vs c;have h:(Dw a.tmps r).run P w=.ok v w:=by
   cases r with
   |tmp t=>simp only[zlf]at h1;simp[Dw,<-h1,zW]
   |cell x t=>
    have⟨d,e1,e⟩:=h1;have b:a.tmps.getD x Z0=.pointer (Z d):=e1;simp only[Dw,b,xay,asAddr,xaV,xan,e]
  simp_all
 |[],_::_,h=>h.elim
 |_::_,[],h=>h.elim
def uK:N wN->wN
 |[v]=>v
 |vs=> .tuple vs.toArray
def uU{P:jP}{fn:WF}{rs:N WS}{vs:N wN}{w:wP}{a:V0}(b:fn.results=rs.toArray)(h:dN P w (zW a) rs vs):(WT fn a.tmps).run P w=.ok (uK vs) w:=by
 have e:WT fn a.tmps=(do let vs<-fn.results.mapM (Dw a.tmps);pure (if h:vs.size=1 then vs[0]else .tuple vs)):=by rfl
 rw[e,b,Array.mapM_eq_mapM_toList];have:=PN P w a rs vs h;simp only[xay,Sem.run_map,this]
 match vs with
 |[]=>simp[uK]
 |[v]=>simp[uK]
 |v::u::r=>simp[uK]
section
variable{P:jP}{we:wP}{Se:wr->Prop}{ms:xS MF}{Γ:xS FF}{env:y6}{U:Type}{val:U->wN}{facts:U->xS FF}{ok:U->Prop}{fn:WF}
def zfr{α:Type}{e:zT α}{E b:K}{z:α}{w:wP}{bytes:K}{d:wN}{R:Prop}{a:Z4}(i:K)(g:St we Se ms Γ w)(h:ms[i]? =Z (mB e.c E b z))(j:env a=.pointer (Z ⟨b,0,wF⟩))
 (ht:Jo P E e.agg e.n bytes d) (k:∀v,St we Se ms (fV e z v::Γ) w->zlf P w env (.cell a E) v->R):R:=by
 have⟨h1,l,m,S,o,p,q,f,r⟩:=g;have⟨cs,s,hp⟩:=yS.get f h;have hc:=At.row s;exact k (e.val cs.toList) ⟨h1,l,m,S,o,p,q,f,⟨cs.toList,O,hp⟩,r⟩ ⟨_,j,fJ ht hp hc⟩
end
def SP{U:Type}(P:jP)(f:Z2)(args:ut wN)(ms:N MF)(Γ:N FF)(b:U->wN)(own:U->N MF)(a:U->N FF)(ok:U->Prop):Prop:=
 ∀we Se F G w,St we Se (ms++F) (Γ++G) w->UT P f args w (λe w'=>∃u,e=.returned (b u)/\ok u/\St we Se (own u++F) (a u++G) w')
section
variable{P:jP}{N:Nd}{we:wP}{Se:wr->Prop}{ms F:xS MF}{Γ G:xS FF}{Q:Qs}{env:y6}{U:Type}{val:U->wN}{own:U->xS MF}{facts:U->xS FF}{ok:U->Prop}{fn:WF}
 {ops:ut uT}{rest:xS uT}{d:ww Z4}{ty:wT}{pos:String}{aft:ut Edge}{g:ww (wr×v6)}
def SP.plain{f:Z2}{args:ut wN}(h:SP P f args [] Γ val (λ_=>[]) facts ok):Fn P f args Γ val facts ok:=by intro w Se b a;refine(h w Se [] [] w<|St.nil (by simpa using a) b).mono ?_;rintro e w' ⟨u,h1,c,i⟩;have:=i.out (λS w h=>by simpa using h);exact⟨u,h1,c,this.1,this.2⟩
def SP.frozen{f:Z2}{args:ut wN}{Δ:U->xS FF}(h:SP P f args [] Γ val own facts ok)
 (b:∀(u:U) (w':wP) (we:wP) (Se:K->Prop),St we Se (own u) (facts u) w'->St we Se [] (Δ u) w'):Fn P f args Γ val Δ ok:=by
 intro w Se c a;refine(h w Se [] [] w<|St.nil (by simpa using a) c).mono ?_;rintro e w' ⟨u,h1,i,j⟩;have:=(b u w' w Se<|by simpa using j).out<|λS w h=>h;exact⟨u,h1,i,this.1,this.2⟩
end
def Pv:∀{ms:N MF}{i:K}{m:MF},QE ms->ms[i]? =Z m->QE (m::ms.eraseIdx i):=by intro ms i m h e;refine⟨λk b m' a hc=> ?_,?_⟩;rw[List.mem_eraseIdx_iff_getElem?]at a;have⟨j,c,d⟩:=a;exact eV h e k b j m' c d hc;exact KF i h
def St.front{we:wP}{Se:K->Prop}{ms:N MF}{Γ:N FF}{w:wP}{m:MF}(i:K)(h:St we Se ms Γ w)(hi:ms[i]? =Z m):St we Se (m::ms.eraseIdx i) Γ w:=by
 have⟨h1,b,c,S,d,e,f,a,g⟩:=h;refine⟨h1,b,Pv c hi,S,d,e,λm' hm'=> ?_,⟨yS.get a hi,aJ i a⟩,g⟩;obtain rfl|hm':=xah.1 hm'
 grind;exact f m'<|xdI hm'
def zgM{m:K}(h:m<=9223372036854775807):xdb.wrap (m:J)=(m:J):=w64 W
def R8{P:jP}{w:wP}(t r ty e:wT)(i:li)(z:wN)(size bytes:K){ik:Z5}(ht:P.underlying t=Z (.slice e))(hl:P.underlying r=Z (.int ik))(hi:P.info? e=Z i)(s:i.zero=Z z)
 (M:i.size=size) (Q:i.bytes=bytes) (D:z.cells.size=size) (R:∀u∈z.cells.toList,u.oneCell'=wL) (x:0<size)
 (v:wN) (n:K) (xs:N wN) (f:w.ownsRow 0 e size v n xs) (m:K)
 (E:n+m<=V4) (hd:(n+m)*bytes<=140737488355328):
 ∃y w',(xcb #[t,r] ty #[v,.int .i64 (m:J)]).run P w=.ok y w'/\w'.ownsRow 0 e size y (n+m) (xs++(xbq z.cells m).toList)/\w.grownBy w' v.ownBlock/\
  ∀k,y.ownBlock=Z k->v.ownBlock=Z k\/w.heap.size<=k:=by
 subst M;subst Q;have hK:n+m<=9223372036854775807:=by simp only[V4]at E;lia
 have F:(xbq z.cells m).toList.length=m*i.size:=by simp[eL,D]
 have o:X (xs++(xbq z.cells m).toList)=(n+m)*i.size:=by rw[xat,f.1,F,xbi]
 have A:=zgM (m:=m) W;have hn:¬((m:J)<0):=W
 have S:¬((m:J)*(i.bytes:J)>281474976710656):=by
  have h1:m*i.bytes<=(n+m)*i.bytes:=xaj _ W;have:((m*i.bytes:K):J)<=140737488355328:=W
  rw[xfi]at this;lia
 have hp:¬(281474976710656<(m:J)*(i.bytes:J)):=S
 have a:∀(old:K),old<n+m->∀(h:V K),
  (w.drew.alloc (.cells (xs.toArray++xbq z.cells m++xbq z.cells (ce w (n+m) old e-(n+m))) e)).ownsRow 0 e i.size
   (.slice (Z ⟨w.heap.size,0,wF⟩) (n+m)<|ce w (n+m) old e) (n+m) (xs++(xbq z.cells m).toList)/\
  w.grownBy (w.drew.alloc (.cells (xs.toArray++xbq z.cells m++xbq z.cells (ce w (n+m) old e-(n+m))) e)) h:=by
  intro old ho h;have T:=grownCap_ge w (n+m) old e;have B:ce w (n+m) old e<=V4:=grownCap_le_maxLen w (n+m) old e E;refine⟨⟨o,.inr ⟨w.heap.size,_,_,O,xae _,WR w.drew _,T,B,?_,?_⟩⟩,⟨O,O,O,mK,λk b _=>RowKit.Below.heap_alloc w.drew _ k b⟩⟩;simp only[Array.size_append,List.size_toArray,eL,D,f.1,<-xbi];congr 1;lia;simp only[Array.toList_append,xaq];rw[<-xaq,<-o];exact List.take_left
 rcases f.2 with⟨rfl,rfl⟩|⟨g,cap,c,rfl,U,G,Y,B,hR,hE⟩
 have hx:xs=[]:=xbp (by simpa using f.1);subst hx;by_cases d:m=0
 subst d;refine⟨.slice wF 0 0,w,?_,by simpa[xbq]using World.ownsRow_nil w 0 e i.size,⟨O,O,O,So _,λ_ _ _=>O⟩,λk b=> .inl b⟩;have e0:xdb.wrap 0=0:=mD
 simp[xcb,ul ht,ul hl,V3,V9,hi,fD,Kw,e0];have C:¬(9223372036854775807<(m:J)):=W
 have p:=eM (old:=0) (need:=0+m) (bytes:=i.bytes) W hd;have hv:¬(281474976710656<Builtin.nextslicecap m 0*i.bytes):=by simp only[xaJ]at p;lia
 have l:=a 0 W<|Value.ownBlock (.slice wF 0 0);refine⟨_,_,?_,l.1,l.2,λk b=> .inr<|by cases b;exact So _⟩;simp[xcb,ul ht,ul hl,V3,V9,cE,hi,s,fD,Kw,A,d,C,hv,hn,hp,Question.forced,run_firstCells_none,cO,ce];intro h0;have:0<m*i.size:=xdL W x;lia;by_cases hc:n+m<=cap;have p:n*i.size+(xbq z.cells m).toList.length<=c.size:=by rw[F,hR,<-xbi];exact xaj _ hc
 have h1:∀u∈(xbq z.cells m).toList,u.oneCell'=wL:=by intro u H;simp only[xbq,Array.toList_map,xas]at H;obtain⟨j,hj,rfl⟩:=H;have L:j%z.cells.size<z.cells.size:=xaN _ W;rw[getElem!_pos z.cells _ L];exact R _<|xdN.2<|Array.getElem_mem L
 have q:=aM P g (n*i.size) e (xbq z.cells m).toList 0 c w G (by simpa using p) h1;simp only[xbM]at q
 have hr:(xcb #[t,r] ty #[.slice (Z ⟨g,0,wF⟩) n cap,.int .i64 (m:J)]).run P w=
  .ok (.slice (Z ⟨g,0,wF⟩) (n+m) cap) (w.setRow g (c.toList.take (n*i.size)++(xbq z.cells m).toList++c.toList.drop (n*i.size+(xbq z.cells m).toList.length)).toArray):=by
  by_cases d:m=0
  subst d;have e0:xdb.wrap 0=0:=mD
  have ez:(xbq z.cells 0)= #[]:=by simp[xbq]
  rw[ez]at q⊢;simp[xcb,ul ht,ul hl,V3,V9,hi,fD,Kw,e0,Y,Addr.add_lit,q];have hS:¬(m=0\/i.size=0):=W
  simp[xcb,ul ht,ul hl,V3,V9,cE,hi,s,fD,Kw,A,hn,hp,hc,hS,Addr.add_lit,q];intro h0;have:0<m*i.size:=xdL W x;lia
 refine⟨_,_,hr,⟨o,.inr ⟨g,cap,_,O,U,iI w g c _ e _ G,hc,B,?_,?_⟩⟩,⟨O,O,O,mK,λk _ b=>setRow_other w g k _<|λe=>b<|by simp[Value.ownBlock,e]⟩,λk b=> .inl b⟩;simp only[List.size_toArray,xat,xar,xch,xeY]at p⊢;lia;rw[hE,<-o];exact List.take_left;have hF:∀j u,xs[j]? =Z u->w.cell? ((⟨g,0,wF⟩:UL).add j)=Z u:=f.cells (g:=g) O;have C:¬(9223372036854775807<(n:J)+(m:J)):=W
 have hv:¬(281474976710656<Builtin.nextslicecap (n+m) cap*i.bytes):=by have:=eM (old:=cap) (need:=n+m) (bytes:=i.bytes) W hd;lia
 have l:=a cap W<|Value.ownBlock (.slice (Z ⟨g,0,wF⟩) n cap);have hT:=run_firstCells_some (P:=P) w.drew i.size n ⟨g,0,wF⟩ n cap xs f.1 (by simpa using hF);refine⟨_,_,?_,l.1,l.2,λk b=> .inr<|by cases b;exact So _⟩;by_cases d:m=0
 subst d;lia
 simp[xcb,ul ht,ul hl,V3,V9,cE,hi,s,fD,Kw,A,d,C,hv,hn,hp,hc,Question.forced,hT,cO,ce];intro h0;have:0<m*i.size:=xdL W x;lia
def oh{z:ut wN}{m:K}(a:z.size=m)(n:K):(xbq z n).toList=(Nm n z.toList).flatten:=by
 apply xcv;intro j;by_cases b:j<n*m
 ·have c:0<m:=xcR λh0=>by rw[h0]at b;simp at b
  have e1:(xbq z n).toList[j]? =z.toList[j%m]? :=by
   have:=xaN j c;simp[xbq,a,b,this]
  rw[e1,zbN.flatten_get z.toList m (by simpa using a) c n j b];all_goals exact 0
 ·rw[xbn (by simp[eL,a];lia),xbn<|by simp[a];lia]
section
variable{P:jP}{N:Nd}{we:wP}{Se:wr->Prop}{ms ms':xS MF}{Γ Γ':xS FF}{Q:Qs}{env:y6}{ops:ut uT}{rest:xS uT}
 {d:ww Z4}{ty yt t ti:wT}{pos:String}{aft:ut Edge}{g:ww (wr×v6)}{x y:wW}
def SY{α:Type}{e:zT α}{f:wT}{xs:xS α}{z:α}{n:K}{v:wN}{bytes:K}{a:wN}{ik:Z5}(i:K)(ht:P.underlying t=Z (.slice f))(D:P.underlying ti=Z (.int ik))(hv:Jo P f e.agg e.n bytes a)(hd:a.cells.size=e.n)(hn:0<e.n)
 (o:ms[i]? =Z (mO e f v xs)) (E:ev env x=v) (F:ev env y=.int .i64 (n:J)) (q:∀(S:K->Prop) (w:wP),e.p S z a.cells.toList w)
 (hF:X xs+n<=9223372036854775807) (G:(X xs+n)*bytes<=140737488355328):OG P ⟨d,.call ⟨.builtin .append,#[x,y],#[t,ti]⟩,ty,pos,aft,g⟩ env we Se ms Γ (λc=>c) (λc=>(ms.set i<|mO e f c<|xs++Nm n z)) (λ_=>Γ) (λ_=>Xs):=by
 intro w r;have⟨S,_,⟨cs,l,he⟩,h8,_⟩:=r.mut o;have⟨H,hi,i1,i2,L⟩:=hv.info;have⟨c,w',M,hl,b,R⟩:=R8 (P:=P) t ti ty f H a e.n bytes ht D hi L i1 i2 hd (e.one<|q S w) hn v (X xs) cs l n (by unfold V4;lia) G;refine ui.of_value (w':=w') (v:=c) ?_ ⟨c,O,wR,r.grow o ⟨b.os,b.tape,b.output,b.size,λj T m=>b.block j T<|λe=>m e.symm⟩ R ?_⟩;simp only[jp,Ws,WP,Ut,xeb,xbQ,xdS,E,F,xay,M,xaV,xan];intro S U ⟨h,hp,V⟩ Y;have hB:h=cs:=by
  rcases l.2 with⟨rfl,h0⟩|⟨g,cap,a0,rfl,_,hC,_,_,_,hD⟩
  have s:=l.1;have u:=hp.1;rw[h0]at s u;have c1:cs=[]:=xbp (by simpa using s);have c2:h=[]:=xbp (by simpa using u);rw[c1,c2];rcases hp.2 with⟨hc,_⟩|⟨g',A,B,hE,_,C,_,_,_,hq⟩
  cases hc
  cases hE;rw[hC]at C;cases C;rw[<-hD,<-hq]
 subst hB;have kk:yJ S w w':=⟨b.os,b.tape,b.output,b.size,λk hk m=>b.block k hk<|λe=>U k m e.symm⟩;rw[oh hd]at hl;exact⟨_,by rw[xat,xaM];exact hl,(V.keep kk).append<|yT.replicate (q _ _) n⟩
end
def zB.left{S:K->Prop}{w:wP}:∀{Γ Δ:N FF},zB S (Γ++Δ) w->zB S Γ w
 |[],_,_=>trivial
 |_::_,_,h=>⟨h.1,zB.left h.2⟩
def zB.right{S:K->Prop}{w:wP}:∀{Γ Δ:N FF},zB S (Γ++Δ) w->zB S Δ w
 |[],_,h=>h
 |_::_,_,h=>zB.right h.2
def Fn.ok_mono{U:Type}{P:jP}{f:Z2}{args:ut wN}{Γ:N FF}{g:U->wN}{d:U->N FF}{ok i:U->Prop}(h:Fn P f args Γ g d ok)(j:∀u,ok u->i u):Fn P f args Γ g d i:=
 λw Se h1 k=>(h w Se h1 k).mono λe w' ⟨u,a,b,c⟩=>⟨u,a,j u b,c⟩
end
section
def rowT{α:Type}(e:zT α)(cap:K):sU (N α)where
 p S xs cs w:=∃c post,cs=c++post/\yT e S xs c w/\X cs=cap*e.n
 keep:=λ⟨c,post,h1,a,b⟩ k=>⟨c,post,h1,a.keep k,b⟩
 sub:=λ⟨c,post,h1,a,b⟩ k=>⟨c,post,h1,a.sub k,b⟩
def Sub.rowT{α:Type}(e:zT α)(cap:K)(xs:N α)(i:K)(x:α)(j:xs[i]? =Z x):Sub (rowT e cap) xs (i*e.n) e x (λy=>xs.set i y):=by rintro S w cs ⟨c0,a,rfl,k,hl⟩;obtain⟨d,c,b,rfl,l,f,m⟩:=Sub.row e xs i x j S w c0 k;refine⟨d,c,b++a,mK,l,f,λw' y g o h=>⟨d++g++b,a,mK,m w' y g o h,?_⟩⟩;have e1:=e.len f;have p:=e.len h;simp_all
def Sub.rowT0{α:Type}(e:zT α)(cap:K)(xs:N α)(i:K)(x:α)(a:xs[i]? =Z x):Sub (Go.Proofs.YtoegnnjcmlghhaaGreat.rowT e cap) xs (0+i*e.n) e x (λy=>xs.set i y):=by rw[xaJ];exact Sub.rowT e cap xs i x a
section
variable{we:wP}{Se:wr->Prop}{ms:xS MF}{Γ:xS FF}{w:wP}{α:Type}{e:zT α}{E:wT}{xs:xS α}
theorem wE{i:K}{m:MF}(h:St we Se ms Γ w)(hi:ms[i]? =Z m){p:Prop}(hp:∀S:K->Prop,m.p S w->p):p:=by grind [St.muts]
def St.openO{v:wN}(i:K)(h:St we Se ms Γ w)(c:ms[i]? =Z (mO e E v xs))(hi:0<X xs):
 ∃g cap,v=.slice (Z ⟨g,0,wF⟩) (X xs) cap/\X xs<=cap/\cap<=9223372036854775807/\St we Se (ms.set i<|mB (rowT e cap) E g xs) Γ w:=by
 have:∃g cap,v=.slice (Z ⟨g,0,wF⟩) (X xs) cap/\X xs<=cap/\cap<=9223372036854775807:=wE h c λS ⟨cs,h1,b⟩=>by
  rcases h1.2 with⟨rfl,h0⟩|⟨g,cap,a,rfl,l,d,f,hc,hd,j⟩
  lia;exact⟨g,cap,O,f,hc⟩
 obtain⟨g,cap,rfl,h1,b⟩:=this;refine⟨g,cap,O,h1,b,h.conv c O λS ⟨cs,h1,b⟩=> ?_⟩;rcases h1.2 with⟨h0,_⟩|⟨m,k,a,hv,l,d,f,hc,hd,j⟩
 cases h0
 cases hv;refine⟨a,d,cs,a.toList.drop<|X xs*e.n,?_,b,by simpa using hd⟩;rw[<-j,xby]
theorem St.closeO{g cap:K}(i n:K)(h:St we Se ms Γ w)(d:ms[i]? =Z (mB (rowT e cap) E g xs))(hn:n<=X xs)(hc:n<=cap)(k:cap<=9223372036854775807):
 St we Se (ms.set i<|mO e E (.slice (Z ⟨g,0,wF⟩) n cap)<|xs.take n) Γ w:=by
 refine h.conv d O λS ⟨cs,f,c,a,h1,b,j⟩=>⟨c.take<|n*e.n,?_,b.take n⟩;have hl:X (xs.take n)=n:=by simp;lia
 have hd:=b.len;have l:n*e.n<=X xs*e.n:=xaj _ hn;rw[hl];refine⟨by simp;lia,.inr ⟨g,cap,cs,O,xae _,f,hc,by unfold V4;lia,by simpa using j,?_⟩⟩;grind
def St.closeF{g cap:K}(i:K)(h:St we Se ms Γ w)(a:ms[i]? =Z (mB (rowT e cap) E g xs))(hc:X xs<=cap)(b:cap<=9223372036854775807):
 St we Se (ms.set i<|mO e E (.slice (Z ⟨g,0,wF⟩) (X xs) cap) xs) Γ w:=by
 have:=h.closeO i (X xs) a (So _) hc b;simp_all
def St.rowRT{b n:K}(i:K)(h:St we Se ms Γ w)(c:ms[i]? =Z (mR e E b xs))(hn:n=X xs):St we Se (ms.set i<|mB (rowT e n) E b xs) Γ w:=
 h.conv c O λS ⟨cs,d,a⟩=>⟨cs,d,cs.toList,[],mK,a,by rw[hn];exact yT.len a⟩
end
section
variable{P:jP}{N:Nd}{we:wP}{Se:wr->Prop}{ms:xS MF}{Γ:xS FF}{Q:Qs}{env:y6}{ops:ut uT}{rest:xS uT}
 {d:ww Z4}{ty yt t t':wT}{pos:String}{aft:ut Edge}{g:ww (wr×v6)}{x y:wW}
def SM{e:wT}{ag:v6}{c bytes:K}{a:wN}{b o n cap l h:K}{lo hi:V wN}{w:wP}(ht:P.underlying t=Z (.slice e))(hd:Jo P e ag c bytes a)
 (hl:lo=Z (.int .i64 (l:J))\/(lo=wF/\l=0)) (f:hi=Z (.int .i64 (h:J))\/(hi=wF/\h=n)) (j:l<=h) (k:h<=cap) (m:l<cap\/l=0):
 (xcV t (.slice (Z ⟨b,o,wF⟩) n cap) lo hi wF).run P w=.ok (.slice (Z ⟨b,o+l*c,wF⟩) (h-l)<|cap-l) w:=by
 have b1:(0:J)<=(l:J)/\(l:J)<=(h:J):=W
 have b2:(0:J)<=(h:J)/\(h:J)<=(cap:J):=W
 have i:(xcV t (.slice (Z ⟨b,o,wF⟩) n cap) lo hi wF).run P w=.ok (.slice (if cap=l then Z ⟨b,o,wF⟩else(Z (⟨b,o,wF⟩:UL)).map (·.add (l*c))) (h-l)<|cap-l) w:=by
  unfold xcV;simp only[xay,ul ht,xan];unfold xfT;simp only[xay,ul ht,xan];unfold xet
  obtain rfl|⟨rfl,rfl⟩:=hl<;>obtain rfl|⟨rfl,rfl⟩:=f<;>
   simp only[xeJ,Kw,xay,xaV,xan,iq b1,iq b2,wo hd,xaZ]
 rw[i];by_cases hc:cap=l;simp_all;simp[hc,jb]
def P2{c:wT}{ag:v6}{e bytes:K}{a:wN}{b o n cap h:K}{hi:wW}(f:ev env x=.slice (Z ⟨b,o,wF⟩) n cap)(ht:P.underlying t=Z (.slice c))(i:Jo P c ag e bytes a)
 (j:ev env hi=.int .i64 (h:J)) (hc:h<=cap) (w:wP):(jp (ev env) ⟨d,.slice t x wF (Z hi) wF,ty,pos,aft,g⟩).run P w=.ok (.value (.slice (Z ⟨b,o,wF⟩) h cap)) w:=by
 have:=SM (b:=b) (o:=o) (n:=n) (w:=w) ht i (.inr ⟨O,O⟩) (.inl O) (xae _) hc (.inr O);simp[jp,f,j,this]
theorem ze8{α:Type}{e:zT α}{a:wT}{bytes:K}{b:wN}(ht:P.underlying t=Z (.slice a))(c:Jo P a e.agg e.n bytes b):OG P ⟨d,.buildSlice t 0 #[],ty,pos,aft,g⟩ env we Se ms Γ (λv=>v) (λv=>(mO e a v []::ms)) (λ_=>Γ) (λ_=>Xs):=by
 intro w hc;have f:(xeK t 0 #[]).run P w=.ok (.slice (Z ⟨w.heap.size,0,wF⟩) 0 0) (w.alloc (.cells #[] a)):=by unfold xeK;simp only[xay,ul ht,xan,wo c,cO];simp[xdJ];grind
 refine ui.of_value (w':=w.alloc (.cells #[] a)) (v:=.slice (Z ⟨w.heap.size,0,wF⟩) 0 0) ?_ ⟨_,O,wR,hc.fresh (bh.alloc w _) O mK λS _ _=>⟨[],?_,O⟩⟩;simp[jp,f];exact⟨mK,.inr ⟨w.heap.size,0,#[],O,xae _,WR w _,So _,xae _,mK,mK⟩⟩
def zfo{α:Type}{e:zT α}{b:wT}{bytes:K}{a:wN}(c:yR ops env ⟨d,.buildSlice t 0 #[],ty,pos,aft,g⟩=wL)(hd:qK N.n d=wL)
 (ht:P.underlying t=Z (.slice b)) (f:Jo P b e.agg e.n bytes a)
 (k:∀v,TL P N we Se (mO e b v []::ms) Γ ops rest Q<|put env d v):TL P N we Se ms Γ ops (⟨d,.buildSlice t 0 #[],ty,pos,aft,g⟩::rest) Q env:=
 zmd c hd (ze8 ht f) λv _=>k v
end
section
variable{P:jP}{env:y6}{d:ww Z4}{ty t:wT}{pos:String}{aft:ut Edge}{g:ww (wr×v6)}{x y c:wW}{w:wP}{S:wr->Prop}{v:wN}
def zrF{f:Go.Fn}{xs:N wW}{vs:N wN}(h:xs.map (ev env)=vs)(w:wP):(jp (ev env) ⟨d,.makeFunc f #[] xs.toArray,ty,pos,aft,g⟩).run P w=.ok (.value (.func f #[] vs.toArray)) w:=
 da (by simp[pv,h]) w
end
section
variable{P:jP}{N:Nd}{we:wP}{Se:wr->Prop}{ms:xS MF}{Γ:xS FF}{Q:Qs}{env:y6}{ops:ut uT}{rest:xS uT}
 {d:ww Z4}{ty yt t t':wT}{pos:String}{aft:ut Edge}{g:ww (wr×v6)}{x y:wW}
def Fy(w:wP)(k p ty b:wT)(g o dLen dCap:K)(a:UL)(e f:K)(c:ut wN)(t:wT)(cs:xS wN){n m:K}
 (q:P.underlying k=Z (.slice b)) (l:(P.info? b).map (·.size)=Z n) (r:Nat.min e dLen=m)
 (s:w.heap[g]? =Z (.cells c t (0,0))) (hn:X cs=m*n)
 (u:∀j v,cs[j]? =Z v->w.cell? (a.add j)=Z v) (hc:o+X cs<=c.size) (h1:∀v∈cs,v.oneCell'=wL):
 (xfQ #[k,p] ty #[.slice (Z ⟨g,o,wF⟩) dLen dCap,.slice (Z a) e f]).run P w=
  .ok (i8 m) (w.setRow g (c.toList.take o++cs++c.toList.drop (o+X cs)).toArray):=by
 have hl:=am (P:=P) w a cs u;have hd:=aM P g o t cs 0 c w s (by simpa using hc) h1
 cases h:P.info? b with
 |none=>simp[h]at l
 |some i=>
  have hi:i.size=n:=by simpa[h]using l
  simp[xfQ,ul q,xfP,xeO,V3,V9,h,hi,r,<-hn,hl,hd]
def JA(w:wP)(f j ty b:wT)(d a:V UL)(dLen dCap c e:K)(k:P.underlying f=Z (.slice b)){n:K}(l:(P.info? b).map (·.size)=Z n)(hn:Nat.min c dLen=0):
 (xfQ #[f,j] ty #[.slice d dLen dCap,.slice a c e]).run P w=.ok (i8 0) w:=by
 cases h:P.info? b with
 |none=>simp[h]at l
 |some i=>
  have hl:=λx=>by simpa using am (P:=P) w x [] mK
  cases d<;>cases a<;>simp[xfQ,ul k,xfP,xeO,V3,V9,h,hn,storeCells,hl]
def R9{α:Type}{e:zT α}{r E b l dLen dCap cap bytes:K}{s u:wN}{xs ys:xS α}(i:K)(ht:P.underlying t=Z (.slice r))(hJ:Jo P r e.agg e.n bytes s)(A:ms[i]? =Z (mB (rowT e cap) E b xs))(hx:ev env x=.slice (Z ⟨b,0+l*e.n,wF⟩) dLen dCap)(hy:ev env y=u)
 (hl:l+dLen<=X xs) (R:∀(S:K->Prop) (w:wP),zB S Γ w->(fV (eS e) ys u).p S w):OG P ⟨d,.call ⟨.builtin .copy,#[x,y],#[t,t']⟩,ty,pos,aft,g⟩ env we Se ms Γ (λn:J=>(.int .i64 n)) (λn=>(ms.set i<|mB (rowT e cap) E b<|xs.take l++ys.take (min (X ys) dLen)++xs.drop (l+min (X ys) dLen))) (λ_=>Γ) (λ_=>Xs):=by
 intro w hn;have⟨S0,⟨c,B,c0,h,hz,hA,hK⟩,hT,hL⟩:=hn.muts A;have⟨ao,f,C,h1,h2,D⟩:=wb.1<|R S0 w hL;have⟨ti,hi,i1,i2,i3⟩:=hJ.info;have T:(P.info? r).map (·.size)=Z e.n:=by rw[hi];simp[i1]
 have U:∀v w',(xfQ #[t,t'] ty #[.slice (Z ⟨b,0+l*e.n,wF⟩) dLen dCap,u]).run P w=.ok v w'->
  (jp (ev env) ⟨d,.call ⟨.builtin .copy,#[x,y],#[t,t']⟩,ty,pos,aft,g⟩).run P w=.ok (.value v) w':=λv w' o=>by
  simp only[jp,Ws,WP,Ut,xeb,xbQ,xdS,hx,hy,xay,o,xaV,xan]
 have⟨m,z⟩:∃m,min (X ys) dLen=m:=⟨_,O⟩;have V:Nat.min (X ys) dLen=m:=z;have hU:m<=dLen:=by rw[<-z];exact Nat.min_le_right _ _
 have hc:m<=X ys:=by rw[<-z];exact Nat.min_le_left _ _
 have e1:(l+m)*e.n=l*e.n+m*e.n:=xbi _ _ _;have F:l*e.n+m*e.n<=X xs*e.n:=by rw[<-e1];exact xaj _ W
 have e3:m*e.n<=X ys*e.n:=xaj _ hc;have hV:X c0=X xs*e.n:=hA.len;rw[z];by_cases h0:m=0
 have o:=JA (P:=P) w t t' ty r (Z ⟨b,0+l*e.n,wF⟩) ao dLen dCap (X ys) f ht T<|V.trans h0;rw[<-C]at o;refine ui.of_value (U _ _ o) ⟨_,O,wR,?_⟩;rw[h0];simp only[xbM,List.take_zero,xbm,xby];have:ms.set i (mB (rowT e cap) E b xs)=ms:=by have⟨hW,hM⟩:=xaz.1 A;rw[<-hM,xdf]
 rw[this];exact hn;obtain D|⟨sb,so,cs,rfl,hX,Y,hp⟩:=D
 rw[D]at hc;simp at hc;lia;have hN:X cs=X ys*e.n:=hp.len;have hE:X (cs.take<|m*e.n)=m*e.n:=by rw[xar,hN];lia
 have e4:X c.toList=X c0+X h:=by rw[hz,xat]
 have hF:0+l*e.n+X (cs.take<|m*e.n)<=c.size:=by simp only[xeY]at e4;lia
 have o:=Fy (P:=P) w t t' ty r b (0+l*e.n) dLen dCap ⟨sb,so,wF⟩ (X ys) f c E (cs.take<|m*e.n) ht T V B hE
  (λj v hv=>by rw[jb];exact(Y.take _).2 j v hv) hF (λv hv=>hp.one v<|xes hv)
 rw[<-C]at o;refine ui.of_value (U _ _ o) ⟨_,O,wR,hn.write A O O (Jk w b _) ?_⟩;rintro S hS ⟨a0,hG,c1,q,hH,hd,hq⟩ h8;rw[B]at hG;cases hG;have⟨a1,G,hI,_,_,H⟩:=wb.1<|R S w h8;rw[C]at hI;cases hI;obtain H|⟨a2,a3,a,hO,hY,hP,hg⟩:=H
 rw[H]at hc;simp at hc;lia
 cases hO;have hQ:a=cs:=by
  have hR:X a=X cs:=by rw[hg.len,hp.len]
  apply xcv;intro j;by_cases L:j<X cs;have e1:=Y.2 j cs[j] (by simp[L]);have F:=hP.2 j a[j] (by simp[hR,L]);rw[e1]at F;rw[xab L,xab (by lia:j<X a),F];rw[xbn (l:=cs) W,xbn (l:=a) W]
 subst hQ;have hZ:X c1=X xs*e.n:=hd.len;have M:yJ S w (w.setRow b (c.toList.take (0+l*e.n)++a.take (m*e.n)++c.toList.drop (0+l*e.n+X (a.take<|m*e.n))).toArray):=(Jk w b _).weak λk _ hk=>hS k hk;refine⟨_,iI w b c _ E (0,0) B,c1.take (l*e.n)++a.take (m*e.n)++c1.drop ((l+m)*e.n),q,?_,?_,?_⟩;rw[hE,xaJ,e1,hH,List.take_append_of_le_length W,List.drop_append_of_le_length W];simp[xaq];exact(((hd.keep M).take l).append<|(hg.keep M).take m).append<|(hd.keep M).drop<|l+m;rw[<-hq];simp only[xat,xar,xch];lia
end
end
section
section
variable{P:jP}{env:y6}{ms:xS MF}{Γ:xS FF}{d:ww Z4}{ty t yt:wT}{pos:String}{aft:ut Edge}{g:ww (wr×v6)}{x y:wW}
def Gw{t E:wT}{a:V UL}{n c:K}(ht:P.underlying t=Z (.slice E))(w:wP):(Op.equal t (.slice a n c) (.slice wF 0 0)).run P w=.ok a.isNone w:=by show(Op.equalIn (9999+1) t (.slice a n c) (.slice wF 0 0)).run P w=_;unfold Op.equalIn;cases a<;>simp only[xay,ul ht,xan,xaV,Option.isNone_some]
def zjA{α:Type}{e:zT α}{xs:N α}{v:wN}{E:wT}(ht:P.underlying t=Z (.slice E))(f:ev env x=v)(h:ev env y=.slice wF 0 0)(i:∀(S:K->Prop) (w:wP),zB S Γ w->(fV (eS e) xs v).p S w):
 NV P ⟨d,.binOp .eql t x y yt,ty,pos,aft,g⟩ env ms Γ (λu:v6=> .bool u) (λ_=>[]) (λu=>u=wL->xs=[]):=by
 intro w S _ _ b;have⟨a,cap,hv,h1,c,k⟩:=wb.1<|i S w b;have j:(WW .eql t x y (.slice a (X xs) cap) (.slice wF 0 0)).run P w=.ok () w:=by simp[WW]
 have c:(V6 .eql t (.slice a (X xs) cap) (.slice wF 0 0)).run P w=.ok (.bool a.isNone) w:=by simp only[V6,xay,Gw ht,xan,xaV]
 refine ui.of_value ?_ ⟨a.isNone,O,λhn=> ?_,yJ.refl _ _,wR⟩;simp only[jp,f,hv,h,xay,j,c,xan,xaV];simp_all
end
section
variable{P:jP}{env:y6}{d:ww Z4}{ty t:wT}{pos:String}{aft:ut Edge}{g:ww (wr×v6)}{x y c:wW}{w:wP}{S:wr->Prop}{v:wN}{o:uT}
def zlh(hc:ev env c=.bool wL)(h:ev env x=v)(w:wP):(jp (ev env) ⟨d,.pick c x y,ty,pos,aft,g⟩).run P w=.ok (.value v) w:=da (by simp[pv,hc,h]) w
def zkC(hc:ev env c=.bool I)(h:ev env y=v)(w:wP):(jp (ev env) ⟨d,.pick c x y,ty,pos,aft,g⟩).run P w=.ok (.value v) w:=da (by simp[pv,hc,h]) w
end
def kh(x y:J):J:=if x<y then-1 else if y<x then 1 else 0
theorem qI{x y:J}(h:x<y):kh x y= -1:=by simp[kh,h]
theorem vJ{x y:J}(h:y<x):kh x y=1:=by grind [kh]
theorem kP{x y:J}(h:x=y):kh x y=0:=by grind [kh]
end
section
section
variable{P:jP}{N:Nd}{we:wP}{Se:wr->Prop}{ms:xS MF}{Γ:xS FF}{Q:Qs}{env0:y6}{l:xS uT}
theorem mH{env:y6}{d:V Z4}{v:wN}{t:Z4}(h:d≠Z t):put env d v t=env t:=by
 cases d with
 |none=>rfl
 |some dd=>
  have a:¬t=dd:=λe=>h (by rw[e]);have:E t dd=I:=Yw a;simp[put,L,this]
theorem Dp{env:y6}{v:wN}{t:Z4}:put env (Z t) v t=v:=by simp[put,L]
end
end
section
section
variable{P:jP}{N:Nd}{we:wP}{Se:wr->Prop}{ms F:xS MF}{Γ:xS FF}{env:y6}{U:Type}{val:U->wN}{own:U->xS MF}{facts:U->xS FF}{ok:U->Prop}{fn:WF}
 {ops:ut uT}{rest:xS uT}{d:ww Z4}{t ty yt:wT}{pos:String}{aft:ut Edge}{g:ww (wr×v6)}{x y:wW}
def zdj{α:Type}{e:zT α}{b:wT}{xs ys:xS α}{v u:wN}{bytes:K}{a:wN}(i:K)
 (ht:P.underlying t=Z (.slice b)) (f:Jo P b e.agg e.n bytes a) (hc:a.cells.size=e.n) (hn:0<e.n)
 (j:ms[i]? =Z (mO e b v xs)) (k:ev env x=v) (l:ev env y=u) (m:∀(S:K->Prop) (w:wP),zB S Γ w->(fV (eS e) ys u).p S w)
 (hd:X xs+X ys<=9223372036854775807) (o:(X xs+X ys)*bytes<=140737488355328):
 OG P ⟨d,.call ⟨.builtin .append,#[x,y],#[t,t]⟩,ty,pos,aft,g⟩ env we Se ms Γ (λc=>c) (λc=>ms.set i<|mO e b c<|xs++ys) (λ_=>Γ) (λ_=>Xs):=
 aU i ht f hc hn j k l (λS w _ h=>SlQ.of<|m S w h) hd o
end
end
section
abbrev XB(x:J):Prop:= -9223372036854775808<=x/\x<=9223372036854775807
abbrev dV(x:K):Prop:=x<18446744073709551616
section
variable{α β:Type}
def ck(p:Prop)[QR p](k:V α):V α:=if p then k else wF
def zf(e:J)(k:J->V α):V α:=if XB e then k e else wF
def zF(i:J)(n:K)(k:K->V α):V α:=if 0<=i/\i<(n:J)then k i.toNat else wF
def jA(i:J)(k:K->V α):V α:=if 0<=i then k i.toNat else wF
def nm(e:β)(k:β->V α):V α:=k e
def bd(x:V β)(k:β->V α):V α:=match x with
 |some v=>k v
 |none=>wF
def zg(f:(β->V α)->β->V α):K->β->V α
 |0,_=>wF
 |k+1,s=>f (zg f k) s
theorem ZO{p:Prop}[QR p]{k:V α}{r:α}(h:ck p k=Z r):p/\k=Z r:=by grind [ck]
theorem JC{e:J}{k:J->V α}{r:α}(h:zf e k=Z r):∃x,x=e/\XB x/\k x=Z r:=by grind [zf]
theorem zlC{i:J}{n:K}{k:K->V α}{r:α}(h:zF i n k=Z r):∃j:K,i=(j:J)/\j<n/\k j=Z r:=by grind [zF]
theorem zbt{i:J}{k:K->V α}{r:α}(h:jA i k=Z r):∃j:K,i=(j:J)/\k j=Z r:=by grind [jA]
def xN{e:β}{k:β->V α}{r:α}(h:nm e k=Z r):∃x,x=e/\k x=Z r:=⟨e,O,h⟩
def rV{x:V β}{k:β->V α}{r:α}(h:bd x k=Z r):∃v,x=Z v/\k v=Z r:=by
 cases x with
 |none=>cases h
 |some v=>exact⟨v,O,h⟩
def znm{c:Prop}[QR c]{x y:V α}{r:α}(hc:c)(h:(if c then x else y)=Z r):x=Z r:=by rwa[iq hc]at h
def zof{c:Prop}[QR c]{x y:V α}{r:α}(hc:¬c)(h:(if c then x else y)=Z r):y=Z r:=by rwa[ir hc]at h
def zbH{f:(β->V α)->β->V α}{s:β}{r:α}(h:zg f 0 s=Z r):KW:=by cases h
def zbB{f:(β->V α)->β->V α}{k:K}{s:β}{r:α}(h:zg f (k+1) s=Z r):f (zg f k) s=Z r:=h
end
section
variable{α β:Type}
theorem wM{p:Prop}[QR p]{k:V α}(h:p):ck p k=k:=iq h
def y8{p:Prop}[QR p]{k:V α}(h:p:=by lia):ck p k=k:=bi h
theorem jL{e:J}{k:J->V α}(h:XB e):zf e k=k e:=iq h
def zb{e:J}{k:J->V α}(h1: -9223372036854775808<=e:=by lia)(a:e<=9223372036854775807:=by lia):zf e k=k e:=bi ⟨h1,a⟩
def CJ{i:J}{n:K}{k:K->V α}(h:0<=i/\i<(n:J)):zF i n k=k i.toNat:=iq h
theorem zn{i n:K}{k:K->V α}(h:i<n):zF (i:J) n k=k i:=by rw[CJ ⟨W,W⟩];rfl
def yo{i n:K}{k:K->V α}(h:i<n:=by lia):zF (i:J) n k=k i:=zn h
theorem yI{i:K}{k:K->V α}:jA (i:J) k=k i:=by skip;rfl
theorem ze{e:β}{k:β->V α}:nm e k=k e:=O
theorem za{x:V β}{v:β}{k:β->V α}(h:x=Z v):bd x k=k v:=by rw[h];rfl
def kF{f:(β->V α)->β->V α}{k:K}{s:β}:zg f (k+1) s=f (zg f k) s:=O
end
def P8{n:K}(h:n<=9223372036854775807):XB (n:J):=⟨W,W⟩
def zq6(x:K):dV (x%18446744073709551616):=xaN _ mD
def zmE{x e:K}(h:x=e)(a:dV e):dV x:=h▸a
def ziD{x e:J}(h:x=e)(a:XB e):XB x:=h▸a
def Vi{x e:K}(h:x=e%18446744073709551616):dV x:=h▸zq6 e
def znd{a b x:J}(c:XB a)(h:x=a.tmod b):XB x:=by
 have h1:=Int.natAbs_tmod a b;have d:=Nat.mod_le a.natAbs b.natAbs;obtain h0|h0:=Int.le_total 0 a
 lia;have:a.tmod b<=0:=by have:=Int.tmod_nonneg b (a:= -a) W;simp_all
 lia
def zoS{a b x:K}(c:dV a)(h:x=a%b):dV x:=by have:=Nat.mod_le a b;lia
def EY{a b x:K}(c:dV a)(h:x=a/b):dV x:=by have:=xcD a b;lia
def zrb{a b:J}(c:XB a)(d:XB b):XB (max a b):=by unfold XB at*;lia
def zqy{a b:J}(c:XB a)(d:XB b):XB (min a b):=by unfold XB at*;lia
def zpK{α:Type}{l:N α}{k:K}{y z:α}(h:k<X l)(a:y=l.getD k z):l[k]? =Z y:=by rw[a];exact getD_some z h
def sgn(x:K):J:=if x<9223372036854775808 then(x:J)else(x:J)-18446744073709551616
def ET(x:J):K:=(x%18446744073709551616).toNat
def zid{x:K}(h:dV x):XB (sgn x):=by unfold sgn dV at*;split<;>constructor<;>lia
def Dr(x:J):dV (ET x):=by unfold ET dV;lia
def Cn{x:K}(h:dV x):xdb.wrap (x:J)=sgn x:=by
 unfold sgn;split;exact w64 ⟨W,W⟩;rename_i b;have a:xdb.wrap x=xdb.wrap (x-18446744073709551616):=by simp[IntKind.wrap,IntKind.bits]
 rw[a];exact w64 ⟨W,W⟩
def zie(x:J):xcr.wrap x=((ET x:K):J):=by rw[Cr];unfold ET;lia
def w_x{x c:J}(h:c=x)(a:XB c):xdb.wrap x=c:=by subst h;exact w64 a
def mN{k:Z5}{x:J}{c n:K}(h:c=n)(a:k.wrap x=(n:J)):k.wrap x=(c:J):=by rw[a,h]
def OpP(P:jP)(o:uT)(env:y6)(w:wP)(K:N bv->wP->Prop):Prop:=(∀c,o.op≠ .defer c)/\
 match(jp (ev env) o).run P w with
 |.ok (.enter f args) w'=>UT P f args w' (λe a=>∃b,e=.panicked b/\K b a)
 |.halt (.panic v) w'=>K [{v,recovered:=I}] w'
 |_=>KW
def OpP.wp{P:jP}{o:uT}{a:V0}{w:wP}{K:xS bv->wP->Prop}{d:V0->wP->Prop}{Q:eX->V0->wP->Prop}{N:Nd}
 (h:OpP P o (zW a) w K) (c:∀b w',K b w'->Q (.panic b) a w'):o.wpIn N.F 0 P a w d Q:=by
 have⟨hd,h⟩:=h;refine⟨λ_ _=>wR,?_⟩;rw[Km];rw[Oper.semAt_eq _ _ _ hd];generalize(jp (ev<|zW a) o).run P w=r at*
 cases r with
 |ok n w'=>
  cases n<;>simp only at h
  case enter f args=>exact⟨λe=>by simp[xcS]at e,CallsIn.mono (callsIn_wide.2 h) λe g ⟨b,i,hv⟩=>by subst i;exact c _ _ hv⟩
 |halt x w'=>
  cases x<;>simp only at h
  case panic v=>exact c _ _ h
def OpP.mono{P:jP}{o:uT}{env:y6}{w:wP}{K a:N bv->wP->Prop}(h:OpP P o env w K)(c:∀b w',K b w'->a b w'):OpP P o env w a:=by
 refine⟨h.1,?_⟩;have h:=h.2;generalize(jp (ev env) o).run P w=r at*
 cases r with
 |ok n w'=>
  cases n<;>simp only at h⊢
  case enter f args=>exact h.mono λe d ⟨v,g,hv⟩=>⟨v,g,c _ _ hv⟩
 |halt x w'=>
  grind
def zk3{P:jP}{env:y6}{w:wP}{N:Nd}{b:ut uT}{o:uT}{rest:xS uT}{Q:Qs}(d:yR b env o=wL)(h:OpP P o env w (λc w'=>Q (.panic c) env w')):WpL P N b (o::rest) Q env w:=by intro a h1 e f;subst f;unfold WL;rw[iq<|by rw[WH];exact d];exact h.wp λc w' g=>⟨h1,e,g⟩
abbrev PX:=wT×J
def pE(q:PX):N bv:=[{v:=.iface q.1 (.agg #[.int .i64 q.2]),recovered:=I}]
inductive Tg
 |n
 |x (i:K)
 |r
 |p (q:PX)
def tgB:Tg->eX->v6
 |.n,.normal=>wL
 |.x i,.exit j=>E i j
 |.r,.ret=>wL
 |_,_=>I
def tgE:Tg->eX
 |.n=> .normal
 |.x i=> .exit i
 |.r=> .ret
 |.p q=> .panic<|pE q
def zoq{t:Tg}{e:eX}(h:tgB t e=wL):e=tgE t:=by
 cases t<;>cases e<;>first|rfl|cases h|skip
 rename_i i j;rw[xde (show E i j=wL from h)];rfl
def XQ:N (Tg×(y6->wP->Prop))->Qs
 |[],_,_,_=>KW
 |(t,J)::r,e,env,w=>bif tgB t e then J env w else XQ r e env w
def XK(Q:Qs):N (Tg×(y6->wP->Prop))->Prop
 |[]=>Xs
 |(t,J)::r=>(∀env w,J env w->Q (tgE t) env w)/\XK Q r
def zlv{Q:Qs}:∀{l:N (Tg×(y6->wP->Prop))},XK Q l->∀e env w,XQ l e env w->Q e env w
 |[],_,_,_,_,h=>h.elim
 |(t,J)::r,k,e,env,w,h=>by
  unfold XQ at h;cases ht:tgB t e
  rw[ht]at h;exact zlv k.2 e env w h;rw[ht]at h;rw[zoq ht];exact k.1 env w h
inductive JQ(we:wP)(Se:K->Prop){G:Type}(inv:G->Inv)(ok:G->Prop)(env:y6)(w:wP):Prop
 |mk (g:G) (h1:ok g) (h2:JV env (inv g).live) (h3:St we Se (inv g).ms (inv g).Γ w):JQ we Se inv ok env w
section
variable{P:jP}{N:Nd}{we:wP}{Se:wr->Prop}{ms:xS MF}{Γ:xS FF}{Q:Qs}{env:y6}
def T_X(l:xS (Tg×(y6->wP->Prop))){c:Z9}(h:T P N we Se ms Γ c (XQ l) env)(k:XK Q l):T P N we Se ms Γ c Q env:=
 λw b a h1 d f=>Wn (h w b a h1 d f) λe i w' ⟨q1,q2,g⟩=>⟨q1,q2,zlv k e _ _ g⟩
def za4{G:Type}{a:G->Inv}{ok:G->Prop}(g:G)(h1:ok g)(b:JV env (a g).live)(c:∀w,St we Se ms Γ w->St we Se (a g).ms (a g).Γ w):
 ∀w,St we Se ms Γ w->JQ we Se a ok env w:=λw d=>⟨g,h1,b,c w d⟩
def zpR{G:Type}{a:G->Inv}{ok:G->Prop}{R:y6->wP->Prop}(k:∀g,ok g->∀rest w,St we Se (a g).ms (a g).Γ w->R (L (a g).live rest) w):
 ∀env w,JQ we Se a ok env w->R env w:=λenv w ⟨g,h1,b,c⟩=>by
 have:=k g h1 env w c;rwa[Q2 b]at this
end
end
section
section
variable{P:jP}{N:Nd}{we:wP}{Se:wr->Prop}{ms F:xS MF}{Γ:xS FF}{Q:Qs}{env:y6}{ops:ut uT}{rest:xS uT}{o:uT}
 {d:ww Z4}{ty yt t ti t':wT}{pos:String}{aft:ut Edge}{g:ww (wr×v6)}{x y:wW}
def v_i{k:Z5}{c z:J}(h:∀w,(jp (ev env) o).run P w=.ok (.value (.int k c)) w)(a:z=c):∀w,(jp (ev env) o).run P w=.ok (.value (.int k z)) w:=by simp_all
def zfE{c z:v6}(h:∀w,(jp (ev env) o).run P w=.ok (.value (.bool c)) w)(a:z=c):∀w,(jp (ev env) o).run P w=.ok (.value (.bool z)) w:=by simp_all
theorem rL{a:K}{b:J}:(a:J).fdiv (2^(min b.toNat xcr.bits))=((a/2^(min b.toNat 64):K):J):=by have:xcr.bits=64:=O;grind
def zcy{a:K}{b:J}:xcr.wrap ((a:J)*2^(min b.toNat xcr.bits))=((a*2^(min b.toNat 64)%18446744073709551616:K):J):=by rfl
def zh4{a x:J}{k:K}(b:XB a)(h:x=a.fdiv (2^k)):XB x:=by
 have hp:(0:J)<2^k:=Int.pow_pos mD;rw[Int.fdiv_eq_ediv_of_nonneg _ W]at h;have c:=xbB a<|2^k;rcases(W:a<0\/0<=a)with h0|h0
 have:=Int.ediv_neg_of_neg_of_pos h0 hp;lia;lia
def Tn(a b:J):J:=sgn<|ET a &&& ET b
def orI(a b:J):J:=sgn (ET a|||ET b)
theorem pk{a b:K}(c:dV a):dV (a &&& b):=xaK Nat.and_le_left c
theorem BK{a b:K}(c:dV a)(e:dV b):dV (a|||b):=Nat.or_lt_two_pow (n:=64) c e
theorem zf9{a:K}(b:dV a):((a:J)%2^xcr.bits).toNat=a:=by have:2^xcr.bits=18446744073709551616:=O;grind
theorem zlc{a b:K}(c:dV a)(e:dV b):xcr.wrap (((((a:J)%2^xcr.bits).toNat &&& ((b:J)%2^xcr.bits).toNat:K)):J)=((a &&& b:K):J):=by grind [zf9,pV,pk]
theorem zoO{a b:K}(c:dV a)(e:dV b):xcr.wrap (((((a:J)%2^xcr.bits).toNat|||((b:J)%2^xcr.bits).toNat:K)):J)=((a|||b:K):J):=by grind [zf9,pV,BK]
def zk8{a b:J}:xdb.wrap (((a%2^xdb.bits).toNat &&& (b%2^xdb.bits).toNat:K):J)=Tn a b:=Cn<|pk<|Dr a
def zm1{a b:J}:xdb.wrap (((a%2^xdb.bits).toNat|||(b%2^xdb.bits).toNat:K):J)=orI a b:=Cn<|BK (Dr a)<|Dr b
def zmW(a b:J):XB (Tn a b):=zid<|pk<|Dr a
def zpU(a b:J):XB (orI a b):=zid<|BK (Dr a)<|Dr b
def zpN{b:K}(h:b≠0):(b:J)≠0:=W
def zgH{B n:K}(a:0<B)(h:B*n<=281474976710656):n<=9223372036854775807:=by have:=xea n a;lia
def RV{α:Type}{e:zT α}{c:wT}{z:α}{xs:xS α}{n bytes:K}{a:wN}{f:wW}{i j:Z5}(ht:P.underlying t=Z (.slice c))(k:Jo P c e.agg e.n bytes a)(l:ev env x=.int i (n:J))(m:ev env f=.int j (n:J))(q:0<bytes)(h:bytes*n<=281474976710656)
 (r:∀(S:K->Prop) (w:wP),e.p S z a.cells.toList w) (hc:xs=Nm n z):OG P ⟨d,.makeSlice t x f,ty,pos,aft,g⟩ env we Se ms Γ (λb=>(.slice (Z ⟨b,0,wF⟩) n n)) (λb=>(mB (rowT e n) c b xs::ms)) (λ_=>Γ) (λ_=>Xs):=by
 subst hc;intro w hd;refine(zbN ht k l m h (zgH q h) r w hd).mono ?_;rintro v w' ⟨b,h1,s,u⟩;exact⟨b,h1,s,u.rowRT 0 O mK⟩
end
end
section
def zm9{α:Type}{a x:α}(h:Z a=Z x):a=x:=xdW h
def zdm{x:J}{c n:K}(h:c=n)(a:x=(n:J)):x=(c:J):=by rw[a,h]
def zjD{x y z q:K}(a:dV x)(b:dV y)(c:z<=1)(h:q=(x+y+z)/18446744073709551616):dV q:=by unfold dV at*;lia
def zj3{x y z q:K}(_:dV x)(_:dV y)(_:z<=1)(h:q=if x<y+z then 1 else 0):dV q:=by unfold dV;split at h<;>lia
def v_2{P:jP}{env:y6}{o:uT}{k k':Z5}{a b x y:K}(h:∀w,(jp (ev env) o).run P w=.ok (.value (.tuple #[.int k (a:J),.int k' (b:J)])) w)(c:x=a)(d:y=b):
 ∀w,(jp (ev env) o).run P w=.ok (.value (.tuple #[.int k (x:J),.int k' (y:J)])) w:=by subst c;subst d;exact h
def JG(we:wP)(Se:K->Prop)(i:Inv)(R:y6->wP->Prop)(rest:y6):Prop:=∀w,St we Se i.ms i.Γ w->R (L i.live rest) w
def zgC{we:wP}{Se:K->Prop}{G:Type}{a:G->Inv}{ok:G->Prop}{R:y6->wP->Prop}(k:∀g,ok g->∀rest,JG we Se (a g) R rest):
 ∀env w,JQ we Se a ok env w->R env w:=zpR k
def zlt{we:wP}{Se:K->Prop}{i:Inv}{R:y6->wP->Prop}{rest:y6}{b:N MF}{c:N FF}{a:N (K×wN)}(h:i=⟨b,c,a⟩)(k:∀w,St we Se b c w->R (L a rest) w):JG we Se i R rest:=by subst h;exact k
def S5{F:lI}{n:K}{P:jP}{a:V0}{w:wP}{Q:eX->V0->wP->Prop}{c:Z9}(h:c.wpIn F n P (Exit.noGoto Q) a w):(Code.scope c).wpIn F n P Q a w:=by
 intro b k cs hc o p;have g:∀{cs:N Frame}{k:N Item},step P (lone (b.atR a (.code (.scope c)::k)) cs w)=.next (lone (b.atR a (.code c::.inScope c::k)) cs w):=step_lone_go (by simp[stepG,stepG.exec,Frame.atR]);have r:∀{a:V0}{w:wP}{cs:N Frame}{k:N Item},step P (lone (b.atR a (.inScope c::k)) cs w)=.next (lone (b.atR a k) cs w):=step_lone_go (by simp[stepG,stepG.exec,Frame.atR]);have h0:(lone (b.atR a (.code (.scope c)::k)) cs w).fenced P F:=cS o p O;have⟨e,d,f,i,j⟩:=h b (.inScope c::k) cs hc o p
 cases e with
 |normal=>exact⟨.normal,d,f,i,.head h0 g<|StepsIn.trans j (.one (cS o p O) r)⟩
 |exit id=>exact⟨.exit id,d,f,i,λk' q=> .head h0 g (j.1 k'<|by simp[exitTo,q]),λhd q=>let⟨m,h1,s⟩:=j.2 hd (by simp[exitTo,q]);⟨m,h1,.head h0 g s⟩⟩
 |goto l=>exact i.elim
 |ret=>exact⟨_,d,f,i,.of_steps (.one h0 g) j⟩
 |panic t=>exact⟨_,d,f,i,.of_steps (.one h0 g) j⟩
 |outgrown=>exact⟨_,d,f,i,.of_steps (.one h0 g) j⟩
section
variable{P:jP}{N:Nd}{we:wP}{Se:wr->Prop}{ms:xS MF}{Γ:xS FF}{Q:Qs}{env:y6}{ops:ut uT}{d:ww Z4}{ty t:wT}{pos:String}{aft:ut Edge}{g:ww (wr×v6)}
def plB(P:jP)(t:wT):V (ut<|K×K):=match P.underlying t with
 |some (.struct fs)=>(fs.toList.mapM λf=>(P.info? f.type).map λi=>(f.offset,i.size)).map (·.toArray)
 |_=>wF
def Ru(w:wP):∀(l:xS Field) (r:xS (K×K)),(l.mapM λf=>(P.info? f.type).map λi=>(f.offset,i.size))=Z r->(l.mapM (λf=>do pure (f.offset,<-V3 f.type)):Sem (xS<|K×K)).run P w=.ok r w
 |[],r,h=>by simp at h;subst h;simp
 |f::l,r,h=>by
  rw[List.mapM_cons]at h
  cases hi:P.info? f.type with
  |none=>rw[hi]at h;simp at h
  |some i=>
   cases hl:(l.mapM λf=>(P.info? f.type).map λi=>(f.offset,i.size))with
   |none=>rw[hl]at h;simp at h
   |some q=>
    have a:=Ru w l q hl;have b:(V3 f.type).run P w=.ok i.size w:=by simp[V3,V9,hi]
    simp_all
def zk1{pl:ut (K×K)}(h:plB P t=Z pl):∃fs,P.underlying t=Z (.struct fs)/\∀w,(fs.mapM (λf=>do pure (f.offset,<-V3 f.type)):Sem (ut<|K×K)).run P w=.ok pl w:=by
 unfold plB at h;split at h;rename_i fs a;refine⟨fs,a,λw=> ?_⟩
 cases hl:(fs.toList.mapM λf=>(P.info? f.type).map λi=>(f.offset,i.size))with
 |none=>rw[hl]at h;cases h
 |some q=>
  have:=Ru w fs.toList q hl;rw[Array.mapM_eq_mapM_toList];simp_all
 cases h
def wu8(n:K):xfZ.wrap (n:J)=((n%256:K):J):=by rfl
def NG{x e:K}(h:x=e%256):x<256:=h▸xaN _ mD
def b_r{x:K}(h:x<256):XB (x:J):=⟨W,W⟩
def zhH{x y:wW}{s:Wt}{k:Z5}{j z:K}(ht:P.underlying t=Z .string)(a:ev env x=.string s)(b:s=Lib.len8tab)(c:ev env y=.int k (j:J))(f:j<256)(e:z=xfc j)(w:wP):
 (jp (ev env) ⟨d,.index t x y,ty,pos,aft,g⟩).run P w=.ok (.value (.int .u8 (z:J))) w:=by
 subst b;subst e;have h:=Lib.run_index_len8tab w t k j ht W W;rw[Lib.len8_of _ W W]at h;simp[jp,a,c,h]
theorem H7{j z:K}(a:j<256)(b:z=xfc j):z<256:=by have:=Lib.bitLen_le8' j W W;grind
theorem zcR{a:K->V (K×K)}{i off:K}{v:wN}{b c e:xS wN}{r:xS (K×wN)}(hp:a i=Z (off,v.cells.size))(f:X b=off)(hc:X c=v.cells.size):
 xdJ a (b++c++e).toArray ((i,v)::r)=xdJ a (b++v.cells.toList++e).toArray r:=by
 subst f;have h:v.cells.zipIdx.foldl (λcs (x:wN×K)=>cs.setIfInBounds (X b+x.2) x.1) (b++c++e).toArray=(b++v.cells.toList++e).toArray:=by apply Array.ext';rw[<-Array.foldl_toList,Array.toList_zipIdx,tS (X b) v.cells.toList 0 _<|by simp;lia];simp_all
 conv=>lhs;unfold xdJ
 grind
def HN{α:Type}{e:zT α}{z0 z:α}{bytes:K}{a:wN}{parts:xS (K×wW)}{vs:xS (K×wN)}{pl:ut (K×K)}(ht:Jo P t wL e.n bytes a)(hc:e.agg=wL)
 (c:∀(S:K->Prop) (w:wP),e.p S z0 a.cells.toList w) (hd:∃fs,P.underlying t=Z (.struct fs)/\∀w,(fs.mapM (λf=>do pure (f.offset,<-V3 f.type)):Sem (ut<|K×K)).run P w=.ok pl w)
 (hv:parts.map (λx=>(x.1,ev env x.2))=vs) (q:xS wN->Prop) (h:∀(S:K->Prop) (w:wP),zB S Γ w->∀cs,cs=a.cells.toList->e.p S z0 cs w->∃out,xdJ (pl[·]?) cs.toArray vs=Z out.toArray/\e.p S z out w/\q out):
 NV P ⟨d,.build t parts.toArray,ty,pos,aft,g⟩ env ms Γ (λv:wN=>v) (λv=>[fV e z v]) (λv=>q v.cells.toList):=by
 intro w S _ _ b;have⟨out,h1,i,j⟩:=h S w b _ O<|c S w;refine ui.of_value (w':=w) (v:=.agg out.toArray) ?_ ⟨_,O,by simpa[xeE]using j,yJ.refl _ _,⟨⟨out,by simp[zT.val,hc],i⟩,wR⟩⟩;have⟨fs,k,l⟩:=hd;have m:parts.toArray.map (λx=>(x.1,ev env x.2))=vs.toArray:=by rw[<-hv];simp
 simp only[jp,xay];have o:(Instr.build t<|parts.toArray.map λx=>(x.1,ev env x.2)).run P w=.ok (.agg out.toArray) w:=by rw[m];unfold Instr.build;simp only[xay,uu ht,xan,ul k,l,h1,xaV]
 rw[o];rfl
end
end
section
def Fc(D:K->v6)(i:K):K->v6:=λk=>D k||E k i
def og(D:K->v6)(i:K):Fc D i i=wL:=by simp[Fc]
def IB{D:K->v6}{i k:K}(h:k≠i):Fc D i k=D k:=by simp[Fc,Yw h]
def zjm{D:K->v6}{i k:K}(h:D k=wL):Fc D i k=wL:=by simp[Fc,h]
section
variable{P:jP}{N:Nd}{we:wP}{Se:wr->Prop}{ms:xS MF}{Γ:xS FF}{Q:Qs}{env0:y6}{l:xS uT}{m:wr}
def zm3{id:K}(m:K)(b:(K->v6)->y6->wP->Prop)(hm:P.follows .mixedOrders=wL)(hc:W9 l m=wL)(hd:(l.all λo=>qK N.n o.dst)=wL)
 (hO:∀w,St we Se ms Γ w->b (λ_=>I) env0 w)
 (step:∀(D:K->v6) (i:K) (env:y6) (w:wP),i<m->D i=I->(∀j,D j=wL->j<m)->(∀e∈(zS l i).after,xcp .any e=wL->D e.on=wL)->
  (∀j,D j=wL->∀e∈(zS l j).after,xcp .any e=wL->D e.on=wL)->b D env w->
  (yR l.toArray env (zS l i)=wL->ui P (zS l i) env w (λv w'=>b (Fc D i) (put env (zS l i).dst v) w')\/OpP P (zS l i) env w (λR w'=>Q (.panic R) env w'))/\
  (yR l.toArray env (zS l i)=I->b (Fc D i) (put env (zS l i).dst Z0) w))
 (y:∀(D:K->v6) (env:y6) (w:wP),(∀j,j<m->D j=wL)->(∀j,D j=wL->j<m)->b D env w->WpL P N l.toArray (l.drop m) Q env w):
 T P N we Se ms Γ (.region id l.toArray wL) Q env0:=by
 intro w0 hP a0 hQ hR hS;have⟨h0,h1,h2,h3,hT⟩:=YV hc;refine wpIn_region_any hm ?_;have p:∀{c:ut v6}{i:K},i<c.size->c.getD i wL=c.getD i I:=λ{c i} h=>by simp_all
 have z:∀{c:ut v6}{i:K},c.getD i I=wL->i<c.size:=λ{c i} h=>by
  obtain hp|hge:=xbS i c.size
  exact hp;simp[xbv,Array.getElem?_eq_none hge]at h
 have E:∀(d:K) (c:ut v6) (a:V0) (w:wP),(xaO (X l)).countP (λk=> !c.getD k wL)<=d->c.size=X l->a.tmps.size=N.n->a.defers=N.ds->
  (∀i,m<=i->i<X l->c.getD i wL=I)->
  (∀i,i<X l->c.getD i I=wL->∀e∈(zS l i).after,xcp .any e=wL->c.getD e.on I=wL)->
  b (λi=>c.getD i I) (zW a) w->aC N.F 0 P .any l.toArray (zc0 N Q) d c a w:=by
  intro d
  induction d with
  |zero=>
   intro c a w S A b1 b2 r hl B;have s:∀k,k<X l->c.getD k wL=wL:=λk f=>by
    have U:(xaO (X l)).countP (λk=> !c.getD k wL)=0:=W
    rw[List.countP_eq_zero]at U;have:=U k<|xbd.2 f;simpa using this
   have hZ:m=X l:=by
    rcases xbS m (X l) with hp|hge
    have C:=r m (So _) hp;rw[s m hp]at C;cases C
    lia
   refine ig hc 0 m c a w (So _) h0 W A (λk f=>by rw[s k f];simp;lia) ?_;exact y _ _ w (λj g=>by rw[<-p W];exact s j W) (λj g=>by have:=z g;lia) B a b1 b2 O
  |succ d ih=>
   intro c a w S A b1 b2 r hl B;by_cases s:∀k,k<m->c.getD k wL=wL
   have V:∀k,k<X l->c.getD k wL=decide (k<m):=λk f=>by
    by_cases G:k<m;rw[s k G];simp[G];rw[r k W f];simp[G]
   refine ig hc (d+1) m c a w (So _) h0 (xal ?_ S) A V ?_;rw[show(xaO (X l)).countP (λk=> !c.getD k wL)=(xaO (X l)).countP (λk=> !decide (k<m))from List.countP_congr λk f=>by rw[V k<|xbd.1 f]];exact zfw.count_ge m [] m (X l);refine y _ _ w (λj g=>by rw[<-p W];exact s j g) (λj g=> ?_) B a b1 b2 O;obtain h|h:=xbS j m
   exact h;have H:=z g;rw[<-p H,r j h W]at g;cases g
   have Y:∃k,k<m/\c.getD k wL=I:=by
    by_cases hh:∃k,k<m/\c.getD k wL=I;exact hh
    exact wS (λk f=>by
     cases q:c.getD k wL
     exact wS ⟨k,f,q⟩ hh;rfl) s
   refine⟨λhr=> ?_,λi hi=> ?_⟩
   exfalso;have⟨k,f,J,hJ⟩:=zfw.first_un m [] Y;have:k∈xef .any l.toArray c:=mem_ready.2 ⟨J,zS l k,Yt W,λe x q=>by
    have C:=h1 k W e x q;have t:=hJ e.on C;rwa[p (by lia:e.on<c.size)]at t⟩
   rw[hr]at this;cases this
   have⟨hu,o,L,hn⟩:=mem_ready.1 hi;have u:i<X l:=by simpa using(xbf.1 L).1
   rw[Yt u]at L;cases L;have hU:i<m:=by
    obtain h|h:=xbS i m
    exact h;exfalso;by_cases hK:m=i;subst hK;have⟨k,f,J⟩:=Y;have t:=aW hl h1 16 m k u hn<|hT u k f;rw[<-p (by lia:k<c.size),J]at t;cases t
    have⟨e,x,q,hV⟩:=uF<|h3 i W u;have t:=hn e x q;rw[hV,<-p (by lia:i-1<c.size),r (i-1) W W]at t;cases t
   have M:i<c.size:=W
   have hW:qK N.n (zS l i).dst=wL:=by
    rw[xaT]at hd;refine hd _ ?_;have:zS l i=l[i]:=by simp[zS,u]
    rw[this];exact xbG _
   have hB:∀j,(λi=>c.getD i I) j=wL->j<m:=λj g=>by
    obtain h|h:=xbS j m
    exact h;have H:=z g;have hL:c.getD j I=wL:=g;rw[<-p H,r j h W]at hL;cases hL
   have hs:=step (λi=>c.getD i I) i (zW a) w hU (by rw[<-p M];exact hu) hB hn (λj g=>hl j (by have:=hB j g;lia) g) B;have hM:(λk=>(c.setIfInBounds i wL).getD k I)=Fc (λi=>c.getD i I) i:=by funext k;by_cases ht:i=k;subst ht;rw[og];simp[M];rw[V5 I ht,IB<|λe=>ht e.symm]
   have next:∀v w',b (Fc (λi=>c.getD i I) i) (put (zW a) (zS l i).dst v) w'->aC N.F 0 P .any l.toArray (zc0 N Q) d (c.setIfInBounds i wL) (a.put (zS l i).dst v) w':=by intro v w' hv;refine ih _ _ w' ?_ (by simpa using A) (by rw[UH];exact b1) (by rw[Wb];exact b2) (λk hX f=> ?_) (λk f hN e x q=> ?_) ?_;have:=(td M hu<|xaO (X l)).2<|xbd.2 u;lia;rw[V5 wL W];exact r k hX f;by_cases ht:i=k;subst ht;exact US<|hn e x q;rw[V5 I ht]at hN;exact US<|hl k f hN e x q;rw[Wa (by rw[b1];exact U3 hW),hM];exact hv
   unfold wpOpIn;rw[Yt u];simp only[WH];cases hC:yR l.toArray (zW a) (zS l i)
   simp only[xai,uP];exact⟨λ_ _=>wR,next undef w (hs.2 hC)⟩;simp only[uS];obtain h|h:=hs.1 hC;exact h.wp λv w' hY=>next v w' hY
   exact h.wp λR w' f=>⟨b1,b2,f⟩
 refine E l.toArray.size _ a0 _ ?_ mK hQ hR (λi hK hi=>by simp[hi]) (λi hi hp=> ?_) ?_;exact xal (List.countP_le_length) mK
 have:=z hp;rw[<-p this]at hp;simp[hi]at hp;have hf:(λi=>(xdi l.toArray.size I).getD i I)=λ_=>I:=by funext i;simp only[xbv,Array.getElem?_replicate];split<;>rfl
 rw[hf,hS];exact hO _<|hP.ext<|bh.drawn w0 _
end
end
section
def Yf{S:K->Prop}{w:wP}:∀{ms:N MF},yS S ms w↔∀m∈ms,m.p S w
 |[]=>⟨λ_ m h=>wS h H1,λ_=>wR⟩
 |m::r=>by
  have a:=Yf (S:=S) (w:=w) (ms:=r);constructor;intro h x hx;obtain rfl|hx:=xah.1 hx
  exact h.1;exact a.1 h.2 x hx;intro h;exact⟨h m<|IR,a.2 λx hx=>h x<|FS _ hx⟩
def Cl:∀{ms:N MF},QE ms↔ms.Pairwise (λm m'=>∀k,m.blk k->¬m'.blk k)
 |[]=>⟨λ_=>List.Pairwise.nil,λ_=>wR⟩
 |m::r=>by
  rw[xdk];have c:=Cl (ms:=r);exact⟨λh=>⟨λm' a k b=>h.1 k b m' a,c.1 h.2⟩,λh=>⟨λk b m' a=>h.1 m' a k b,c.2 h.2⟩⟩
def St.perm{we:wP}{Se:K->Prop}{ms a:N MF}{Γ:N FF}{w:wP}(h:St we Se ms Γ w)(hp:ms.Perm a):St we Se a Γ w:=by have⟨h1,c,d,S,e,f,g,i,j⟩:=h;refine⟨h1,c,Cl.2<|(hp.pairwise_iff λ{x y} l k n hc=>l k hc n).1<|Cl.1 d,S,e,f,λm b=>g m<|hp.mem_iff.2 b,Yf.2 λm b=>Yf.1 i m<|hp.mem_iff.2 b,j⟩
def zfG:wN->V K
 |.pointer (Z ⟨b,_,_⟩)=>Z b
 |_=>wF
def mP{α:Type}(e:sU α)(E:wT)(v:wN)(z:α):MF where
 blk k:=zfG v=Z k
 p S w:=∃b,v=.pointer (Z ⟨b,0,wF⟩)/\(mB e E b z).p S w
 keep:=λ⟨b,h1,a⟩ k hb=>⟨b,h1,(mB e E b z).keep a k λi hi=>hb i<|by rw[h1];exact hi⟩
 sub:=λ⟨b,h1,a⟩ k=>⟨b,h1,(mB e E b z).sub a k⟩
 lt:=λ⟨b,h1,a⟩ k c=>(mB e E b z).lt a k<|by rw[h1]at c;exact c
def St.openP{α:Type}{e:sU α}{E:wT}{v:wN}{z:α}{we:wP}{Se:K->Prop}{ms:N MF}{Γ:N FF}{w:wP}(i:K)(h:St we Se ms Γ w)(a:ms[i]? =Z (mP e E v z)):
 ∃b,v=.pointer (Z ⟨b,0,wF⟩)/\St we Se (ms.set i<|mB e E b z) Γ w:=by
 have⟨S,hp,_⟩:=h.muts a;have⟨b,hv,_⟩:=hp;subst hv;exact⟨b,O,h.conv a O λS ⟨d,h1,c⟩=>by cases h1;exact c⟩
def St.toP{α:Type}{e:sU α}{E:wT}{b:K}{z:α}{we:wP}{Se:K->Prop}{ms:N MF}{Γ:N FF}{w:wP}(i:K)(h:St we Se ms Γ w)(a:ms[i]? =Z (mB e E b z)):
 St we Se (ms.set i<|mP e E (.pointer<|some ⟨b,0,wF⟩) z) Γ w:=h.conv a O λS h=>⟨b,O,h⟩
def zaW{K:N (Z4×Pr)}{env0 env:y6}{S:wr->Prop}{w w':wP}{t:Z4}(h:Xf K env0 env S w t)(k:yJ S w w'):Xf K env0 env S w' t:=by grind [Xf,Pr.keepS]
def zcW{K:N (Z4×Pr)}{env0 env:y6}{S a:wr->Prop}{w:wP}{t:Z4}(h:Xf K env0 env S w t)(k:∀k,k<w.heap.size->S k->a k):Xf K env0 env a w t:=by grind [Xf,Pr.sub]
def GW(K:N (Z4×Pr))(env0 env:y6)(ts:N Z4):FF where
 p S w:=QC K env0 env S w ts
 keep:=λ{S w w'} h k=>by
  induction ts with
  |nil=>trivial
  |cons t ts a=>exact⟨zaW h.1 k,a h.2⟩
 sub:=λ{S b w} h k=>by
  induction ts with
  |nil=>trivial
  |cons t ts a=>exact⟨zcW h.1 k,a h.2⟩
structure Res where
 a:V K
 t:Z4
 w:V K
 mf:v6->wN->MF
def Res.done(r:Res)(D:K->v6):v6:=match r.w with
 |some i=>D i
 |none=>I
def Res.here(r:Res)(D:K->v6):v6:=match r.a with
 |some i=>D i
 |none=>wL
def av(rs:N Res)(D:K->v6)(env:y6):N MF:=rs.filterMap λr=>bif r.here D then Z (r.mf (r.done D)<|env r.t)else wF
def zs3(l:N uT)(i j:K):v6:=match(zS l i).dst with
 |some t=>(zS l j).dst==Z t
 |none=>I
section
variable{P:jP}{N:Nd}{we:wP}{Se:wr->Prop}{ms:xS MF}{Γ:xS FF}{Q:Qs}{env0:y6}{l:xS uT}{m:wr}
def Bk(L:xS (uT×Pr))(D:K->v6)(env:y6):FF where
 p S w:=∀i x t,D i=wL->L[i]? =Z x->x.1.dst=Z t->x.2.p S (env t) w
 keep:=λh k i x t h1 a b=>x.2.keepS (h i x t h1 a b) k
 sub:=λh k i x t h1 a b=>x.2.sub (h i x t h1 a b) k
end
section
variable{P:jP}{N:Nd}{we:wP}{Se:wr->Prop}{ms:xS MF}{Γ:xS FF}{env:y6}{d:ww Z4}{ty t:wT}{pos:String}{aft:ut Edge}{g:ww (wr×v6)}
def zgz{α:Type}{e:zT α}{c:wT}{zs:xS α}{len bytes:K}{a:wN}{parts:xS (K×wW)}{vs:xS (K×wN)}(ht:P.underlying t=Z (.slice c))(hd:Jo P c e.agg e.n bytes a)
 (hn:0<e.n) (hc:X zs=len) (y:len*e.n<=16777216) (hv:parts.map (λx=>(x.1,ev env x.2))=vs)
 (m:∀(S:K->Prop) (w:wP),zB S Γ w->aY (λi=>Z (i*e.n,e.n)) vs 0) (hp:∀(S:K->Prop) (w:wP),zB S Γ w->yT e S zs (jz vs) w):
 OG P ⟨d,.buildSlice t len parts.toArray,ty,pos,aft,g⟩ env we Se ms Γ (λv:wN=>v) (λv=>mO e c v zs::ms) (λ_=>Γ) (λ_=>Xs):=by
 intro w h;have⟨S0,z,b⟩:=h.ex;have hi:=hp S0 w b;have hl:X (jz vs)=len*e.n:=by rw[hi.len,hc]
 have A:len<=9223372036854775807:=by have:len<=len*e.n:=xcj _ hn;lia
 refine ui.of_value (w':=w.alloc (.cells (jz vs).toArray c)) (v:=.slice (Z ⟨w.heap.size,0,wF⟩) len len) ?_ ⟨_,O,wR,?_⟩;have o:parts.toArray.map (λx=>(x.1,ev env x.2))=vs.toArray:=by rw[<-hv];simp
 have j:xdJ (λi=>Z (i*e.n,e.n)) ((xeZ<|len*e.n).map (a.cells[·%a.cells.size]!)) vs=Z (jz vs).toArray:=by have:=nV vs [] ((xeZ<|len*e.n).map (a.cells[·%a.cells.size]!)).toList (m S0 w b) (by simp[hl]);rw[xbN,xcy,xbN,xbR (by simp[hl]),xbm]at this;lia
 have p:(xeK t len<|parts.toArray.map λx=>(x.1,ev env x.2)).run P w=.ok (.slice (Z ⟨w.heap.size,0,wF⟩) len len) (w.alloc (.cells (jz vs).toArray c)):=by
  rw[o];unfold xeK;simp only[xay,ul ht,xan,wo hd,ir (W:¬len*e.n>2^24),cO];by_cases h0:len*e.n=0
  have B:jz vs=[]:=xbp (by rw[hl,h0]);have q:xdJ (λi=>Z (i*e.n,e.n)) ((xeZ 0).map ((#[]:ut wN)[·%(#[]:ut wN).size]!)) vs=Z (jz vs).toArray:=by
   have l:∀f:K->wN,(xeZ 0).map f= #[]:=λf=>by simp
   rw[<-j,h0,l,l]
  simp only[h0,uS];simp only[q,xay,JP,xan,xaV];simp only[ir h0,xay,uu hd,xan,xaV,j,JP]
 simp only[jp,xay,p,xan,xaV];have r:St we Se (mR e c w.heap.size zs::ms) Γ (w.alloc (.cells (jz vs).toArray c)):=by refine h.fresh (bh.alloc w _) O mK ?_;intro S C b;refine⟨_,WR w _,?_⟩;exact((hp S w b).sub λk s u=>⟨u,Nat.ne_of_lt s⟩).keep (bh.alloc w _).to
 exact zjI (n:=len) 0 r O hc.symm W
end
def zlo{P:jP}{env:y6}{d:V Z4}{ty t:wT}{pos:String}{aft:ut Edge}{g:V (K×v6)}{x:wW}{b:v6}(h:ev env x=.bool b)(w:wP):
 (jp (ev env) ⟨d,.unOp .not t x,ty,pos,aft,g⟩).run P w=.ok (.value (.bool !b)) w:=da (by show(match ev env x with|xeM t=>Z (xeM !t)|_=>wF)=_;rw[h]) w
abbrev iv(x:J):wN:=.int .i64 x
abbrev uv(x:K):wN:=.int .u64 (x:J)
def nz{p:Prop}(h:wL=I):p:=by cases h
def pvL(N:K)(b:ut uT):xS uT->y6->xS (K×wN)->V (xS<|K×wN)
 |[],_,a=>Z a
 |o::r,env,a=>match o.dst with
  |some d=>bif qK N (Z d)then(bif yR b (L a env) o then(match pv o (L a env)with
   |some v=>pvL N b r env ((d,v)::a)
   |none=>wF)else(match o.guard with
   |some (j,c)=>bif gd b (L a env) j==Z (!c)then pvL N b r env ((d,Z0)::a)else wF
   |none=>wF))else wF
  |none=>wF
def IF{N:K}{c:ut uT}:∀(l:xS uT) (env:y6) (b a:xS (K×wN)),pvL N c l env b=Z a->Av N c l (L b env)=Z (L a env)
 |[],env,b,a,h=>by cases h;rfl
 |o::r,env,b,a,h=>by
  unfold pvL at h;unfold Av
  cases hd:o.dst with
  |none=>rw[hd]at h;cases h
  |some d=>
   rw[hd]at h;simp only at h;cases i:qK N (Z d)
   simp_all;rw[i]at h;simp only[Wf]at h⊢;cases f:yR c (L b env) o
   rw[f]at h;simp only[XS]at h⊢;split at h;rename_i j e k;cases g:(gd c (L b env) j==Z (!e))
   simp_all;rw[g]at h;simp only[k,g,Wf]at h⊢;exact IF r env _ a h;cases h
   rw[f]at h;simp only[Wf]at h⊢
   cases hp:pv o (L b env)with
   |none=>rw[hp]at h;cases h
   |some v=>rw[hp]at h;exact IF r env _ a h
def XR{P:jP}{N:Nd}{we:wP}{Se:K->Prop}{ms:xS MF}{Γ:xS FF}{Q:Qs}{b:ut uT}(n:K)(a:xS (K×wN)){l:xS uT}{env:y6}
 (h:pvL N.n b (l.take n) env []=Z a) (k:TL P N we Se ms Γ b (l.drop n) Q (L a env)):TL P N we Se ms Γ b l Q env:=by
 rw[<-xby n l];exact bJ _ _ _ _ (IF _ env [] a h) k
def Hg{α:Type}(xs ys:N α):N α:=xdB (min (X ys) (X xs)) ys++xdO (min (X ys) (X xs)) xs
def lF{α:Type}(lo n:K)(xs ys:N α):N α:=xdB lo xs++xdB (min (X ys) n) ys++xdO (lo+min (X ys) n) xs
end
def z2(S:K->Prop)(w:wP):(eI).p S 0 (xeE (.int .i64 0)).toList w:=⟨O,mD,mD⟩
def z3(S:K->Prop)(w:wP):(eI).p S 0 (xeE (.int .i64 0)).toList w:=⟨O,mD,mD⟩
def z4(S:K->Prop)(w:wP):(Eu).p S I (xeE (.bool I)).toList w:=O
def z5(S:K->Prop)(w:wP):(eB8).p S 0 (xeE (.int .u8 0)).toList w:=O
def z6(S:K->Prop)(w:wP):(eB8).p S 0 (xeE (.int .u8 0)).toList w:=O
def z7(S:K->Prop)(w:wP):((eP eI<|eP eI<|eP Eu eB8)).p S ((0,(0,(I,0)))) (xeE (.agg #[.int .i64 0,.int .i64 0,.bool I,.int .u8 0])).toList w:=⟨_,_,O,⟨O,mD,mD⟩,⟨_,_,O,⟨O,mD,mD⟩,⟨_,_,O,O,O⟩⟩⟩
def z8(S:K->Prop)(w:wP):((eP eI<|eP eI<|eP Eu eB8)).p S ((0,(0,(I,0)))) (xeE (.agg #[.int .i64 0,.int .i64 0,.bool I,.int .u8 0])).toList w:=⟨_,_,O,⟨O,mD,mD⟩,⟨_,_,O,⟨O,mD,mD⟩,⟨_,_,O,O,O⟩⟩⟩
def zpu:Jo Tryz.prog 73 I 1 8 (.int .u64 0):=Jo.of mS
section
open Go.ChangeShapes Go.WideShapes Go.ChangeAt Go.RowKit
variable{W W':wP}
def O9(a:bh W W')(b:UP->Prop):W.keptBut W' b:=by
 refine⟨a.os,a.output,λi hi=> ?_⟩;rw[a.block i hi wR]
 cases h:W.heap[i]? with
 |none=>rfl
 |some o=>cases o<;>simp
def zgQ{H:Type}{enc:wT×wN->H}{P:jP}{f:WF}{s:ChangeSpec}{c d i:v6}{args:ut wN}{v:wN}{ds e:N (lC H)}{a pa pv:N UP}(g:DataW.Whole enc P f.params.toList s.vars c W args.toList ds e a)(j:∀(b:K) (sp:K->v6) (hd:v6),xeT enc P W' b sp hd f.resultTypes.toList (v.resultList f.resultTypes.size) (s.fn H<|ds++e).results [])(hc:∀sp:K->v6,(∀p∈a,sp p.block=wL)->xeT enc P W' 0 sp wL f.params.toList args.toList (s.fn H<|ds++e).args pa)(k:∀sp:K->v6,(∀p∈a,sp p.block=wL)->DataW.TrodVars enc P W' sp s.vars (s.fn H<|ds++e).vars pv)(m:a=pa++pv)(l:bh W W'):s.post enc P f c d i I W args v W':=
 ⟨ds,e,a,[],pa,pv,g,j _ _ _,hc _ (λp hp=>by simpa using g.lt p hp),k _ (λp hp=>by simpa using g.lt p hp),O9 l _,λh=>by cases h⟩
end
section
def Ed{S:K->Prop}{w:wP}:∀{A B:N MF},yS S (A++B) w↔yS S A w/\yS S B w
 |[],_=>⟨λh=>⟨wR,h⟩,λh=>h.2⟩
 |a::A,B=>by
  have b:=Ed (S:=S) (w:=w) (A:=A) (B:=B);exact⟨λh=>⟨⟨h.1,(b.1 h.2).1⟩,(b.1 h.2).2⟩,λh=>⟨h.1.1,b.2 ⟨h.1.2,h.2⟩⟩⟩
def sM:∀{A B:N MF},QE (A++B)↔QE A/\QE B/\∀m∈A,∀k,m.blk k->∀m'∈B,¬m'.blk k
 |[],B=>⟨λh=>⟨wR,h,λm hm=>wS hm H1⟩,λh=>h.2.1⟩
 |a::A,B=>by
  have d:=sM (A:=A) (B:=B);constructor;intro h;have⟨h1,c,e⟩:=d.1 h.2;refine⟨⟨λk b m' hm'=>h.1 k b m'<|xaa.2 (.inl hm'),h1⟩,c,λm hm k b m' hm'=> ?_⟩;obtain rfl|hm:=xah.1 hm
  exact h.1 k b m'<|xaa.2 (.inr hm');grind;rintro⟨⟨h1,c⟩,e,f⟩;refine⟨λk b m' hm'=> ?_,d.2 ⟨c,e,λm hm=>f m<|FS _ hm⟩⟩;obtain hm'|hm':=xaa.1 hm'
  simp_all;simp_all
def EJ(G:N MF):MF where
 blk k:=∃m∈G,m.blk k
 p S w:=yS S G w/\QE G
 keep:=λh k hb=>⟨yS.keep k (λm a i hi=>hb i ⟨m,a,hi⟩) h.1,h.2⟩
 sub:=λh k=>⟨yS.sub k h.1,h.2⟩
 lt:=λh k ⟨m,a,b⟩=>yS.lt h.1 m a k b
def St.grp{we:wP}{Se:K->Prop}{G ms:N MF}{Γ:N FF}{w:wP}:St we Se (EJ G::ms) Γ w↔St we Se (G++ms) Γ w:=by
 constructor;rintro⟨h1,d,c,S,e,f,i,b,g⟩;refine⟨h1,d,sM.2 ⟨b.1.2,c.2,λm hm k a m' h=>c.1 k ⟨m,hm,a⟩ m' h⟩,S,e,f,λm hm k a=> ?_,Ed.2 ⟨b.1.1,b.2⟩,g⟩;obtain hm|hm:=xaa.1 hm
 exact i (EJ G) (IR) k ⟨m,hm,a⟩;grind;rintro⟨h1,d,c,S,e,f,i,b,g⟩;have⟨j,l,a3⟩:=sM.1 c;have⟨n,o⟩:=Ed.1 b;refine⟨h1,d,⟨λk a m' h=>by have⟨m,hm,a⟩:=a;exact a3 m hm k a m' h,l⟩,S,e,f,λm hm k a=> ?_,⟨⟨n,j⟩,o⟩,g⟩;obtain rfl|hm:=xah.1 hm
 have⟨m,hm,a⟩:=a;grind;grind
def Yv(hv:N wN):zT K where
 n:=1
 agg:=I
 n1 _:=O
 p _ r cs _:=∃u,hv[r]? =Z u/\u.oneCell'=wL/\cs=[u]
 len:=by rintro _ _ _ _ ⟨u,_,_,rfl⟩;rfl
 one:=by rintro _ _ _ _ ⟨u,_,a,rfl⟩ c hc;rw[xac]at hc;subst hc;exact a
 keep h _:=h
 sub h _:=h
def zby{hv:N wN}{r:K}{u:wN}{S:K->Prop}{w:wP}(h:hv[r]? =Z u)(h1:u.oneCell'=wL):(fV (Yv hv) r u).p S w:=⟨[u],O,u,h,h1,O⟩
def zgI{hv:N wN}{r:K}{v:wN}{S:K->Prop}{w:wP}(h:(fV (Yv hv) r v).p S w):hv[r]? =Z v:=by obtain⟨cs,rfl,u,h1,_,rfl⟩:=h;exact h1
def RI{hv b:N wN}{S:K->Prop}{w:wP}:∀{ix:N K}{cs:N wN},yT (Yv hv) S ix cs w->yT (Yv<|hv++b) S ix cs w
 |[],_,h=>h
 |r::ix,cs,⟨c,q,h1,⟨u,a,d,e⟩,f⟩=>⟨c,q,h1,⟨u,by rw[xbb (xaz.1 a).1];exact a,d,e⟩,RI f⟩
def zcc{hv a:N wN}{E:wT}{v:wN}{ix:N K}{S:K->Prop}{w:wP}(h:(mO (Yv hv) E v ix).p S w):(mO (Yv<|hv++a) E v ix).p S w:=by have⟨cs,h1,b⟩:=h;exact⟨cs,h1,RI b⟩
def vG{α:Type}(e:zT α)(E:wT):N wN->N (N α)->N MF
 |u::hv,xs::a=>mO e E u xs::vG e E hv a
 |_,_=>[]
theorem Jq{α:Type}{e:zT α}{E:wT}:∀{hv:N wN}{a:N (N α)}{r:K}{u:wN}{xs:N α},hv[r]? =Z u->a[r]? =Z xs->(vG e E hv a)[r]? =Z (mO e E u xs)
 |u'::hv,c::a,0,u,xs,h1,b=>by
  simp only[xbC,xau]at h1 b;subst h1;subst b;rfl
 |u'::hv,c::a,r+1,u,xs,h1,b=>Jq (hv:=hv) (by simpa using h1)<|by simpa using b
 |[],_,r,_,_,h1,_=>by simp at h1
 |_::_,[],r,_,_,_,b=>by simp at b
def HF{α:Type}{e:zT α}{E:wT}:∀{hv:N wN}{a:N (N α)}{r:K}{u:wN}{ys:N α},hv[r]? =Z u->(vG e E hv a).set r (mO e E u ys)=vG e E hv (a.set r ys)
 |u'::hv,b::a,0,u,ys,h1=>by
  simp only[xbC,xau]at h1;subst h1;rfl
 |u'::hv,b::a,r+1,u,ys,h1=>by
  show mO e E u' b::(vG e E hv a).set r (mO e E u ys)=mO e E u' b::vG e E hv (a.set r ys);rw[HF<|by simpa using h1]
 |[],_,r,_,_,h1=>by simp at h1
 |u'::hv,[],r,u,ys,h1=>by cases r<;>rfl
def E6{α:Type}{e:zT α}{E:wT}{u:wN}{xs:N α}:∀{hv:N wN}{a:N (N α)},X hv=X a->vG e E (hv++[u]) (a++[xs])=vG e E hv a++[mO e E u xs]
 |[],[],_=>rfl
 |u'::hv,b::a,h=>by
  show mO e E u' b::vG e E (hv++[u]) (a++[xs])=_;rw[E6<|by simpa using h];rfl
 |[],_::_,h=>by cases h
 |_::_,[],h=>by cases h
def zkp{α:Type}(e:zT α)(E E1:wT)(v:wN)(hv:N wN)(a:N (N α))(ix:N K):MF:=EJ (mO (Yv hv) E v ix::vG e E1 hv a)
section
variable{α:Type}{e:zT α}{E E1:wT}{v:wN}{hv:xS wN}{xss:xS (xS α)}{ix:xS wr}{we:wP}{Se:wr->Prop}{ms:xS MF}{Γ:xS FF}{w:wP}
theorem zj4{r:K}{u:wN}{xs:N α}(h1:hv[r]? =Z u)(a:xss[r]? =Z xs)(ms:N MF):((mO (Yv hv) E v ix::vG e E1 hv xss)++ms)[r+1]? =Z (mO e E1 u xs):=by grind [Jq,xbb]
def PT{r:K}{u:wN}{ys:N α}(h1:hv[r]? =Z u)(a:r<X xss)(hl:X hv=X xss)(ms:N MF):((mO (Yv hv) E v ix::vG e E1 hv xss)++ms).set (r+1) (mO e E1 u ys)=(mO (Yv hv) E v ix::vG e E1 hv (xss.set r ys))++ms:=by have b:=xab a;have h:=Jq (e:=e) (E:=E1) h1 b;have c:=(xaz.1 h).1;rw[xfM _ _ (by simpa using c),xfj,HF h1]
def St.adopt{u:wN}{ys:N α}(hl:X hv=X xss)(h:St we Se (zkp e E E1 v hv xss ix::mO e E1 u ys::ms) Γ w):St we Se (zkp e E E1 v (hv++[u]) (xss++[ys]) ix::ms) Γ w:=by
 have h1:=St.grp.1 h;have a:St we Se ((mO (Yv hv) E v ix::vG e E1 (hv++[u]) (xss++[ys]))++ms) Γ w:=by rw[E6 hl];simp_all
 have b:=a.conv (i:=0) (m':=mO (Yv<|hv++[u]) E v ix) O O λS hp=>zcc hp;exact St.grp.2 b
def zgr{S a:K->Prop}(c:∀k,S k->a k)(d:∀m∈vG e E1 hv xss,∀k,m.blk k->a k)(h:yS S (vG e E1 hv xss) w){r:K}{u:wN}{xs:N α}(h1:hv[r]? =Z u)(b:xss[r]? =Z xs):(fV (eS e) xs u).p a w:=
 ry c (λk f=>d _ (xbt<|Jq h1 b) k f) (yS.get h<|Jq h1 b)
def tn{S a:K->Prop}(hl:X hv=X xss)(b:∀k,S k->a k)(d:∀m∈vG e E1 hv xss,∀k,m.blk k->a k)(h:yS S (vG e E1 hv xss) w):∀{ix:N K}{cs:N wN},yT (Yv hv) S ix cs w->yT (eS e) a (ix.map λr=>xss.getD r []) cs w
 |[],_,h=>h
 |r::ix,cs,⟨c,q,h1,⟨u,f,l,g⟩,i⟩=>by
  have n:=(xaz.1 f).1;have j:xss[r]? =Z (xss.getD r []):=by simp_all
  exact⟨c,q,h1,⟨u,g,wb.1<|zgr b d h f j⟩,tn hl b d h i⟩
def St.mat_frz(hl:X hv=X xss)(h:St we Se (zkp e E E1 v hv xss ix::ms) Γ w):St we Se ms (fV (eS<|eS e) (ix.map λr=>xss.getD r []) v::Γ) w:=by refine h.freeze (i:=0) O λS c d b hp=> ?_;have⟨⟨⟨cs,h1,f⟩,g⟩,_⟩:=hp;have j:=λm l k a=>b k ⟨m,FS _ l,a⟩;have n:(mO (eS e) E v<|ix.map λr=>xss.getD r []).p c w:=⟨cs,by rw[xav];exact h1,tn hl d j g f⟩;exact ry (λk a=>a) (λk a=>b k ⟨_,IR,a⟩) n
end
def mPr(p:Prop):MF where
 blk _:=KW
 p _ _:=p
 keep h _ _:=h
 sub h _:=h
 lt _ _ a:=a.elim
def yO:wN->wN
 |.tuple us=>us.toList.headD Z0
 |_=>Z0
def xT:wN->N wN
 |.tuple us=>us.toList.tail
 |_=>[]
def U9(v:wN)(hv:N wN):wN:=.tuple (v::hv).toArray
def AE{α:Type}(e:zT α)(E E1:wT)(u:wN)(a:N (N α))(ix:N K):MF:=EJ (mPr (X (xT u)=X a)::mO (Yv<|xT u) E (yO u) ix::vG e E1 (xT u) a)
def mBo{α:Type}(e:zT α)(E a:wT)(u:wN)(xs:N α):MF:=EJ [mPr<|X (xT u)=1,mP (Yv<|xT u).c a (yO u) 0,mO e E ((xT u).headD Z0) xs]
def mHo(a:wT)(u:wN):MF:=EJ [mPr<|X (xT u)=1,mP (Yv<|xT u).c a (yO u) 0]
end
section
def oP{α:Type}(e:zT α)(S:K->Prop):V α->N wN->wP->Prop
 |none,cs,_=>cs=[.pointer wF]
 |some y,cs,w=>∃v,cs=[v]/\(fP e y v).p S w
def eO{α:Type}(e:zT α):zT (V α)where
 n:=1
 agg:=I
 n1 _:=O
 p S x cs w:=oP e S x cs w
 len:=by
  intro S x cs w h
  cases x with
  |none=>rw[show cs=_ from h];rfl
  |some y=>obtain⟨v,rfl,_⟩:=h;rfl
 one:=by
  intro S x cs w h c hc
  cases x with
  |none=>rw[show cs=_ from h]at hc;rw[xac.1 hc];rfl
  |some y=>obtain⟨v,rfl,b,o,d,rfl,_⟩:=h;rw[xac.1 hc];rfl
 keep:=by
  intro S x cs w w' h k
  cases x with
  |none=>exact h
  |some y=>have⟨v,h1,a⟩:=h;exact⟨v,h1,(fP e y v).keep a k⟩
 sub:=by
  intro S f x cs w h k
  cases x with
  |none=>exact h
  |some y=>have⟨v,h1,a⟩:=h;exact⟨v,h1,(fP e y v).sub a k⟩
section
variable{α:Type}{e:zT α}{S:wr->Prop}{w:wP}{v:wN}
def zqE(h:(fV (eO e) wF v).p S w):v=.pointer wF:=by obtain⟨cs,rfl,h⟩:=h;rw[show cs=_ from h];rfl
def zpG:(fV (eO e) wF (.pointer wF)).p S w:=⟨[.pointer wF],O,O⟩
def zex{y:α}(h:(fV (eO e) (Z y) v).p S w):(fP e y v).p S w:=by obtain⟨cs,rfl,v,rfl,h⟩:=h;exact h
def zph{y:α}(h:(fP e y v).p S w):(fV (eO e) (Z y) v).p S w:=⟨[v],O,v,O,h⟩
def zoH{x:V α}(h:(fV (eO e) x v).p S w):∃p,v=.pointer p/\p.isNone=x.isNone:=by
 cases x with
 |none=>exact⟨_,zqE h,O⟩
 |some y=>have⟨b,o,cs,h1,_⟩:=zex h;exact⟨_,h1,O⟩
end
def eW{α:Type}(e:zT α):zT α where
 n:=e.n
 agg:=wL
 n1 h:=by cases h
 p:=e.p
 len:=e.len
 one:=e.one
 keep:=e.keep
 sub:=e.sub
def Sub.wrap{α:Type}(e:zT α)(x:α):Sub (eW e).c x 0 e x id:=λS w cs h=>Sub.self e x S w cs h
def b7{α:Type}(e:zT α)(off:K)(nl:α->α)(hv:N wN):sU (α×K)where
 p S z cs w:=∃u,hv[z.2]? =Z u/\u.oneCell'=wL/\cs[off]? =Z u/\e.p S (nl z.1) (cs.set off (.slice wF 0 0)) w
 keep:=λ⟨u,h1,a,b,c⟩ k=>⟨u,h1,a,b,e.keep c k⟩
 sub:=λ⟨u,h1,a,b,c⟩ k=>⟨u,h1,a,b,e.sub c k⟩
def mVr{α β:Type}(q:Prop)(e:zT α)(E off:K)(nl:α->α)(s:zT β)(E1:wT)(u:wN)(z:α)(xs:N β):MF:=EJ [mPr<|X (xT u)=1/\q,mP (b7 e off nl<|xT u) E (yO u) (z,0),mO s E1 ((xT u).headD Z0) xs]
def mVh{α:Type}(q:Prop)(e:zT α)(E off:K)(nl:α->α)(u:wN)(z:α):MF:=EJ [mPr<|X (xT u)=1/\q,mP (b7 e off nl<|xT u) E (yO u) (z,0)]
def eRw(n:K)(ag:v6)(hn:ag=I->n=1):zT (V<|N wN)where
 n:=n
 agg:=ag
 n1:=hn
 p _ x cs _:=X cs=n/\(∀c∈cs,c.oneCell'=wL)/\∀l,x=Z l->cs=l
 len h:=h.1
 one h:=h.2.1
 keep h _:=h
 sub h _:=h
section
variable{α β γ:Type}{e:zT α}{s:zT β}{g:zT γ}{off o:wr}{nl:α->α}{hv hv':xS wN}{S:wr->Prop}{w:wP}{cs:xS wN}
theorem znc{z:α×K}(h:(b7 e off nl hv).p S z cs w):(eRw e.n e.agg e.n1).p S wF cs w:=by have⟨u,h1,b,d,a⟩:=h;have hl:=e.len a;rw[xbg]at hl;refine⟨hl,λc hc=> ?_,λl hl=>by cases hl⟩;have⟨k,f⟩:=xfC.1 hc;by_cases e1:k=off;simp_all;refine e.one a c<|xfC.2 ⟨k,?_⟩;grind
def zoh{x:α}{v:wN}(h:(fV e x v).p S w):(fV (eRw e.n e.agg e.n1) (Z v.cells.toList) v).p S w:=by obtain⟨cs,rfl,a⟩:=h;refine⟨cs,O,e.len a,e.one a,λl hl=> ?_⟩;cases hl;exact(e.val_cells a).symm
def zke{z:α×K}(h:(b7 e off nl hv).p S z cs w):(b7 e off nl<|hv++hv').p S z cs w:=by have⟨u,h1,a⟩:=h;exact⟨u,by rw[xbb (xaz.1 h1).1];exact h1,a⟩
def zpD{z:α}{r a:K}(b:hv[r]? =hv'[a]?)(h:(b7 e off nl hv).p S (z,r) cs w):(b7 e off nl hv').p S (z,a) cs w:=by have⟨u,h1,c⟩:=h;exact⟨u,b▸h1,c⟩
def Sub.hole{z:α}{r:K}:Sub (b7 e off nl hv) (z,r) off (Yv hv) r (λa=>(z,a)):=by
 rintro S w cs ⟨u,h1,c,d,f⟩;have⟨h,i⟩:=xaz.1 d;refine⟨cs.take off,[u],cs.drop<|off+1,?_,by rw[xar];lia,⟨u,h1,c,O⟩,?_⟩;rw[<-i];simp;rintro w' a m k ⟨b,j,l,rfl⟩;have hl:X (cs.take off)=off:=by rw[xar];lia
 refine⟨b,j,l,?_,?_⟩;simp_all;have e1:(cs.take off++[b]++cs.drop (off+1)).set off (.slice wF 0 0)=cs.set off (.slice wF 0 0):=by
  have n:cs.set off (.slice wF 0 0)=cs.take off++ .slice wF 0 0::cs.drop (off+1):=by rw[xee,iq h]
  simp_all
 rw[e1];exact e.keep f k
def Sub.other{z:α}{r:K}{y:γ}{up:γ->α}(h:Sub e.c (nl z) o g y λy=>nl<|up y)(hd:o+g.n<=off\/off+1<=o):Sub (b7 e off nl hv) (z,r) o g y (λy=>(up y,r)):=by
 rintro S w cs ⟨u,h1,q,B,C⟩;have⟨a,c,b,f,t,m,v⟩:=h S w _ C;have⟨hc,D⟩:=xaz.1 B;have E:=g.len m;have x:cs=(cs.set off (.slice wF 0 0)).set off u:=by rw[List.set_set,<-D,xdf]
 obtain hd|hd:=hd
 have F:off-X (a++c)<X b:=by have:X (cs.set off (.slice wF 0 0))=X cs:=xbg;rw[f,xat]at this;rw[xat]at this⊢;lia
 have A:X (a++c)<=off:=by rw[xat];lia
 refine⟨a,c,b.set (off-X (a++c)) u,?_,t,m,?_⟩;rw[x,f,xfD _ _ A];intro w' y' d k j;have p:=v w' y' d k j;have G:=g.len j;have hi:X (a++d)=X (a++c):=by rw[xat,xat,E,G]
 refine⟨u,h1,q,?_,?_⟩;rw[xbr W,hi,xds F];have:(a++d++b.set (off-X (a++c)) u).set off (.slice wF 0 0)=a++d++b:=by
  rw[xfD _ _ W,hi,List.set_set];have hp:b[off-X (a++c)]? =Z (.slice wF 0 0):=by have:=uL (λl:N wN=>l[off]?) f;simp only[xds hc]at this;rw[xbr A]at this;exact this.symm
  have⟨_,hp⟩:=xaz.1 hp;rw[<-hp,xdf]
 rw[this];exact p;have i:off<X a:=W
 refine⟨a.set off u,c,b,?_,by rw[xbg];exact t,m,?_⟩;rw[x,f,xaq,xfM _ _ i,xaq];intro w' y' d k j;have p:=v w' y' d k j;refine⟨u,h1,q,?_,?_⟩;rw[xaq,xbb (by rw[xbg];exact i),xds i];have:(a.set off u++d++b).set off (.slice wF 0 0)=a++d++b:=by
  rw[xaq,xfM _ _ (by rw[xbg];exact i),List.set_set];have hp:a[off]? =Z (.slice wF 0 0):=by have:=uL (λl:N wN=>l[off]?) f;simp only[xds hc]at this;rw[xaq,xbb i]at this;exact this.symm
  have⟨_,hp⟩:=xaz.1 hp;rw[<-hp,xdf,xaq]
 rw[this];exact p
end
end
section
variable{v:wN}{S:wr->Prop}{w:wP}
def eCh:zT K where
 n:=1
 agg:=I
 n1 _:=O
 p _ x cs _:=cs=[.int .u8 (x:J)]/\x<256
 len h:=by simp[h.1]
 one h:=by intro c hc;rw[h.1]at hc;simp at hc;subst hc;rfl
 keep h _:=h
 sub h _:=h
def xO(s:Wt):N K:=s.data.toList.map UInt8.toNat
def eTx:zT (N K)where
 n:=1
 agg:=I
 n1 _:=O
 p _ x cs _:=∃s:Wt,cs=[.string s]/\xO s=x/\s.size<=9223372036854775807
 len:=by rintro _ _ _ _ ⟨s,rfl,_⟩;rfl
 one:=by rintro _ _ _ _ ⟨s,rfl,_⟩ c hc;simp at hc;subst hc;rfl
 keep h _:=h
 sub h _:=h
def zqK{x:K}(h:(fV eCh x v).p S w):v=.int .u8 (x:J)/\x<256:=by obtain⟨cs,rfl,rfl,h⟩:=h;exact⟨O,h⟩
def Hs{x:K}(h:x<256):(fV eCh x (.int .u8 (x:J))).p S w:=⟨_,O,O,h⟩
def zcB{x:N K}(h:(fV eTx x v).p S w):∃s:Wt,v=.string s/\xO s=x/\s.size<=9223372036854775807:=by obtain⟨cs,rfl,s,rfl,h1,a⟩:=h;exact⟨s,O,h1,a⟩
def zbT{s:Wt}{x:N K}(h:xO s=x)(a:s.size<=9223372036854775807):(fV eTx x (.string s)).p S w:=⟨_,O,s,O,h,a⟩
def ua(s:Wt):X (xO s)=s.size:=by simp_all [xO]
inductive Ty
 |i
 |u
 |b
 |l (t:Ty)
 |p (s t:Ty)
 |a (k:K) (t:Ty)
 |ch
 |tx
 |po (t:Ty)
 |w1 (t:Ty)
def Ty.D:Ty->Type
 |.i=>J
 |.u=>K
 |.b=>v6
 |.l t=>N t.D
 |.p s t=>s.D×t.D
 |.a _ t=>N t.D
 |.ch=>K
 |.tx=>N K
 |.po t=>V t.D
 |.w1 t=>t.D
def Ty.rep:(t:Ty)->zT t.D
 |.i=>eI
 |.u=>eU
 |.b=>Eu
 |.l t=>eS t.rep
 |.p s t=>eP s.rep t.rep
 |.a k t=>eA k t.rep
 |.ch=>eCh
 |.tx=>eTx
 |.po t=>eO t.rep
 |.w1 t=>eW t.rep
def Ty.z:(t:Ty)->t.D
 |.i=>(0:J)
 |.u=>(0:K)
 |.b=>I
 |.l t=>([]:N t.D)
 |.p s t=>(s.z,t.z)
 |.a k t=>Nm k t.z
 |.ch=>(0:K)
 |.tx=>([]:N K)
 |.po t=>(wF:V t.D)
 |.w1 t=>t.z
def Ty.n:Ty->K
 |.p s t=>s.n+t.n
 |.a k t=>k*t.n
 |.w1 t=>t.n
 |_=>1
def Ty.n_rep:∀t:Ty,t.rep.n=t.n
 |.i=>rfl
 |.u=>rfl
 |.b=>rfl
 |.l _=>rfl
 |.ch=>rfl
 |.tx=>rfl
 |.p s t=>by show s.rep.n+t.rep.n=_;rw[Ty.n_rep s,Ty.n_rep t];rfl
 |.a k t=>by show k*t.rep.n=_;rw[Ty.n_rep t];rfl
 |.po _=>rfl
 |.w1 t=>Ty.n_rep t
def Ty.same:(s t:Ty)->V (PLift<|s=t)
 |.i,.i=>Z ⟨O⟩
 |.u,.u=>Z ⟨O⟩
 |.b,.b=>Z ⟨O⟩
 |.ch,.ch=>Z ⟨O⟩
 |.tx,.tx=>Z ⟨O⟩
 |.l s,.l t=>match Ty.same s t with
  |some ⟨h⟩=>Z ⟨uL Ty.l h⟩
  |none=>wF
 |.p s t,.p c d=>match Ty.same s c,Ty.same t d with
  |some ⟨h⟩,Z ⟨e⟩=>Z ⟨h▸e▸O⟩
  |_,_=>wF
 |.a k s,.a k' t=>if f:k=k' then(match Ty.same s t with
  |some ⟨h⟩=>Z ⟨f▸h▸O⟩
  |none=>wF)else wF
 |.po s,.po t=>match Ty.same s t with
  |some ⟨h⟩=>Z ⟨uL Ty.po h⟩
  |none=>wF
 |.w1 s,.w1 t=>match Ty.same s t with
  |some ⟨h⟩=>Z ⟨uL Ty.w1 h⟩
  |none=>wF
 |_,_=>wF
def Ty.cast{R:Type}(s t:Ty)(x:s.D)(k:t.D->V R):V R:=match Ty.same s t with
 |some ⟨h⟩=>k<|h▸x
 |none=>wF
def nU:N Ty->Type
 |[]=>Z3
 |t::r=>t.D×nU r
def Ie:N Ty->Type
 |[]=>Z3
 |[t]=>t.D
 |t::s::r=>t.D×Ie (s::r)
structure Fl(α:Type)where
 off:K
 f:Ty
 get:α->f.D
 set:f.D->α->α
def Fl.self(t:Ty):Fl t.D:=⟨0,t,id,λy _=>y⟩
def XO{α:Type}(f:V (Fl α)):K:=match f with
 |some f=>f.off
 |none=>0
def Zl{α:Type}(s:Ty)(f:V (Fl α))(xs:N s.D)(z:α):α:=match f with
 |some ⟨_,.l a,_,st⟩=>(match Ty.same s a with
  |some ⟨h⟩=>st (h▸xs) z
  |none=>z)
 |_=>z
def Fl.comp{α:Type}(a:Fl α)(c:Fl a.f.D):Fl α:=⟨a.off+c.off,c.f,λz=>c.get<|a.get z,λy z=>a.set (c.set y<|a.get z) z⟩
def xk:(k:K)->(t:Ty)->(i:K)->V (Fl t.D)
 |0,.w1 t,0=>Z ⟨0,t,λz=>z,λy _=>y⟩
 |0,_,_=>wF
 |1,t,i=>bif E i 0 then Z (Fl.self t)else wF
 |k+2,.p s t,0=>Z ⟨0,s,λz=>z.1,λy z=>(y,z.2)⟩
 |k+2,.p s t,i+1=>match xk (k+1) t i with
  |some f=>Z ⟨s.n+f.off,f.f,λz=>f.get z.2,λy z=>(z.1,f.set y z.2)⟩
  |none=>wF
 |_,_,_=>wF
structure PD where
 t:Ty
 x:t.D
def Py(d:jP)(l:K){α X Y:Type}(e:zT α)(E:wT)(b:X->wN->MF)(f:Y->wN->MF)(g:N α->X->V (N α×(X⊕Y))):Prop:=
 ∀ys x a r,g ys x=Z (a,r)->∀(v u:wN) we Se F G w,St we Se (b x u::mO e E v ys::F) G w->
  YieldAt xcS 0 d l #[v] w λq w'=>q=.returned (.bool r.isLeft)/\∃c,St we Se (xfk (λx=>b x c) (λy=>f y c) r::mO e E v a::F) G w'
def lOf:wN->K
 |.int _ x=>x.toNat
 |_=>0
inductive Dv
 |d (t:Ty) (x:t.D)
 |q (t:Ty) (x:t.D)
 |kb (b:v6)
 |un
 |nil
 |ow (o:K)
 |ep (o:K) (t:Ty) (j:K) (f:Fl t.D)
 |sv (o:K) (t:Ty) (lo n:K)
 |vs (o:K) (t:Ty)
 |vp (o:K) (t:Ty) (f:Fl t.D)
 |fn (f:Z2) (c:N PD)
 |fp (dom cod:N Ty) (g:nU dom->V (Ie cod))
 |pin (v:wN)
 |mw (o:K)
 |mv (o lo n:K)
 |hp (o j:K)
 |rw(o r:K)
 |rp (o:K) (t:Ty) (r j:K) (f:Fl t.D)
 |yd (o:K)
 |np
 |vf (o:K) (t:Ty) (n i:K)
 |bm (f:Z2) (o:K) (t:Ty)
 |dz (t:Ty) (x:t.D) (n i:K)
 |ifc (q:PX)
inductive Od
 |own (t:Ty) (E:wT) (xs:N t.D)
 |var (t:Ty) (E:wT) (z:t.D)
 |mat (t:Ty) (E E1:wT) (xss:N (N t.D)) (ix:N K)
 |bo (t:Ty) (E E0:wT) (xs:N t.D)
 |ho (E0:wT)
 |vr (t:Ty) (E:wT) (s:Ty) (E1:wT) (n i:K) (z:t.D) (xs:N s.D)
 |vh (t:Ty) (E:wT) (s:Ty) (E1:wT) (n i:K) (z:t.D)
 |hid (t:Ty) (E:wT) (X Y:Type) (mX:X->wN->MF) (mY:Y->wN->MF) (g:N t.D->X->V (N t.D×(X⊕Y))) (x:X)
 |hiy (Y:Type) (mY:Y->wN->MF) (y:Y)
structure Sg where
 nx:K
 rg:N (K×K×Dv)
 ob:N (K×Od)
def iZ:N (K×K×Dv)->K->K->V Dv
 |[],_,_=>wF
 |(a,b,d)::r,t,i=>bif E a t && E b i then Z d else iZ r t i
def xA:N (K×Od)->K->V Od
 |[],_=>wF
 |(a,x)::r,o=>bif E a o then Z x else xA r o
def get(cx σ:Sg)(t i:K):V Dv:=match iZ σ.rg t i with
 |some d=>Z d
 |none=>iZ cx.rg t i
def Vo(cx σ:Sg)(o:K):V Od:=match xA σ.ob o with
 |some d=>Z d
 |none=>xA cx.ob o
def cn(l:N K)(t:K):v6:=l.any<|E t
def XY(rg:N (K×K×Dv))(t:K):v6:=rg.all λe=> !E e.1 t
def znz(rg:N (K×K×Dv))(t:K):N (K×K×Dv):=rg.filter λe=> !E e.1 t
def yF:N (K×Od)->K->N (K×Od)
 |[],_=>[]
 |(a,y)::r,o=>bif E a o then r else(a,y)::yF r o
def km:N (K×Od)->K->Od->N (K×Od)
 |[],_,_=>[]
 |(a,y)::r,o,x=>bif E a o then(a,x)::r else(a,y)::km r o x
def qt(rg:N (K×K×Dv))(d:V Z4)(l:N (K×Dv)):N (K×K×Dv):=match d with
 |some t=>l.map (λe=>(t,e.1,e.2))++znz rg t
 |none=>rg
def wJ(cx:Sg)(d:V Z4):v6:=match d with
 |some t=>XY cx.rg t
 |none=>wL
def Sg.put(σ:Sg)(d:V Z4)(l:N (K×Dv)):Sg:=⟨σ.nx,qt σ.rg d l,σ.ob⟩
def cv:wN->V Dv
 |.int .i64 x=>if XB x then Z (.d .i x)else wF
 |.int .u64 x=>if 0<=x/\x<18446744073709551616 then Z (.d .u x.toNat)else wF
 |.bool b=>Z (.kb b)
 |.int .u8 x=>if 0<=x/\x<256 then Z (.d .ch x.toNat)else wF
 |.string s=>if s.size<=9223372036854775807 then Z (.d .tx<|xO s)else wF
 |.slice wF 0 0=>Z .nil
 |.pointer wF=>Z .np
 |.nilFunc=>Z (.pin .nilFunc)
 |_=>wF
def xz(cx σ:Sg):wW->V Dv
 |.tmp t=>get cx σ t 0
 |.const v=>cv v
 |.func f=>Z (.fn f [])
 |.global _=>wF
inductive TK
 |int (k:Z5)
 |bool
 |str
 |sl (E:wT)
 |st (k:K)
 |ar (k:K) (E:wT)
 |pt (E:wT)
structure TI where
 ty:Ty
 k:TK
 B:K
inductive AM
 |d (t:Ty)
 |q (t:Ty)
 |own (t:Ty) (E:wT)
 |fn (dom cod:N Ty)
 |var (t:Ty) (E:wT)
def AM.D:AM->Type
 |.d t=>t.D
 |.q t=>t.D
 |.own t _=>N t.D
 |.var t _=>t.D
 |.fn dom cod=>nU dom->V (Ie cod)
def UU:N AM->Type
 |[]=>Z3
 |a::r=>a.D×UU r
inductive RM
 |d (t:Ty)
 |own (t:Ty) (E:wT)
 |var (t:Ty) (E:wT)
def RM.D:RM->Type
 |.d t=>t.D
 |.own t _=>N t.D
 |.var t _=>t.D
def UK:N RM->Type
 |[]=>Z3
 |[a]=>a.D
 |a::b::r=>a.D×UK (b::r)
def RM.ty:RM->Ty
 |.d t=>t
 |.own t _=> .l t
 |.var t _=>t
inductive TF
 |d (t:Ty)
 |q (t:Ty)
 |own (t:Ty) (E:wT)
 |var (t:Ty) (E:wT)
 |mat (t:Ty) (E E1:wT)
 |matv (t:Ty) (E E1:wT)
 |row (j:K)
 |view (j:K)
 |bo (t:Ty) (E E0:wT)
 |vr (t:Ty) (E:wT) (s:Ty) (E1:wT) (n i:K)
def TF.D:TF->Type
 |.d t=>t.D
 |.q t=>t.D
 |.own t _=>N t.D
 |.var t _=>t.D
 |.mat t _ _=>N (N t.D)×N K
 |.matv t _ _=>(N (N t.D)×N K)×(K×K)
 |.row _=>K
 |.view _=>K×K
 |.bo t _ _=>N t.D
 |.vr t _ s _ _ _=>t.D×N s.D
def EH:TF->V K
 |.row j=>Z j
 |.view j=>Z j
 |_=>wF
inductive NF
 |kb (b:v6)
 |nil
 |ci (x:J)
 |cu (x:K)
 |al (s:K)
 |bm (s:K) (f:Z2)
structure Sh where
 ds:N (K×TF)
 ns:N (K×NF)
structure Sgm where
 ro:N K
 tg:N (Tg×Sh)
structure Lp where
 hd:Sh
 sg:Sgm
structure An where
 bx:N K
 jn:N (K×Sgm)
 lp:N (K×Lp)
 dz:N (K×N K)
 vw:N K
 mt:N K
 vr:N (K×K×K)
def UC{α:Type}:N (K×α)->K->V α
 |[],_=>wF
 |(k,x)::r,t=>bif E k t then Z x else UC r t
end
end Go.Proofs.YtoegnnjcmlghhaaGreat
