/- What a proof needs: rules of walking, mirrors of functions and their plain laws. No condition. -/
import Derived.WalkKit
import Derived.KernelRfl
import Derived.CallsIn
import Derived.OrdersIn
import Derived.TacticsIn
import Derived.RangeFuncIn
import Derived.Laws.AppendOwn
import Derived.Laws.OwnMore
import Derived.Laws.CopyOwn
import Derived.Orders
import Derived.Laws.IdiomCopy
import Derived.Laws.CopyRow
import Derived.Scope
import Derived.Lib.BitFns
import Derived.Test.YtoegnnjcmlghhaaGreatRows
import Derived.ProofKit
import Derived.OpenShut
import Derived.Laws.Pointers
import Derived.Test.YtoegnnjcmlghhaaGreatProg
import Derived.RangeFuncSeq
import Derived.RangeFuncRecord
set_option linter.all false
namespace Go.Proofs.YtoegnnjcmlghhaaGreat
open Bool renaming false->I,true->wL
open Go renaming Value->wN,World->wP,TypeId->wT,Operand->wW,Program->jP,execOp->kW,run_underlying->ul,undef->uT,Oper->Z0,FuncId->Z4,Tmp->Z5,IntKind->Xs,Code->Wr,resolve->Wt,getD_set_ne->WD,wpListIn->WF,run_newObj_alloc->WL,heap_alloc_new->WN,ResultVar->WP,sizeOf->WR,maxLen->WS,binOp->WT,typeInfo->WW,wpIn_mono->V0,invoke->V2,BinOp->V4,eqGuard->V5,asIntOf->V6,results->Jp,Func->JP,Act->Kw,Addr->KW,MemPlace->Us,getD_set_true->Ut,builtin->UL,Calls->UP,run_loadCells_list->US,wpAnyIn->UT,run_storeCells_at->U8,grownCap->aC,zeroValue->aM,newRow->aP,fenced_calm->bi,size_zeroCells->bv,growslice_fits->bI,asInt->bV,Exit->ce,madeCells->eL,setRow_heap->eM,loadVar->eX,goInt->fN,callFunc->ge,TypeInfo->gS,DataW->gT
open List renaming length->X
open Nat renaming beq->E
open Option renaming some->Z,none->wF
open _root_ renaming rfl->O,List->N,Int->J,Nat->K,Option->V,List->xS,Nat->wr,Option->ww,trivial->wR,absurd->wS,Bool->qR,congrArg->ut,Array->uL,if_true->uP,if_false->uS,cond_true->Z2,cond_false->Z3,Unit->Z9,True->XS,ByteArray->Wd,congrFun->Wn,Decidable->V1,False->QR,decide_eq_true_eq->Ul,if_pos->am,not_true_eq_false->dL
theorem W{p:Prop}(h:p:=by lia):p:=h
theorem iP{p:Prop}(h:p:=by lia):p:=h
theorem iT{p:Prop}(h:p:=by omega):p:=h
theorem i0{p:Prop}(h:p:=by decide):p:=h
theorem i7{p:Prop}(h:p:=by simp):p:=h
theorem i8{p:Prop}(h:p:=by kernel_rfl):p:=h
open Bool renaming and_eq_true->xac,false_eq_true->xao,false_or->xeC,not_eq_true'->xcV,not_true->xeD,or_eq_true->xes
open Builtin renaming append_->xcf,copy_->xfV,firstCells->xeK,lenOf->xfU,zeroCells->xbt
open DataW renaming TrodAll->xeT
open Deferred renaming ofValue->xdR
open Extern renaming find->xfc,findNext->xeP
open Extern.MathBitsCarry renaming m64->xbc,pair->xbT,three->xbN
open Fence renaming wide->xgh
open Instr renaming buildSlice->xeG,fill->xdx,slice->xfX,sliceAt->xdb,sliceBound->xeF,sliceBounds->xer,sureAddr->xfF
open Int renaming natAbs_ediv_le_natAbs->xbG,natCast_add->xeO,natCast_mul->xeN,pow_nonneg->xfG,toNat_natCast->xbe
open IntKind renaming bits->xeM,i64->xde,signed->xeo,u64->xcs,u8->xgi,wrap->xgd
open Lib renaming bitLen->xfg
open List renaming all_eq_true->xaR,any_eq_true->xeZ,append_assoc->xad,append_nil->xbO,cons_append->xbC,drop->xdT,drop_eq_getElem_cons->xcb,drop_eq_nil_of_le->xbW,drop_left'->xfl,eq_nil_of_length_eq_zero->xbm,ext_getElem?->xcA,getD_eq_getElem?_getD->FS,getElem?_append_left->xaX,getElem?_append_right->xbr,getElem?_cons_zero->xby,getElem?_drop->xfm,getElem?_eq_getElem->xab,getElem?_eq_none->xbB,getElem?_eq_some_iff->xar,getElem?_replicate->xdj,getElem?_set_self->xdv,getElem?_take->xcn,getElem_mem->xbQ,getElem_of_mem->xcK,getElem_set->xfO,length_append->xaw,length_cons->xax,length_drop->xbX,length_eq_one_iff->xcG,length_map->xaj,length_nil->xbP,length_replicate->xaM,length_set->xbj,length_take->xav,map_cons->xbS,map_nil->xex,map_toArray->xee,mem_append->So,mem_cons->xaf,mem_cons_of_mem->UV,mem_cons_self->H1,mem_iff_getElem?->xfJ,mem_map->xas,mem_of_getElem?->xbp,mem_of_mem_eraseIdx->xdP,mem_of_mem_take->xdo,mem_range->xbg,mem_singleton->xag,nil_append->xbA,not_mem_nil->Nm,pairwise_cons->xdl,range->xaN,range_succ->xdk,replicate->xaa,replicate_succ->xdw,set_append_left->xeW,set_append_right->xdJ,set_cons_succ->xfo,set_eq_take_append_cons_drop->xef,set_getElem_self->xdh,singleton_append->xfI,take->xdH,take_append_drop->xbv,take_left'->xfZ,take_length->xbY,take_of_length_le->xaQ,take_succ_cons->xeB
open List.Perm renaming refl->xdD
open Nat renaming add_assoc->xcH,add_comm->xdW,add_mul->xbf,add_sub_cancel_left->xfn,add_zero->xbD,ble->xgg,blt->xdd,div_le_self->xcM,div_lt_iff_lt_mul->xbb,eq_of_beq_eq_true->xcL,le_mul_of_pos_left->xed,le_mul_of_pos_right->xco,le_of_ble_eq_true->xbK,le_refl->IR,le_trans->xap,lt_of_le_of_lt->xaL,lt_of_lt_of_le->xah,lt_or_ge->xca,mod_eq_of_lt->xaq,mod_lt->xaU,mul_le_mul_right->xak,mul_pos->xdy,one_mul->xcz,pos_of_ne_zero->xcJ,strongRecOn->xdG,sub_self->xcD,zero_add->xaK,zero_le->xan,zero_mul->xcp
open Op renaming intCmp->xfY
open Oper renaming looksAt->xbx
open Option renaming getD_some->xdq
open Option.some renaming inj->xdI,injEq->xat
open Prod.mk renaming injEq->xcI
open Region renaming binds->xcu,ready->xeg
open Result renaming andThen_ok->xae
open Sem renaming run_bind->xay,run_pure->xaI
open Sum renaming elim->xfH
open UInt8 renaming toNat->xfB
open Value renaming bool->xeJ,cells->xfA
open _root_.Array renaming getD_eq_getD_getElem?->xbl,getElem?_eq_getElem->xcB,getElem?_eq_some_iff->xbk,length_toList->xfa,mem_toList_iff->xdn,range->xfb,replicate->xeL,toArray_toList->xcX
section
 universe u
def zX{c:Prop}{h:V1 c}{α:Type}{t e:α}(hc:c:=by lia):ite c t e=t:=am hc
def zB{c:Prop}{h:V1 c}{α:Type}{t e:α}(hc:¬c:=by lia):ite c t e=e:=if_neg hc
def iq{c:Prop}{h:V1 c}(hc:c){α:Sort u}{t e:α}:ite c t e=t:=am hc
def ir{c:Prop}{h:V1 c}(hc:¬c){α:Sort u}{t e:α}:ite c t e=e:=if_neg hc
structure yA(S:K->Prop)(w w':wP):Prop where
 os:w'.os=w.os
 tape:w'.tape=w.tape
 output:w'.output=w.output
 size:w.heap.size<=w'.heap.size
 block:∀k,k<w.heap.size->S k->w'.heap[k]? =w.heap[k]?
abbrev K7(w w':wP):Prop:=yA (λ_=>XS) w w'
theorem yA.refl(S:K->Prop)(w:wP):yA S w w:=⟨O,O,O,IR _,λ_ _ _=>O⟩
def yA.trans{S:K->Prop}{a b c:wP}(h:yA S a b)(k:yA S b c):yA S a c:=
 ⟨k.os.trans h.os,k.tape.trans h.tape,k.output.trans h.output,xap h.size k.size,
  λi hi d=>(k.block i (xah hi h.size) d).trans<|h.block i hi d⟩
def yA.weak{S c:K->Prop}{a b:wP}(h:yA S a b)(e:∀k,k<a.heap.size->c k->S k):yA c a b:=
 ⟨h.os,h.tape,h.output,h.size,λk d f=>h.block k d<|e k d f⟩
def K7.to{S:K->Prop}{a b:wP}(h:K7 a b):yA S a b:=h.weak λ_ _ _=>wR
def K7.behind{S:K->Prop}{we a b:wP}(h:K7 we a)(k:yA S a b)(c:∀i,i<we.heap.size->S i):K7 we b:=
 ⟨k.os.trans h.os,k.tape.trans h.tape,k.output.trans h.output,xap h.size k.size,
  λi hi _=>(k.block i (xah hi h.size)<|c i hi).trans<|h.block i hi wR⟩
def K7.alloc(w:wP)(o:Obj):K7 w (w.alloc o):=
 ⟨O,O,O,i7,λk a _=>RowKit.Below.heap_alloc w o k a⟩
def K7.drawn(w:wP)(n:K):K7 w {w with drawn:=n}:=⟨O,O,O,IR _,λ_ _ _=>O⟩
structure FF where
 p:(K->Prop)->wP->Prop
 keep:∀{S:K->Prop}{w w':wP},p S w->yA S w w'->p S w'
 sub:∀{S S':K->Prop}{w:wP},p S w->(∀k,k<w.heap.size->S k->S' k)->p S' w
structure MF where
 blk:K->Prop
 p:(K->Prop)->wP->Prop
 keep:∀{S:K->Prop}{w w':wP},p S w->yA S w w'->(∀k,blk k->w'.heap[k]? =w.heap[k]?)->p S w'
 sub:∀{S S':K->Prop}{w:wP},p S w->(∀k,k<w.heap.size->S k->S' k)->p S' w
 lt:∀{S:K->Prop}{w:wP},p S w->∀k,blk k->k<w.heap.size
def zE(S:K->Prop):N FF->wP->Prop
 |[],_=>XS
 |f::r,w=>f.p S w/\zE S r w
def yM(S:K->Prop):N MF->wP->Prop
 |[],_=>XS
 |f::r,w=>f.p S w/\yM S r w
def zE.keep{S:K->Prop}{w w':wP}(k:yA S w w'):∀{Γ:N FF},zE S Γ w->zE S Γ w'
 |[],_=>trivial
 |f::_,h=>⟨f.keep h.1 k,zE.keep k h.2⟩
def zE.sub{S a:K->Prop}{w:wP}(b:∀k,k<w.heap.size->S k->a k):∀{Γ:N FF},zE S Γ w->zE a Γ w
 |[],_=>trivial
 |f::_,h=>⟨f.sub h.1 b,zE.sub b h.2⟩
def zE.append{S:K->Prop}{w:wP}:∀{Γ Δ:N FF},zE S Γ w->zE S Δ w->zE S (Γ++Δ) w
 |[],_,_,h=>h
 |_::_,_,h,k=>⟨h.1,zE.append h.2 k⟩
def yM.sub{S a:K->Prop}{w:wP}(b:∀k,k<w.heap.size->S k->a k):∀{Γ:N MF},yM S Γ w->yM a Γ w
 |[],_=>trivial
 |f::_,h=>⟨f.sub h.1 b,yM.sub b h.2⟩
def yM.keep{S:K->Prop}{w w':wP}(k:yA S w w'):∀{Γ:N MF},(∀m∈Γ,∀i,m.blk i->w'.heap[i]? =w.heap[i]?)->yM S Γ w->yM S Γ w'
 |[],_,_=>trivial
 |f::_,a,h=>⟨f.keep h.1 k<|a f<|H1,yM.keep k (λm b=>a m<|UV _ b) h.2⟩
def yM.lt{S:K->Prop}{w:wP}:∀{Γ:N MF},yM S Γ w->∀m∈Γ,∀i,m.blk i->i<w.heap.size
 |_::_,h,m,hm,i,hi=>by
  obtain rfl|hm:=xaf.1 hm
  ·exact m.lt h.1 i hi
  ·exact yM.lt h.2 m hm i hi
def Qw:N MF->Prop
 |[]=>XS
 |m::r=>(∀k,m.blk k->∀m'∈r,¬m'.blk k)/\Qw r
def St(we:wP)(Se:K->Prop)(ms:N MF)(Γ:N FF)(w:wP):Prop:=
 K7 we w/\(∀k,we.heap.size<=k->Se k)/\Qw ms/\∃S:K->Prop,(∀k,S k->Se k)/\(∀k,w.heap.size<=k->S k)/\(∀m∈ms,∀k,m.blk k->¬S k/\we.heap.size<=k)/\
  yM S ms w/\zE S Γ w
section
variable{we:wP}{Se:wr->Prop}{ms:xS MF}{Γ Δ:xS FF}{w w':wP}
def St.ext(h:St we Se ms Γ w)(x:K7 w w'):St we Se ms Γ w':=by
 have⟨h1,b,c,S,d,e,f,a,g⟩:=h
 exact⟨h1.trans x,b,c,S,d,λk j=>e k<|xap x.size j,f,
  yM.keep x.to (λm l i hi=>x.block i (yM.lt a m l i hi) wR) a,zE.keep x.to g⟩
def St.step(h:St we Se ms Γ w)(x:K7 w w')(n:∀S:K->Prop,(∀k,w.heap.size<=k->S k)->zE S Γ w->zE S Δ w'):St we Se ms Δ w':=by
 have⟨h1,c,d,S,e,a,f,b,g⟩:=h
 exact⟨h1.trans x,c,d,S,e,λk j=>a k<|xap x.size j,f,
  yM.keep x.to (λm l i hi=>x.block i (yM.lt b m l i hi) wR) b,n S a g⟩
theorem St.weak(h:St we Se ms Γ w)(n:∀(S:K->Prop) (w:wP),zE S Γ w->zE S Δ w):St we Se ms Δ w:=
 h.step (yA.refl _ _) λS _=>n S w
def St.ex(h:St we Se ms Γ w):∃S:K->Prop,(∀k,w.heap.size<=k->S k)/\zE S Γ w:=
 let⟨_,_,_,S,_,a,_,_,b⟩:=h;⟨S,a,b⟩
def Gh:∀{ms:N MF} (i:K) (m':MF),Qw ms->(∀m,ms[i]? =Z m->m'.blk=m.blk)->Qw (ms.set i m')
 |[],_,_,h,_=>by simpa using h
 |m::r,0,m',h,a=>by
  have:=a m O;exact⟨λk b=>h.1 k (by rw[<-this];exact b),h.2⟩
 |m::r,i+1,m',h,a=>by
  refine⟨λk b g d=> ?_,Gh i m' h.2<|λm f=>a m<|by simpa using f⟩;obtain⟨j,c,rfl⟩:=xcK d;rw[xfO];rw[xbj]at c;split
  ·rename_i e;subst e;rw[a r[i]<|by simp[c]];exact h.1 k b _<|xbQ _
  ·exact h.1 k b _<|xbQ _
theorem yM.get{S:K->Prop}:∀{ms:N MF}{i:K}{m:MF},yM S ms w->ms[i]? =Z m->m.p S w
 |_::_,0,_,h,e=>by simp only[xby,xat]at e;exact e▸h.1
 |_::_,_+1,_,h,e=>yM.get h.2<|by simpa using e
def dp:∀{ms:N MF}{i:K}{m:MF},Qw ms->ms[i]? =Z m->∀k,m.blk k->∀(j:K) (m':MF),j≠i->ms[j]? =Z m'->¬m'.blk k
 |m0::r,0,m,h,e,k,b,j,m',c,a=>by
  simp only[xby,xat]at e;subst e;obtain⟨j,rfl⟩:∃d,j=d+1:=⟨j-1,W⟩;exact h.1 k b m'<|xbp<|by simpa using a
 |m0::r,i+1,m,h,e,k,b,0,m',c,a=>by
  simp only[xby,xat]at a;subst a;exact λhc=>h.1 k hc m (xbp<|by simpa using e) b
 |m0::r,i+1,m,h,e,k,b,j+1,m',c,a=>
  dp h.2 (by simpa using e) k b j m' W (by simpa using a)
def Ra{S:K->Prop}{b:K}(x:yA (λk=>k≠b) w w'):∀{ms:N MF} (i:K) (m':MF),(∀k,S k->k≠b)->m'.p S w'->
 (∀(j:K) (m:MF),j≠i->ms[j]? =Z m->¬m.blk b)->yM S ms w->yM S (ms.set i m') w'
 |[],_,_,_,_,_,_=>trivial
 |m::r,0,m',c,f,d,h=>by
  refine⟨f,yM.keep (x.weak λk _ a=>c k a) (λl g k a=> ?_) h.2⟩;obtain⟨j,n,rfl⟩:=xcK g;exact x.block k (yM.lt h.2 _ (xbQ _) k a)<|λe=>d (j+1) r[j] W (by simp[n])<|e▸a
 |m::r,i+1,m',c,f,d,h=>by
  refine⟨m.keep h.1 (x.weak λk _ a=>c k a)<|λk a=>x.block k (m.lt h.1 k a)<|λe=>d 0 m W O<|e▸a,?_⟩;exact Ra x i m' c f (λj l n g=>d (j+1) l W<|by simpa using g) h.2
def St.write{i:K}{m m':MF}{b:K}(h:St we Se ms Γ w)(hi:ms[i]? =Z m)(q:m.blk=λk=> @Z K b=Z k)(hd:m'.blk=λk=> @Z K b=Z k)(x:yA (λk=>k≠b) w w')
 (n:∀S:K->Prop,(∀k,S k->k≠b)->m.p S w->zE S Γ w->m'.p S w'):St we Se (ms.set i m') Γ w':=by
 have⟨h1,c,r,S,u,v,d,s,t⟩:=h;have f:m.blk b:=by rw[q]
 have l:∀k,S k->k≠b:=λk a e=>(d m (xbp hi) b f).1<|e▸a;refine⟨h1.behind x (λk a e=>by have:=(d m (xbp hi) b f).2;lia),c,Gh i m' r<|λo c=> ?_,S,u,λk a=>v k<|xap x.size a,?_,?_,?_⟩
 ·rw[hi]at c;cases c;rw[q,hd]
 ·intro o hc k a;obtain⟨j,g,rfl⟩:=xcK hc;rw[xfO]at a;rw[xbj]at g;split at a
  ·rw[hd]at a;cases a;exact d m (xbp hi) b f
  ·exact d _ (xbQ g) k a
 ·exact Ra x i m' l (n S l (yM.get s hi) t) (λj o g hc=>dp r hi b f j o g hc) s
 ·exact zE.keep (x.weak λk _ a=>l k a) t
def St.fresh{m:MF}(h:St we Se ms Γ w)(x:K7 w w')(c:m.blk=λk=>Z w.heap.size=Z k)(hd:w.heap.size<w'.heap.size)
 (n:∀S:K->Prop,(∀k,w.heap.size<=k->S k)->zE S Γ w->m.p (λk=>S k/\k≠w.heap.size) w'):St we Se (m::ms) Γ w':=by
 have⟨h1,j,l,S,o,d,e,b,f⟩:=h;have g:∀k,k<w.heap.size->S k->S k/\k≠w.heap.size:=λk a q=>⟨q,W⟩;refine⟨h1.trans x,j,⟨λk a m' hm' hc=> ?_,l⟩,λk=>S k/\k≠w.heap.size,λk a=>o k a.1,λk a=>⟨d k W,W⟩,?_,⟨n S d f,?_⟩,?_⟩
 ·rw[c]at a;cases a;have:=yM.lt b m' hm' _ hc;lia
 ·intro m' hm' k a;obtain rfl|hm':=xaf.1 hm'
  ·rw[c]at a;cases a;exact⟨λhc=>hc.2 O,h1.size⟩
  ·exact⟨λhc=>(e m' hm' k a).1 hc.1,(e m' hm' k a).2⟩
 ·exact yM.keep x.to (λm' hm' i hi=>x.block i (yM.lt b m' hm' i hi) wR)<|yM.sub g b
 ·exact zE.keep x.to<|zE.sub g f
def Ke:∀{ms:N MF} (i:K),Qw ms->Qw (ms.eraseIdx i)
 |[],_,h=>by simpa using h
 |_::_,0,h=>h.2
 |m::r,i+1,h=>⟨λk a m' b=>h.1 k a m'<|xdP b,Ke i h.2⟩
def aA{S:K->Prop}:∀{ms:N MF} (i:K),yM S ms w->yM S (ms.eraseIdx i) w
 |[],_,h=>by simpa using h
 |_::_,0,h=>h.2
 |_::_,i+1,h=>⟨h.1,aA i h.2⟩
def St.freeze{i:K}{m:MF}{F:FF}(h:St we Se ms Γ w)(hi:ms[i]? =Z m)
 (n:∀S a:K->Prop,(∀k,S k->a k)->(∀k,m.blk k->a k)->m.p S w->F.p a w):St we Se (ms.eraseIdx i) (F::Γ) w:=by
 have⟨h1,d,e,S,g,l,b,f,o⟩:=h;have q:=xbp hi;refine⟨h1,d,Ke i e,λk=>S k\/m.blk k,?_,λk hk=> .inl<|l k hk,?_,yM.sub (λk _ hk=> .inl hk)<|aA i f,n S _ (λk hk=> .inl hk) (λk hk=> .inr hk)<|yM.get f hi,zE.sub (λk _ hk=> .inl hk) o⟩
 ·rintro k (hk|hk)
  ·exact g k hk
  ·exact d k (b m q k hk).2
 ·intro m' c k hk;refine⟨?_,(b m' (xdP c) k hk).2⟩;rintro(hc|hc)
  ·exact(b m' (xdP c) k hk).1 hc
  ·have⟨j,r,hd⟩:=List.mem_eraseIdx_iff_getElem?.1 c;exact dp e hi k hc j m' r hd hk
def St.drop{i:K}(h:St we Se ms Γ w):St we Se (ms.eraseIdx i) Γ w:=by
 have⟨h1,a,b,S,c,d,e,f,g⟩:=h;exact⟨h1,a,Ke i b,S,c,d,λm' j=>e m'<|xdP j,aA i f,g⟩
def St.nil(h:zE Se Γ we)(a:∀k,we.heap.size<=k->Se k):St we Se [] Γ we:=
 ⟨yA.refl _ _,a,wR,Se,λ_ h=>h,a,λ_ h=>wS h Nm,wR,h⟩
end
abbrev y7:=K->wN
def L:N (K×wN)->y7->y7
 |[],r,t=>r t
 |(k,v)::l,r,t=>bif E t k then v else L l r t
def put(env:y7):V Z5->wN->y7
 |some d,v=>L [(d,v)] env
 |none,_=>env
def yJ(a:Kw):y7:=λt=>a.tmps.getD t uT
def ev(env:y7):wW->wN
 |.tmp t=>env t
 |.const v=>v
 |.global g=> .pointer<|some ⟨g,0,wF⟩
 |.func f=> .func (.func f) #[] #[]
def zdY(env:y7):N (K×wN)->N wN
 |[]=>[]
 |(k,_)::l=>env k::zdY env l
def NU:N (K×wN)->N wN
 |[]=>[]
 |(_,v)::l=>v::NU l
def Kl(env:y7)(l:N (K×wN)):Prop:=zdY env l=NU l
def Ew{env:y7}{k:K}{v:wN}{l:N (K×wN)}(h:env k=v)(a:Kl env l):Kl env ((k,v)::l):=by
 show env k::zdY env l=v::NU l;rw[h,show zdY env l=NU l from a]
def oM{env:y7}{k:K}{v:wN}{l:N (K×wN)}(h:Kl env ((k,v)::l)):env k=v/\Kl env l:=by
 have h1:env k::zdY env l=v::NU l:=h;exact List.cons.inj h1
def be{env:y7}:∀{live:N (K×wN)},Kl env live->L live env=env
 |[],_=>rfl
 |(k,v)::l,h=>by
  funext t;have a:=Wn (be (oM h).2) t;simp only[L];cases b:E t k
  ·simpa using a
  ·simp only[Z2];rw[xcL b];exact(oM h).1.symm
def fZ(a:Kw):a.eval=ev (yJ a):=by funext x;cases x<;>rfl
def X6{a:Kw}{d:V Z5}{v:wN}(h:∀t,d=Z t->t<a.tmps.size):yJ (a.put d v)=put (yJ a) d v:=by
 cases d with
 |none=>rfl
 |some d=>
  funext t;have hd:=h d O;simp only[yJ,Act.put,put,L,xbl,Array.getElem?_setIfInBounds];cases b:E t d
  ·have:d≠t:=λe=>by subst e;simp at b
   simp[this]
  ·rw[xcL b];simp[hd]
def Uq(a:Kw)(d:V Z5)(v:wN):(a.put d v).tmps.size=a.tmps.size:=by cases d<;>simp[Act.put]
def XU(a:Kw)(d:V Z5)(v:wN):(a.put d v).defers=a.defers:=by cases d<;>rfl
abbrev Qs:=ce->y7->wP->Prop
structure Nd where
 n:K
 ds:N Deferred
 rd:V K
abbrev Nd.of(n:K):Nd:=⟨n,[],wF⟩
abbrev Nd.F(N:Nd):Fence:={xgh with round:=N.rd}
def zcV(N:Nd)(Q:Qs):ce->Kw->wP->Prop:=λe a w=>a.tmps.size=N.n/\a.defers=N.ds/\Q e (yJ a) w
def Wp(P:jP)(N:Nd)(c:Wr)(Q:Qs)(env:y7)(w:wP):Prop:=
 ∀a:Kw,a.tmps.size=N.n->a.defers=N.ds->yJ a=env->c.wpIn N.F 0 P (zcV N Q) a w
def znZ(K:y7->wP->Prop)(Q:Qs):Qs
 |.normal,env,w=>K env w
 |e,env,w=>Q e env w
def T(P:jP)(N:Nd)(we:wP)(Se:K->Prop)(ms:xS MF)(Γ:xS FF)(c:Wr)(Q:Qs)(env:y7):Prop:=
 ∀w,St we Se ms Γ w->Wp P N c Q env w
section
variable{P:jP}{N:Nd}{we:wP}{Se:wr->Prop}{ms:xS MF}{Γ:xS FF}{Q:Qs}{env:y7}
def Vp{x y:Wr}(h:T P N we Se ms Γ x (znZ (Wp P N y Q) Q) env):T P N we Se ms Γ (.seq x y) Q env:=by
 intro w c a h1 d f;refine wpIn_seq<|V0 (h w c a h1 d f) ?_;intro e g w' ⟨q1,q2,b⟩;cases e<;>first|exact b g q1 q2 O|exact⟨q1,q2,b⟩
def H6(h:∀w,St we Se ms Γ w->Q .normal env w):T P N we Se ms Γ .skip Q env:=
 λw a _ h1 b c=>wpIn_skip ⟨h1,b,c▸h w a⟩
def zbe(h:∀w,St we Se ms Γ w->Q .ret env w):T P N we Se ms Γ .ret Q env:=
 λw a _ h1 b c=>wpIn_ret ⟨h1,b,c▸h w a⟩
def J6{c:wW}{x y:Wr}(hc:ev env c=.bool wL)(h:T P N we Se ms Γ x Q env):T P N we Se ms Γ (.cond c x y) Q env:=
 λw d a h1 e b=>wpIn_cond_true (by rw[fZ,b];exact hc)<|h w d a h1 e b
def Q1{c:wW}{x y:Wr}(hc:ev env c=.bool I)(h:T P N we Se ms Γ y Q env):T P N we Se ms Γ (.cond c x y) Q env:=
 λw d a h1 e b=>wpIn_cond_false (by rw[fZ,b];exact hc)<|h w d a h1 e b
def zlG{c:wW}{x y:Wr}(b:qR)(hc:ev env c=.bool b)(h:b=wL->T P N we Se ms Γ x Q env)(a:b=I->T P N we Se ms Γ y Q env):T P N we Se ms Γ (.cond c x y) Q env:=by
 cases b
 ·exact Q1 hc<|a O
 ·exact J6 hc<|h O
structure Inv where
 ms:xS MF
 Γ:xS FF
 live:xS (K×wN)
def TT{F:Fence}{n:K}{c:Wr}{Q:ce->Kw->wP->Prop}{a:Kw}{w:wP}{G:Type}(J:G->Kw->wP->Prop)(t:G->K)(h:G)(p:J h a w)
 (round:∀g a w,J g a w->c.wpIn F n P (Exit.then (λo w'=>∃z,J z o w'/\t z<t g) Q) a w):(Code.loop c).wpIn F n P Q a w:=by
 intro b k cs hd u v
 have y:∀n g a w,t g=n->J g a w->
  ∃e o w',Q e o w'/\ArrivesIn (Machine.fenced P F) P (lone (b.atR a (.code c::.inLoop c::k)) cs w) b k cs e o w':=by
  intro n
  induction n using xdG with
  |_ n A=>
   intro g a w hn B;have⟨e,d,f,i,j⟩:=round g a w B b (.inLoop c::k) cs hd u v
   cases e with
   |normal=>
    have⟨m,C,D⟩:=i;have⟨q,r,s,E,hc⟩:=A (t m) (hn▸D) m d f O C;exact⟨q,r,s,E,.of_steps (StepsIn.trans j (.one (bi u v O) stepR_inLoop)) hc⟩
   |exit id=>exact⟨_,d,f,i,.pass (x:=.inLoop c) O (λ_ _=> .inl i7) j⟩
   |goto l=>exact⟨_,d,f,i,.pass (x:=.inLoop c) O (λ_ _=> .inl i7) j⟩
   |ret=>exact⟨_,d,f,i,.pass (x:=.inLoop c) O (λ_ _=> .inl i7) j⟩
   |panic H=>exact⟨_,d,f,i,.pass (x:=.inLoop c) O (λ_ _=> .inl i7) j⟩
   |outgrown=>exact⟨_,d,f,i,.pass (x:=.inLoop c) O (λ_ _=> .inl i7) j⟩
 have⟨e,o,w',i,j⟩:=y _ h a w O p;exact⟨e,o,w',i,.of_steps (.one (bi u v O) stepR_loop) j⟩
end
def FnQ{U:Type}(Se:K->Prop)(w:wP)(b:U->wN)(a:U->N FF)(ok:U->Prop):Ending->wP->Prop:=
 λe w'=>∃u,e=.returned (b u)/\ok u/\K7 w w'/\zE Se (a u) w'
def Fn{U:Type}(P:jP)(f:Z4)(args:uL wN)(Γ:N FF)(b:U->wN)(a:U->N FF)(ok:U->Prop):Prop:=
 ∀w Se,(∀k,w.heap.size<=k->Se k)->zE Se Γ w->UP P f args w (FnQ Se w b a ok)
def zlL{U:Type}(P:jP)(fn:JP)(we:wP)(Se:K->Prop)(c:U->wN)(b:U->N FF)(ok:U->Prop):Qs
 |.ret,env,w|.normal,env,w=>∃u,(∀a:Kw,yJ a=env->(Jp fn a.tmps).run P w=.ok (c u) w)/\ok u/\K7 we w/\zE Se (b u) w
 |_,_,_=>QR
def CW(args:uL wN)(n:K):yJ ⟨args++xeL n uT,[]⟩=λt=>args.getD t uT:=by
 funext t;simp only[yJ,xbl,Array.getElem?_append];split
 ·rfl
 ·rename_i h;rw[Array.getElem?_eq_none (xs:=args) W,Array.getElem?_replicate];split<;>rfl
def lU:∀(l:N wN) (k:K) (env:y7),(∀j,env (k+j)=l.getD j uT)->Kl env ((l.zipIdx k).map λx=>(x.2,x.1))
 |[],_,_,_=>rfl
 |v::l,k,env,h=>Ew (by simpa using h 0)<|lU l (k+1) env (λj=>by have:=h<|j+1;simpa[xcH,xdW 1 j]using this)
def Ny{U:Type}{P:jP}{f:Z4}{args:N wN}{Γ:N FF}{b:U->wN}{a:U->N FF}{ok:U->Prop}{fn:JP}{c:Wr}
 (m:P.funcs[f]? =Z fn) (o:fn.body=Z c) (hn:xgg (X args) fn.ntmps=wL)
 (h:∀we Se rest,T P (Nd.of fn.ntmps) we Se [] Γ c (zlL P fn we Se b a ok)<|L ((args.zipIdx 0).map λx=>(x.2,x.1)) rest):Fn P f args.toArray Γ b a ok:=by
 intro w Se p d;have hn:=xbK hn;refine calls_of_wp m o<|(wpIn_wide (n:=0)).1 ?_;have hc:Kl (yJ ⟨args.toArray++xeL (fn.ntmps-args.toArray.size) uT,[]⟩) ((args.zipIdx 0).map λx=>(x.2,x.1)):=by
  refine lU args 0 _ λj=> ?_;rw[CW];simp[xbl,FS]
 refine V0 (h w Se _ w (St.nil d p) _ (by simp;lia) O (be hc).symm) ?_;intro e l w' ⟨q1,q2,g⟩;cases e<;>simp only[zlL]at g
 ·have⟨u,r1,r2,i,k⟩:=g;exact⟨q2,_,r1 l O,u,O,r2,i,k⟩
 ·have⟨u,r1,r2,i,k⟩:=g;exact⟨q2,_,r1 l O,u,O,r2,i,k⟩
section
variable{P:jP}{we:wP}{Se:wr->Prop}{ms:xS MF}{Γ:xS FF}{env:y7}{U:Type}{val:U->wN}{facts:U->xS FF}{ok:U->Prop}{fn:JP}
def St.out{Δ:N FF}{w:wP}(h:St we Se ms Γ w)(n:∀(S:K->Prop) (w:wP),zE S Γ w->zE S Δ w):K7 we w/\zE Se Δ w:=by
 have⟨h1,c,d,S,a,e,f,g,b⟩:=h;exact⟨h1,zE.sub (λk _=>a k)<|n S w b⟩
def zjQ{t:Z5}(u:U)(b:fn.results= #[.tmp t])(hv:env t=val u)(hc:ok u)(n:∀(S:K->Prop) (w:wP),zE S Γ w->zE S (facts u) w):
 ∀w,St we Se ms Γ w->zlL P fn we Se val facts ok .ret env w:=by
 intro w c;refine⟨u,λa d=> ?_,hc,c.out n⟩;rw[<-hv,<-d];simp[Jp,b,yJ]
def Dy(tmps:uL wN):WP->Sem wN
 |.tmp t=>pure<|tmps.getD t uT
 |.cell a t=>do eX t (<-asAddr (tmps.getD a uT))
end
end
section
structure zW(α:Type)where
 n:K
 agg:qR
 n1:agg=I->n=1
 p:(K->Prop)->α->N wN->wP->Prop
 len:∀{S x cs w},p S x cs w->cs.length=n
 one:∀{S x cs w},p S x cs w->∀c∈cs,c.oneCell'=wL
 keep:∀{S x cs w w'},p S x cs w->yA S w w'->p S x cs w'
 sub:∀{S S':K->Prop}{x cs w},p S x cs w->(∀k,k<w.heap.size->S k->S' k)->p S' x cs w
def zW.val{α:Type}(e:zW α)(cs:N wN):wN:=if e.agg then .agg cs.toArray else cs.headD uT
def zW.val_cells{α:Type}(e:zW α){S:K->Prop}{x:α}{cs:N wN}{w:wP}(h:e.p S x cs w):(e.val cs).cells.toList=cs:=by
 unfold zW.val;cases a:e.agg
 ·have hl:=e.len h;rw[e.n1 a]at hl;obtain⟨c,rfl⟩:=xcG.1 hl;have:=e.one h c i7;cases c<;>simp_all [xfA,Value.oneCell']
 ·simp[xfA]
def fV{α:Type}(e:zW α)(x:α)(v:wN):FF where
 p S w:=∃cs,v=e.val cs/\e.p S x cs w
 keep:=λ⟨cs,h1,a⟩ k=>⟨cs,h1,e.keep a k⟩
 sub:=λ⟨cs,h1,a⟩ k=>⟨cs,h1,e.sub a k⟩
def eI:zW J where
 n:=1
 agg:=I
 n1 _:=O
 p _ x cs _:=cs=[.int .i64 x]/\ -9223372036854775808<=x/\x<=9223372036854775807
 len h:=by simp[h.1]
 one h:=by intro c hc;rw[h.1]at hc;simp at hc;subst hc;rfl
 keep h _:=h
 sub h _:=h
def eU:zW K where
 n:=1
 agg:=I
 n1 _:=O
 p _ x cs _:=cs=[.int .u64 (x:J)]/\x<18446744073709551616
 len h:=by simp[h.1]
 one h:=by intro c hc;rw[h.1]at hc;simp at hc;subst hc;rfl
 keep h _:=h
 sub h _:=h
def Pc:zW qR where
 n:=1
 agg:=I
 n1 _:=O
 p _ x cs _:=cs=[.bool x]
 len h:=by simp[h]
 one h:=by intro c hc;rw[h]at hc;simp at hc;subst hc;rfl
 keep h _:=h
 sub h _:=h
def Zc{α:Type}{e:zW α}{S:K->Prop}{x:α}{v:wN}{w:wP}(h:(fV e x v).p S w):e.p S x v.cells.toList w:=by
 obtain⟨cs,rfl,h⟩:=h;rw[e.val_cells h];exact h
def zof{α:Type}{e:zW α}{S:K->Prop}{x:α}{cs:N wN}{w:wP}(h:e.p S x cs w):(fV e x<|e.val cs).p S w:=⟨cs,O,h⟩
def zlF{x:J}{v:wN}{S:K->Prop}{w:wP}(h:(fV eI x v).p S w):v=.int .i64 x/\ -9223372036854775808<=x/\x<=9223372036854775807:=by
 obtain⟨cs,rfl,rfl,h⟩:=h;exact⟨O,h⟩
def zdJ{x:K}{v:wN}{S:K->Prop}{w:wP}(h:(fV eU x v).p S w):v=.int .u64 (x:J)/\x<18446744073709551616:=by
 obtain⟨cs,rfl,rfl,h⟩:=h;exact⟨O,h⟩
def nT{x:qR}{v:wN}{S:K->Prop}{w:wP}(h:(fV Pc x v).p S w):v=.bool x:=by
 obtain⟨cs,rfl,rfl⟩:=h;rfl
def wX{x:J}{S:K->Prop}{w:wP}(h: -9223372036854775808<=x/\x<=9223372036854775807):(fV eI x (.int .i64 x)).p S w:=⟨_,O,O,h⟩
def jS{x:K}{S:K->Prop}{w:wP}(h:x<18446744073709551616):(fV eU x (.int .u64 (x:J))).p S w:=⟨_,O,O,h⟩
def Bt{x:qR}{S:K->Prop}{w:wP}:(fV Pc x (.bool x)).p S w:=⟨_,O,O⟩
def yK{α:Type}(e:zW α)(S:K->Prop):N α->N wN->wP->Prop
 |[],cs,_=>cs=[]
 |x::xs,cs,w=>∃c r,cs=c++r/\e.p S x c w/\yK e S xs r w
section
variable{α:Type}{e:zW α}{S S':wr->Prop}{w w':wP}
def yK.len:∀{xs:N α}{cs:N wN},yK e S xs cs w->X cs=X xs*e.n
 |[],_,h=>by simp[show _=[]from h]
 |x::xs,_,⟨c,r,h,hc,a⟩=>by rw[h,xaw,e.len hc,yK.len a,xax,xbf,xdW];simp
def yK.one:∀{xs:N α}{cs:N wN},yK e S xs cs w->∀c∈cs,c.oneCell'=wL
 |[],_,h=>by simp[show _=[]from h]
 |x::xs,_,⟨c,r,h,hc,a⟩=>by
  intro d hd;rw[h]at hd;obtain hd|hd:=So.1 hd
  ·exact e.one hc d hd
  ·exact yK.one a d hd
def yK.keep(k:yA S w w'):∀{xs:N α}{cs:N wN},yK e S xs cs w->yK e S xs cs w'
 |[],_,h=>h
 |_::_,_,⟨c,r,h,hc,a⟩=>⟨c,r,h,e.keep hc k,yK.keep k a⟩
def yK.sub(k:∀k,k<w.heap.size->S k->S' k):∀{xs:N α}{cs:N wN},yK e S xs cs w->yK e S' xs cs w
 |[],_,h=>h
 |_::_,_,⟨c,r,h,hc,a⟩=>⟨c,r,h,e.sub hc k,yK.sub k a⟩
def yK.append:∀{xs ys:N α}{cs ds:N wN},yK e S xs cs w->yK e S ys ds w->yK e S (xs++ys) (cs++ds) w
 |[],_,_,_,h,k=>by rw[show _=[]from h];exact k
 |_::_,_,_,_,⟨c,r,h,hc,a⟩,k=>⟨c,r++_,by rw[h,xad],hc,yK.append a k⟩
def yK.drop:∀{xs:N α}{cs:N wN} (k:K),yK e S xs cs w->yK e S (xs.drop k) (cs.drop<|k*e.n) w
 |[],cs,k,h=>by simp[show cs=[]from h];exact O
 |x::xs,cs,0,h=>by simpa using h
 |x::xs,_,k+1,⟨c,r,h,hc,a⟩=>by
  have:=yK.drop k a;rw[List.drop_succ_cons,h,xbf,xcz,xdW,<-List.drop_drop];rwa[xfl<|e.len hc]
def yK.take:∀{xs:N α}{cs:N wN} (k:K),yK e S xs cs w->yK e S (xs.take k) (cs.take<|k*e.n) w
 |[],cs,k,h=>by simp[show cs=[]from h];exact O
 |x::xs,cs,0,h=>by simp;exact O
 |x::xs,_,k+1,⟨c,r,h,hc,a⟩=>by
  refine⟨c,r.take<|k*e.n,?_,hc,yK.take k a⟩;rw[h,xbf,xcz,xdW,List.take_append,e.len hc,xaQ<|by rw[e.len hc];lia];congr 2;lia
def yK.get{xs:N α}{cs:N wN}{i:K}{x:α}(h:yK e S xs cs w)(b:xs[i]? =Z x):
 ∃c,e.p S x c w/\∀j,j<e.n->cs[i*e.n+j]? =c[j]? :=by
 have hd:=h.drop i;obtain⟨hi,rfl⟩:=xar.1 b;rw[xcb hi]at hd;have⟨c,r,h1,a,f⟩:=hd;refine⟨c,a,λj d=> ?_⟩;rw[<-xfm,h1,xaX<|by rw[e.len a];exact d]
def yK.replicate{x:α}{c:N wN}(h:e.p S x c w):∀n,yK e S (xaa n x) (xaa n c).flatten w
 |0=>rfl
 |n+1=>⟨c,_,by simp[xdw],h,yK.replicate h n⟩
end
def At(w:wP)(b o:K)(cs:N wN):Prop:=b<w.heap.size/\∀j v,cs[j]? =Z v->w.cell? ⟨b,o+j,wF⟩=Z v
def At.keep{S:K->Prop}{w w':wP}{b o:K}{cs:N wN}(h:At w b o cs)(c:S b)(k:yA S w w'):At w' b o cs:=
 ⟨xah h.1 k.size,λj v hv=>by rw[World.cell?_of_block (a:=⟨b,o+j,wF⟩)<|k.block b h.1 c];exact h.2 j v hv⟩
def At.drop{w:wP}{b o:K}{cs:N wN}(h:At w b o cs)(k:K):At w b (o+k) (cs.drop k):=
 ⟨h.1,λj v hv=>by rw[xfm]at hv;have:=h.2 _ v hv;rwa[xcH]⟩
def At.take{w:wP}{b o:K}{cs:N wN}(h:At w b o cs)(k:K):At w b o (cs.take k):=
 ⟨h.1,λj v hv=>h.2 j v<|by rw[xcn]at hv;split at hv<;>simp_all⟩
def At.row{w:wP}{b:K}{cs:uL wN}{t:wT}{fr:K×K}(h:w.heap[b]? =Z (.cells cs t fr)):At w b 0 cs.toList:=
 ⟨(xbk.1 h).1,λj v hv=>by rw[cell_of_row w b (0+j) cs t fr h,xaK];simpa using hv⟩
def SlP{α:Type}(e:zW α)(S:K->Prop)(xs:N α)(v:wN)(w:wP):Prop:=
 ∃a cap,v=.slice a (X xs) cap/\X xs<=cap/\cap<=WS/\(xs=[]\/∃b o cs,a=Z ⟨b,o,wF⟩/\S b/\At w b o cs/\yK e S xs cs w)
def eS{α:Type}(e:zW α):zW (N α)where
 n:=1
 agg:=I
 n1 _:=O
 p S xs cs w:=∃v,cs=[v]/\SlP e S xs v w
 len:=λ⟨v,h,_⟩=>by simp[h]
 one:=λ⟨v,h,⟨a,cap,hv,_⟩⟩=>by intro c hc;rw[h]at hc;simp at hc;subst hc;rw[hv];rfl
 keep:=λ⟨v,h,⟨a,cap,h1,f,g,i⟩⟩ k=>⟨v,h,a,cap,h1,f,g,i.imp id λ⟨b,o,cs,j,d,a3,a4⟩=>⟨b,o,cs,j,d,a3.keep d k,a4.keep k⟩⟩
 sub:=λ⟨v,h,⟨a,cap,h1,f,g,i⟩⟩ k=>⟨v,h,a,cap,h1,f,g,i.imp id λ⟨b,o,cs,j,d,a3,a4⟩=>⟨b,o,cs,j,k b a3.1 d,a3,a4.sub k⟩⟩
def xT{α:Type}{e:zW α}{xs:N α}{v:wN}{S:K->Prop}{w:wP}:(fV (eS e) xs v).p S w↔SlP e S xs v w:=
 ⟨λ⟨_,h1,c,a,b⟩=>by subst a;rw[h1];exact b,λh=>⟨[v],O,v,O,h⟩⟩
def eP{α β:Type}(e:zW α)(f:zW β):zW (α×β)where
 n:=e.n+f.n
 agg:=wL
 n1 h:=by cases h
 p S x cs w:=∃c d,cs=c++d/\e.p S x.1 c w/\f.p S x.2 d w
 len:=λ⟨c,d,h,hc,hd⟩=>by rw[h,xaw,e.len hc,f.len hd]
 one:=λ⟨c,d,h,hc,hd⟩ x hx=>by
  rw[h]at hx;obtain hx|hx:=So.1 hx
  ·exact e.one hc x hx
  ·exact f.one hd x hx
 keep:=λ⟨c,d,h,hc,hd⟩ k=>⟨c,d,h,e.keep hc k,f.keep hd k⟩
 sub:=λ⟨c,d,h,hc,hd⟩ k=>⟨c,d,h,e.sub hc k,f.sub hd k⟩
def eA{α:Type}(k:K)(e:zW α):zW (N α)where
 n:=k*e.n
 agg:=wL
 n1 h:=by cases h
 p S xs cs w:=X xs=k/\yK e S xs cs w
 len:=λ⟨h,a⟩=>by rw[a.len,h]
 one:=λ⟨_,a⟩=>a.one
 keep:=λ⟨h,a⟩ k=>⟨h,a.keep k⟩
 sub:=λ⟨h,a⟩ k=>⟨h,a.sub k⟩
abbrev Zr:=qR×N K
def fP{α:Type}(e:zW α)(x:α)(v:wN):FF where
 p S w:=∃b o cs,v=.pointer (Z ⟨b,o,wF⟩)/\S b/\At w b o cs/\e.p S x cs w
 keep:=λ⟨b,o,cs,h1,a,c,d⟩ k=>⟨b,o,cs,h1,a,c.keep a k,e.keep d k⟩
 sub:=λ⟨b,o,cs,h1,a,c,d⟩ k=>⟨b,o,cs,h1,k b c.1 a,c,e.sub d k⟩
structure ru(α:Type)where
 p:(K->Prop)->α->N wN->wP->Prop
 keep:∀{S x cs w w'},p S x cs w->yA S w w'->p S x cs w'
 sub:∀{S S':K->Prop}{x cs w},p S x cs w->(∀k,k<w.heap.size->S k->S' k)->p S' x cs w
def zW.c{α:Type}(e:zW α):ru α:=⟨e.p,e.keep,e.sub⟩
def zo2{α:Type}(e:zW α):ru (N α):=⟨yK e,λh k=>h.keep k,λh k=>h.sub k⟩
def mB{α:Type}(e:ru α)(E:wT)(b:K)(x:α):MF where
 blk k:=Z b=Z k
 p S w:=∃cs:uL wN,w.heap[b]? =Z (.cells cs E (0,0))/\e.p S x cs.toList w
 keep:=λ⟨cs,h1,a⟩ k hb=>⟨cs,by rw[hb b O];exact h1,e.keep a k⟩
 sub:=λ⟨cs,h1,a⟩ k=>⟨cs,h1,e.sub a k⟩
 lt:=λ⟨cs,h1,_⟩ k c=>by cases c;exact(xbk.1 h1).1
abbrev mR{α:Type}(e:zW α)(E:wT)(b:K)(xs:N α):MF:=mB (zo2 e) E b xs
def mO{α:Type}(e:zW α)(E:wT)(v:wN)(xs:N α):MF where
 blk k:=v.ownBlock=Z k
 p S w:=∃cs,w.ownsRow 0 E e.n v (X xs) cs/\yK e S xs cs w
 keep:=λ⟨cs,h1,a⟩ k hb=>by
  refine⟨cs,⟨h1.1,?_⟩,a.keep k⟩;obtain h|⟨g,cap,b,hv,c,d,r⟩:=h1.2
  ·exact .inl h
  ·exact .inr ⟨g,cap,b,hv,c,by rw[hb g<|by rw[hv];rfl];exact d,r⟩
 sub:=λ⟨cs,h1,a⟩ k=>⟨cs,h1,a.sub k⟩
 lt:=λ⟨cs,h1,_⟩ k f=>(h1.lt k f).2
section
variable{α:Type}{e:zW α}{E:wT}{S S':wr->Prop}{w:wP}
def SlP.of_at{xs:N α}{b o n cap:K}{cs:N wN}(a:S b)(c:At w b o cs)(d:yK e S xs cs w)(hn:n=X xs)(hc:X xs<=cap)(f:cap<=WS):
 SlP e S xs (.slice (Z ⟨b,o,wF⟩) n cap) w:=⟨_,cap,by rw[hn],hc,f,.inr ⟨b,o,cs,O,a,c,d⟩⟩
def SlP.nil:SlP e S [] (.slice wF 0 0) w:=⟨wF,0,O,IR _,xan _,.inl O⟩
def zmW{x:α}{b:K}(a:∀k,S k->S' k)(d:S' b)(h:(mB e.c E b x).p S w):(fP e x (.pointer<|some ⟨b,0,wF⟩)).p S' w:=by
 have⟨cs,h1,f⟩:=h;exact⟨b,0,cs.toList,O,d,At.row h1,e.sub f λk _=>a k⟩
def nC{xs:N α}{v:wN}(a:∀k,S k->S' k)(b:∀k,v.ownBlock=Z k->S' k)(h:(mO e E v xs).p S w):(fV (eS e) xs v).p S' w:=by
 have⟨cs,h1,c⟩:=h;refine xT.2 ?_;rcases h1.2 with⟨rfl,h0⟩|⟨g,cap,d,rfl,hd,f,i,j,l,hc⟩
 ·have:xs=[]:=xbm h0;subst this;exact SlP.nil
 ·refine SlP.of_at (b g O) ((At.row f).take<|X xs*e.n) ?_ O i j;rw[hc];exact c.sub λk _=>a k
end
end
section
def Zj(P:jP)(o:Z0)(env:y7)(w:wP)(K:wN->wP->Prop):Prop:=
 match(kW (ev env) o).run P w with
 |.ok (.value v) w'=>K v w'
 |.ok .skip w'=>K uT w'
 |.ok (.enter f args) w'=>UP P f args w' (λe b=>∃v,e=.returned v/\K v b)
 |.ok (.round l f ts a c) w'=>RoundIn xgh 0 P l f ts a c w' (λe b=>∃v,e=.returned v/\K v b)
 |_=>QR
def zl9{ro:V K}{ρ:wW->wN}{o:Z0}{P:jP}{w:wP}(h:∀d w',(kW ρ o).run P w≠ .ok (.defer d) w')(e:∀r w',(kW ρ o).run P w≠ .halt r w'):(o.semAt ro ρ).run P w=(kW ρ o).run P w:=by
 by_cases hd:∃c,o.op=.defer c
 ·have⟨c,hc⟩:=hd;exfalso
  cases a:(kW ρ o).run P w with
  |halt r w'=>exact e r w' a
  |ok x w'=>
   unfold kW at a;rw[hc]at a;simp only[xay]at a
   cases b:(Wt ρ c o.type).run P w with
   |halt r w1=>rw[b]at a;simp[Result.andThen]at a
   |ok d w1=>
    rw[b]at a;simp only[xae,xaI]at a;cases a;refine h d w' ?_;unfold kW;rw[hc];simp only[xay,b,xae,xaI]
 ·rw[Oper.semAt_eq _ _ _ λc hc=>hd ⟨c,hc⟩]
def Zj.wp{P:jP}{o:Z0}{a:Kw}{w:wP}{K:wN->wP->Prop}{g:Kw->wP->Prop}{Q:ce->Kw->wP->Prop}{N:Nd}
 (h:Zj P o (yJ a) w K) (b:∀v w',K v w'->g (a.put o.dst v) w'):o.wpIn N.F 0 P a w g Q:=by
 unfold Zj at h;unfold Oper.wpIn;refine⟨λ_ _=>wR,?_⟩;have k:=zl9 (ro:=N.rd) (ρ:=ev<|yJ a) (o:=o) (P:=P) (w:=w) (λd w' e=>by rw[e]at h;exact h) (λr w' e=>by rw[e]at h;exact h);rw[fZ];show Oper.uponIn N.F 0 P o a g Q ((o.semAt N.rd<|ev<|yJ a).run P w);rw[k];generalize(kW (ev<|yJ a) o).run P w=r at*
 cases r with
 |ok n w'=>
  cases n<;>simp only at h<;>simp only[Oper.uponIn]
  case value v=>exact b _ _ h
  case skip=>exact b _ _ h
  case enter f args=>exact⟨λe=>by simp[Nd.F,xgh]at e,CallsIn.mono (callsIn_wide.2 h) λe i ⟨v,j,hv⟩=>by subst j;exact b _ _ hv⟩
  case round l f ts s c=>exact⟨λe=>by simp[Nd.F,xgh]at e,RoundIn.mono h λe i ⟨v,j,hv⟩=>by subst j;exact b _ _ hv⟩
 |halt x w'=>exact h.elim
def Zj.mono{P:jP}{o:Z0}{env:y7}{w:wP}{K g:wN->wP->Prop}(h:Zj P o env w K)(a:∀v w',K v w'->g v w'):Zj P o env w g:=by
 unfold Zj at*
 generalize(kW (ev env) o).run P w=r at*
 cases r with
 |ok n w'=>
  cases n<;>simp only at h⊢
  case value v=>exact a _ _ h
  case skip=>exact a _ _ h
  case enter f args=>exact h.mono λe b ⟨v,d,hv⟩=>⟨v,d,a _ _ hv⟩
  case round l f ts s c=>exact h.mono λe b ⟨v,d,hv⟩=>⟨v,d,a _ _ hv⟩
 |halt x w'=>exact h.elim
def Zj.of_value{P:jP}{o:Z0}{env:y7}{w w':wP}{v:wN}{K:wN->wP->Prop}(h:(kW (ev env) o).run P w=.ok (.value v) w')(a:K v w'):Zj P o env w K:=by
 unfold Zj;rw[h];exact a
def Zj.of_skip{P:jP}{o:Z0}{env:y7}{w w':wP}{K:wN->wP->Prop}(h:(kW (ev env) o).run P w=.ok .skip w')(a:K uT w'):Zj P o env w K:=by
 unfold Zj;rw[h];exact a
def gd(a:uL Z0)(env:y7)(j:K):V qR:=
 match(a[j]?).bind (·.dst)with
 |some d=>match env d with
  |.bool b=>Z b
  |_=>wF
 |none=>wF
def yV(b:uL Z0)(env:y7)(o:Z0):qR:=
 match o.guard with
 |none=>wL
 |some (j,a)=>gd b env j==Z a
theorem Sj(b:uL Z0)(a:Kw)(j:K):yielded b a.tmps j=gd b (yJ a) j:=by
 unfold yielded gd yJ
 cases(b[j]?).bind (·.dst)with
 |none=>rfl
 |some d=>
  simp only[Option.bind_some,xbl]
  cases a.tmps[d]? with
  |none=>rfl
  |some v=>cases v<;>rfl
def Jb(b:uL Z0)(a:Kw)(o:Z0):Region.wanted o (yielded b a.tmps)=yV b (yJ a) o:=by grind [Region.wanted,yV,Sj]
def jt(N:K):V Z5->qR
 |some d=>xdd d N
 |none=>wL
def UZ{N:K}{d:V Z5}(h:jt N d=wL):∀t,d=Z t->t<N:=by
 rintro t rfl;simpa[jt]using h
def WpL(P:jP)(N:Nd)(b:uL Z0)(l:xS Z0)(Q:Qs)(env:y7)(w:wP):Prop:=
 ∀a:Kw,a.tmps.size=N.n->a.defers=N.ds->yJ a=env->WF N.F 0 P b (zcV N Q) l a w
def TL(P:jP)(N:Nd)(we:wP)(Se:K->Prop)(ms:xS MF)(Γ:xS FF)(a:uL Z0)(l:xS Z0)(Q:Qs)(env:y7):Prop:=
 ∀w,St we Se ms Γ w->WpL P N a l Q env w
def MX{U:Type}(P:jP)(o:Z0)(env:y7)(ms:N MF)(Γ:N FF)(b:U->wN)(a:U->N FF)(ok:U->Prop):Prop:=
 ∀w (S:K->Prop),(∀k,w.heap.size<=k->S k)->yM S ms w->zE S Γ w->Zj P o env w (λv w'=>∃u,v=b u/\ok u/\K7 w w'/\zE S (a u) w')
section
variable{P:jP}{N:Nd}{we:wP}{Se:wr->Prop}{ms:xS MF}{Γ:xS FF}{Q:Qs}{env:y7}{ops:uL Z0}{o:Z0}{rest:xS Z0}
def vS{id:K}{l:xS Z0}(h:TL P N we Se ms Γ l.toArray l Q env):T P N we Se ms Γ (.region id l.toArray I) Q env:=
 λw b a h1 c d=>wpIn_region_lit<|h w b a h1 c d
def kS(h:∀w,St we Se ms Γ w->Q .normal env w):TL P N we Se ms Γ ops [] Q env:=
 λw a _ h1 b c=>wpListIn_nil ⟨h1,b,c▸h w a⟩
def zdX(live:xS (K×wN)){l:xS Z0}(h:Kl env live)(k:∀rest,TL P N we Se ms Γ ops l Q<|L live rest):TL P N we Se ms Γ ops l Q env:=by
 have:=k env;rwa[be h]at this
def zpW{p:Prop}{l:xS Z0}(hp:∀(S:K->Prop) (w:wP),zE S Γ w->p)(k:p->TL P N we Se ms Γ ops l Q env):TL P N we Se ms Γ ops l Q env:=
 λw a=>let⟨S,_,h⟩:=a.ex;k (hp S w h) w a
def zdG{p:Prop}{c:Wr}(hp:∀(S:K->Prop) (w:wP),zE S Γ w->p)(k:p->T P N we Se ms Γ c Q env):T P N we Se ms Γ c Q env:=
 λw a=>let⟨S,_,h⟩:=a.ex;k (hp S w h) w a
def zet(b:yV ops env o=wL)(hd:jt N.n o.dst=wL)
 (h:∀w,St we Se ms Γ w->Zj P o env w (λv w'=>WpL P N ops rest Q (put env o.dst v) w')):TL P N we Se ms Γ ops (o::rest) Q env:=by
 intro w c a h1 d e;subst e;unfold WF;rw[iq<|by rw[Jb];exact b];refine(h w c).wp λv w' f=> ?_;exact f _ (by rw[Uq];exact h1) (by rw[XU];exact d)<|X6<|by rw[h1];exact UZ hd
def zmq(b:yV ops env o=I)(hd:jt N.n o.dst=wL)(k:TL P N we Se ms Γ ops rest Q (put env o.dst uT)):TL P N we Se ms Γ ops (o::rest) Q env:=by
 intro w c a h1 d e;subst e;unfold WF;rw[ir<|by rw[Jb,b];exact Bool.false_ne_true];exact⟨λ_ _=>wR,k w c _ (by rw[Uq];exact h1) (by rw[XU];exact d)<|X6<|by rw[h1];exact UZ hd⟩
def zir{U:Type}{b:U->wN}{a:U->xS FF}{ok:U->Prop}(f:yV ops env o=wL)(hd:jt N.n o.dst=wL)
 (h:MX P o env ms Γ b a ok) (k:∀u,ok u->TL P N we Se ms (a u++Γ) ops rest Q (put env o.dst<|b u)):TL P N we Se ms Γ ops (o::rest) Q env:=by
 refine zet f hd λw g=> ?_;have⟨h1,j,l,S,p,d,q,c,e⟩:=g;refine(h w S d c e).mono ?_;rintro v w' ⟨u,rfl,r,x,s⟩
 exact k u r w' ⟨h1.trans x,j,l,S,p,λk t=>d k<|xap x.size t,q,
  yM.keep x.to (λm y i hi=>x.block i (yM.lt c m y i hi) wR) c,zE.append s<|zE.keep x.to e⟩
def ZL{v:wN}(a:yV ops env o=wL)(hd:jt N.n o.dst=wL)(h:∀w,(kW (ev env) o).run P w=.ok (.value v) w)
 (k:TL P N we Se ms Γ ops rest Q (put env o.dst v)):TL P N we Se ms Γ ops (o::rest) Q env:=
 zet a hd λw b=>Zj.of_value (h w)<|k w b
end
def OG{ι:Type}(P:jP)(o:Z0)(env:y7)(we:wP)(Se:K->Prop)(ms:N MF)(Γ:N FF)(a:ι->wN)(b:ι->N MF)(c:ι->N FF)(ok:ι->Prop):Prop:=
 ∀w,St we Se ms Γ w->Zj P o env w (λv w'=>∃i,v=a i/\ok i/\St we Se (b i) (c i) w')
section
variable{P:jP}{N:Nd}{we:wP}{Se:wr->Prop}{ms:xS MF}{Γ:xS FF}{Q:Qs}{env:y7}{ops:uL Z0}{o:Z0}{rest:xS Z0}
def zkW{ι:Type}{a:ι->wN}{b:ι->xS MF}{c:ι->xS FF}{ok:ι->Prop}(d:yV ops env o=wL)(hd:jt N.n o.dst=wL)(h:OG P o env we Se ms Γ a b c ok)
 (k:∀i,ok i->TL P N we Se (b i) (c i) ops rest Q (put env o.dst<|a i)):TL P N we Se ms Γ ops (o::rest) Q env:=
 zet d hd λw f=>(h w f).mono λv w' ⟨i,e,hi,g⟩=>e▸k i hi w' g
def NK{U:Type}{b:U->wN}{a:U->xS FF}{ok:U->Prop}(h:MX P o env ms Γ b a ok):OG P o env we Se ms Γ b (λ_=>ms) (λu=>a u++Γ) ok:=by
 intro w ⟨h1,g,j,S,l,d,n,c,f⟩;refine(h w S d c f).mono ?_;rintro v w' ⟨u,e,p,x,q⟩
 exact⟨u,e,p,h1.trans x,g,j,S,l,λk r=>d k<|xap x.size r,n,
  yM.keep x.to (λm s i hi=>x.block i (yM.lt c m s i hi) wR) c,zE.append q<|zE.keep x.to f⟩
end
def pv(o:Z0)(env:y7):V wN:=
 match o.op with
 |.move x|.assign x=>Z<|ev env x
 |.extract t i=>match ev env t with
  |.tuple vs=>vs[i]?
  |_=>wF
 |.pick c a b=>match ev env c with
  |.bool t=>Z<|bif t then ev env a else ev env b
  |_=>wF
 |.unOp .not _ x=>match ev env x with
  |.bool t=>Z (.bool !t)
  |_=>wF
 |.makeFunc f first d=>Z (.func f (first.map<|ev env)<|d.map<|ev env)
 |_=>wF
def fS{P:jP}{o:Z0}{env:y7}{v:wN}(h:pv o env=Z v)(w:wP):(kW (ev env) o).run P w=.ok (.value v) w:=by
 unfold pv at h;unfold kW;split at h
 ·next e=>simp_all
 ·next e=>simp_all
 ·next t i e=>
  simp only[e];split at h
  ·next vs hv=>simp[hv,Instr.extract,h]
  ·cases h
 ·next c a b e=>
  simp only[e];split at h
  ·next t ht=>cases h;cases t<;>simp[ht,asBool]
  ·cases h
 ·next ty x e=>
  simp only[e];split at h
  ·next t ht=>cases h;simp[ht,Op.unary]
  ·cases h
 ·next f a b e=>cases h;simp[e,Instr.makeFunc]
 ·cases h
def tC(N:K)(a:uL Z0):xS Z0->y7->V y7
 |[],env=>Z env
 |o::r,env=>bif jt N o.dst then(bif yV a env o then(match pv o env with
  |some v=>tC N a r<|put env o.dst v
  |none=>wF)else(match o.guard with
  |some (j,b)=>bif gd a env j==Z (!b)then tC N a r (put env o.dst uT)else wF
  |none=>wF))else wF
section
variable{P:jP}{N:Nd}{we:wP}{Se:wr->Prop}{ms:xS MF}{Γ:xS FF}{Q:Qs}{ops:uL Z0}
def aB:∀(l:xS Z0) (b:xS Z0) (env a:y7),tC N.n ops l env=Z a->TL P N we Se ms Γ ops b Q a->TL P N we Se ms Γ ops (l++b) Q env
 |[],_,env,a,h,k=>by cases h;exact k
 |o::r,b,env,a,h,k=>by
  unfold tC at h;cases hd:jt N.n o.dst
  ·rw[hd]at h;cases h
  ·rw[hd]at h;simp only[Z2]at h;cases d:yV ops env o
   ·rw[d]at h;simp only[Z3]at h;split at h
    ·next j c f=>
     cases e:(gd ops env j==Z (!c))
     ·rw[e]at h;cases h
     ·rw[e]at h;exact zmq d hd<|aB r b _ _ h k
    ·cases h
   ·rw[d]at h;simp only[Z2]at h
    cases hp:pv o env with
    |none=>rw[hp]at h;cases h
    |some v=>rw[hp]at h;exact ZL d hd (λw=>fS hp w)<|aB r b _ _ h k
def chk(env:V y7)(live:xS (K×wN)):Prop:=match env with
 |some env=>Kl env live
 |none=>QR
def HF(n:K)(live:xS (K×wN)){l:xS Z0}{env:y7}(h:chk (tC N.n ops (l.take n) env) live)(k:∀rest,TL P N we Se ms Γ ops (l.drop n) Q<|L live rest):TL P N we Se ms Γ ops l Q env:=by
 rw[<-xbv n l]
 cases hp:tC N.n ops (l.take n) env with
 |none=>rw[hp]at h;exact h.elim
 |some a=>
  rw[hp]at h;refine aB _ _ _ _ hp ?_;exact zdX live h k
end
structure Jf(P:jP)(t:wT)(agg:qR)(size bytes:K)(zero:wN):Prop where
 und:∃d,P.underlying t=Z d/\(match d with|.struct _|.array _ _=>wL|_=>I)=agg
 info:∃i,P.info? t=Z i/\i.size=size/\i.bytes=bytes/\i.zero=Z zero
def tyB(P:jP)(t:wT):V (qR×K×K×V wN):=
 match P.underlying t,P.info? t with
 |some d,Z i=>Z ((match d with|.struct _|.array _ _=>wL|_=>I),i.size,i.bytes,i.zero)
 |_,_=>wF
def Jf.of{P:jP}{t:wT}{agg:qR}{size bytes:K}{a:wN}(h:tyB P t=Z (agg,size,bytes,Z a)):Jf P t agg size bytes a:=by
 unfold tyB at h;split at h
 ·next d i hd hi=>
  simp only[xat,xcI]at h;exact⟨⟨d,hd,h.1⟩,i,hi,h.2.1,h.2.2.1,h.2.2.2⟩
 ·cases h
def qW(b o j:K):(⟨b,o,wF⟩:KW).add j=⟨b,o+j,wF⟩:=by unfold Addr.add;split<;>simp_all
def Gp{P:jP}{t:wT}{agg:qR}{size bytes:K}{a:wN}(ht:Jf P t agg size bytes a)(w:wP):(isAgg t).run P w=.ok agg w:=by
 have⟨⟨d,hd,b⟩,_⟩:=ht;unfold isAgg;simp only[xay,ul hd,xae];cases d<;>simp_all
def wv{P:jP}{t:wT}{agg:qR}{size bytes:K}{a:wN}(ht:Jf P t agg size bytes a)(w:wP):(WR t).run P w=.ok size w:=by
 have⟨_,i,hi,h1,_⟩:=ht;simp[WR,WW,hi,h1]
def uj{P:jP}{t:wT}{agg:qR}{size bytes:K}{a:wN}(ht:Jf P t agg size bytes a)(w:wP):(aM t).run P w=.ok a w:=by
 have⟨_,i,hi,_,_,h1⟩:=ht;simp[aM,WW,hi,h1]
def Mf{P:jP}{α:Type}{e:zW α}{t:wT}{bytes:K}{a:wN}(ht:Jf P t e.agg e.n bytes a){w w0:wP}{b o:K}{cs:N wN}{S:K->Prop}{x:α}
 (hp:e.p S x cs w0) (d:At w b o cs):(eX t ⟨b,o,wF⟩).run P w=.ok (e.val cs) w:=by
 unfold eX;rw[xay,Gp ht];simp only[xae];cases hd:e.agg
 ·have hl:=e.len hp;rw[e.n1 hd]at hl;obtain⟨c,rfl⟩:=xcG.1 hl;have:=d.2 0 c O;simp only[xbD]at this;simp[this,zW.val,hd]
 ·have hl:=e.len hp;have hc:=US (P:=P) w ⟨b,o,wF⟩ cs (λj v hv=>by rw[qW];exact d.2 j v hv);rw[hl]at hc;simp[wv ht,hc,zW.val,hd]
def cL{P:jP}{α:Type}{e:zW α}{t:wT}{bytes:K}{a:wN}(ht:Jf P t e.agg e.n bytes a){w:wP}{b o:K}{cs:N wN}{S:K->Prop}{x:α}
 (hp:e.p S x cs w) (c:At w b o cs):(eX t ⟨b,o,wF⟩).run P w=.ok (e.val cs) w:=Mf ht hp c
section
variable{P:jP}{env:y7}{ms:xS MF}{Γ:xS FF}{d:ww Z5}{ty:wT}{pos:String}{aft:uL Edge}{g:ww (wr×qR)}
def zmu{α:Type}{e:zW α}{xs:N α}{v:wN}{x:wW}{at_ b:wT}(c:P.underlying at_=Z (.slice b))(f:ev env x=v)(h:∀(S:K->Prop) (w:wP),zE S Γ w->(fV (eS e) xs v).p S w):
 MX P ⟨d,.call ⟨.builtin .len,#[x],#[at_]⟩,ty,pos,aft,g⟩ env ms Γ (λ_:Z9=> .int .i64 (X xs:J)) (λ_=>[]) (λ_=>X xs<=9223372036854775807):=by
 intro w S _ _ a;have⟨j,cap,hv,hc,i,_⟩:=xT.1<|h S w a;refine Zj.of_value (w':=w) (v:=.int .i64 (X xs:J)) ?_ ⟨(),O,xap hc i,yA.refl _ _,wR⟩;simp[kW,Wt,V2,UL,f,hv,Builtin.len_,fN,ul c]
def OX{α:Type}{e:zW α}{t c:wT}{bytes:K}{a:wN}(ht:P.underlying t=Z (.slice c))(f:Jf P c e.agg e.n bytes a){w:wP}{b o n cap k:K}
 (h:k<n) (ik:Xs):(Instr.indexAt t (.slice (Z ⟨b,o,wF⟩) n cap) (.int ik (k:J))).run P w=.ok (.pointer<|some ⟨b,o+k*e.n,wF⟩) w:=by
 unfold Instr.indexAt;have:(0:J)<=(k:J)/\(k:J)<(n:J):=W
 simp only[V6,ul ht,xay,xaI,xae,iq this,wv f,qW,xbe]
def zeB{α:Type}{e:zW α}{xs:N α}{v:wN}{x i:wW}{t l:wT}{bytes:K}{a:wN}{k:K}{y:α}{ik:Xs}(q:ev env x=v)(hi:ev env i=.int ik (k:J))
 (ht:P.underlying t=Z (.slice l)) (hd:Jf P l e.agg e.n bytes a) (f:xs[k]? =Z y) (r:∀(S:K->Prop) (w:wP),zE S Γ w->(fV (eS e) xs v).p S w):
 MX P ⟨d,.indexAddr t x i,ty,pos,aft,g⟩ env ms Γ (λp:wN=>p) (λp=>[fP e y p]) (λ_=>XS):=by
 intro w S _ _ h;have⟨D,cap,hv,h1,E,s⟩:=xT.1<|r S w h;have u:=(xar.1 f).1;obtain rfl|⟨b,o,cs,rfl,z,m,A⟩:=s
 ·simp at f
 ·refine Zj.of_value (w':=w) (v:=.pointer<|some ⟨b,o+k*e.n,wF⟩) ?_ ⟨_,O,wR,yA.refl _ _,⟨⟨b,o+k*e.n,?_⟩,wR⟩⟩
  ·simp[kW,q,hi,hv,OX ht hd u]
  ·have⟨c,hc,B⟩:=A.get f;refine⟨c,O,z,⟨m.1,λj v hv=> ?_⟩,hc⟩;have C:j<e.n:=by rw[<-e.len hc];exact(xar.1 hv).1
   rw[xcH];exact m.2 _ v<|by rw[B j C];exact hv
def ziU{α:Type}{e:zW α}{y:α}{p:wN}{x:wW}{t:wT}{bytes:K}{a:wN}(h:ev env x=p)(ht:Jf P t e.agg e.n bytes a)
 (i:∀(S:K->Prop) (w:wP),zE S Γ w->(fP e y p).p S w):
 MX P ⟨d,.load t x,ty,pos,aft,g⟩ env ms Γ (λv:wN=>v) (λv=>[fV e y v]) (λ_=>XS):=by
 intro w S _ _ c;obtain⟨b,o,cs,rfl,k,j,f⟩:=i S w c;refine Zj.of_value (w':=w) (v:=e.val cs) ?_ ⟨_,O,wR,yA.refl _ _,⟨⟨cs,O,f⟩,wR⟩⟩;simp[kW,h,Instr.loadAt,xfF,cL ht f j]
def NC{α:Type}{e:zW α}{xs:N α}{v:wN}{x:wW}{lo hi:V wW}{t j:wT}{bytes:K}{a:wN}{l h:K}(k:ev env x=v)
 (ht:P.underlying t=Z (.slice j)) (m:Jf P j e.agg e.n bytes a) (hl:(lo.map<|ev env)=Z (.int .i64 (l:J))\/(lo=wF/\l=0)) (c:(hi.map<|ev env)=Z (.int .i64 (h:J))\/(hi=wF/\h=X xs))
 (A:l<=h) (B:h<=X xs) (q:∀(S:K->Prop) (w:wP),zE S Γ w->(fV (eS e) xs v).p S w):
 MX P ⟨d,.slice t x lo hi wF,ty,pos,aft,g⟩ env ms Γ (λp:wN=>p) (λp=>[fV (eS e) ((xs.drop l).take<|h-l) p]) (λ_=>XS):=by
 intro w S _ _ i;have⟨f,cap,hv,h1,C,r⟩:=xT.1<|q S w i;have b1:(0:J)<=(l:J)/\(l:J)<=(h:J):=W
 have b2:(0:J)<=(h:J)/\(h:J)<=(cap:J):=W
 have s:(xdb t v (lo.map<|ev env) (hi.map<|ev env) wF).run P w=.ok (.slice (if cap=l then f else f.map (·.add (l*e.n))) (h-l)<|cap-l) w:=by
  unfold xdb;rw[hv];simp only[xay,ul ht,xae];unfold xfX;simp only[xay,ul ht,xae];unfold xer
  obtain hl|⟨hl,rfl⟩:=hl<;>obtain c|⟨c,rfl⟩:=c<;>
   simp only[hl,c,xeF,V6,Option.map_none,xay,xaI,xae,iq b1,iq b2,wv m,xbe]
 refine Zj.of_value (w':=w) (v:=.slice (if cap=l then f else f.map (·.add (l*e.n))) (h-l)<|cap-l) ?_ ⟨_,O,wR,yA.refl _ _,⟨?_,wR⟩⟩
 ·simp[kW,k,s]
 ·have hd:X ((xs.drop l).take<|h-l)=h-l:=by simp;lia
  refine xT.2 ⟨_,cap-l,by rw[hd],by rw[hd];lia,W,?_⟩;obtain rfl|⟨b,o,cs,rfl,u,y,z⟩:=r
  ·left;simp
  ·by_cases hc:cap=l
   ·left;have:h-l=0:=W
    simp[this]
   ·right;refine⟨b,o+l*e.n,(cs.drop<|l*e.n).take<|(h-l)*e.n,by simp[hc,qW],u,(y.drop _).take _,(z.drop l).take<|h-l⟩
end
end
section
section
variable{P:jP}{env:y7}{Γ:xS FF}{d:ww Z5}{ty yt t:wT}{pos:String}{aft:uL Edge}{g:ww (wr×qR)}{x y:wW}
def w64{x:J}(h: -9223372036854775808<=x/\x<=9223372036854775807):xde.wrap x=x:=IntWalk.i64_in x h
def zjy(n:K):xcs.wrap (n:J)=((n%18446744073709551616:K):J):=by
 simp only[xgd,xeo,xeM];simp
theorem n5{n:K}(h:n<18446744073709551616):xcs.wrap (n:J)=(n:J):=by rw[zjy,xaq h]
def CA(x:J):xcs.wrap x=x%18446744073709551616:=by
 simp only[xgd,xeo,xeM];simp
def tU{c:V4}{k:Xs}{a b:J}{v:wN}(e:ev env x=.int k a)(f:ev env y=.int k b)(hv:∀w,(WT c t (.int k a) (.int k b)).run P w=.ok v w)(w:wP):
 (kW (ev env) ⟨d,.binOp c t x y yt,ty,pos,aft,g⟩).run P w=.ok (.value v) w:=by
 have:(V5 c t x y (.int k a) (.int k b)).run P w=.ok () w:=by
  unfold V5;cases c<;>simp
 simp only[kW,e,f,xay,this,xae,hv,xaI]
def Ef{k:Xs}{a b c:J}(e:ev env x=.int k a)(f:ev env y=.int k b)(hc:k.wrap (a+b)=c)(w:wP):
 (kW (ev env) ⟨d,.binOp .add t x y yt,ty,pos,aft,g⟩).run P w=.ok (.value (.int k c)) w:=
 tU e f (λw=>by simp[WT,Op.intArith,hc]) w
def zha{k:Xs}{a b c:J}(e:ev env x=.int k a)(f:ev env y=.int k b)(hc:k.wrap (a-b)=c)(w:wP):
 (kW (ev env) ⟨d,.binOp .sub t x y yt,ty,pos,aft,g⟩).run P w=.ok (.value (.int k c)) w:=
 tU e f (λw=>by simp[WT,Op.intArith,hc]) w
def zkv{k:Xs}{a b c:J}(e:ev env x=.int k a)(f:ev env y=.int k b)(hc:k.wrap (a*b)=c)(w:wP):
 (kW (ev env) ⟨d,.binOp .mul t x y yt,ty,pos,aft,g⟩).run P w=.ok (.value (.int k c)) w:=
 tU e f (λw=>by simp[WT,Op.intArith,hc]) w
def zkI{k:Xs}{a b c:J}(e:ev env x=.int k a)(f:ev env y=.int k b)(h0:b≠0)(hc:k.wrap (a.tdiv b)=c)(w:wP):
 (kW (ev env) ⟨d,.binOp .quo t x y yt,ty,pos,aft,g⟩).run P w=.ok (.value (.int k c)) w:=
 tU e f (λw=>by simp[WT,Op.intDiv,h0,hc]) w
def zkO{k:Xs}{a b c:J}(e:ev env x=.int k a)(f:ev env y=.int k b)(h0:b≠0)(hc:a.tmod b=c)(w:wP):
 (kW (ev env) ⟨d,.binOp .rem t x y yt,ty,pos,aft,g⟩).run P w=.ok (.value (.int k c)) w:=
 tU e f (λw=>by simp[WT,Op.intDiv,h0,hc]) w
def DU{k e:Xs}{a b c:J}(f:ev env x=.int k a)(h:ev env y=.int e b)(h0:0<=b)(hc:a.fdiv (2^(min b.toNat k.bits))=c)(w:wP):
 (kW (ev env) ⟨d,.binOp .shr t x y yt,ty,pos,aft,g⟩).run P w=.ok (.value (.int k c)) w:=by
 have:¬b<0:=W
 simp[kW,f,h,V5,WT,Op.shift,this,hc]
def zaw{k e:Xs}{a b c:J}(f:ev env x=.int k a)(h:ev env y=.int e b)(h0:0<=b)(hc:k.wrap (a*2^(min b.toNat k.bits))=c)(w:wP):
 (kW (ev env) ⟨d,.binOp .shl t x y yt,ty,pos,aft,g⟩).run P w=.ok (.value (.int k c)) w:=by
 have:¬b<0:=W
 simp[kW,f,h,V5,WT,Op.shift,this,hc]
def zkX{k:Xs}{a b c:J}(e:ev env x=.int k a)(f:ev env y=.int k b)(hc:k.wrap (((a%2^k.bits).toNat &&& (b%2^k.bits).toNat:K):J)=c)(w:wP):
 (kW (ev env) ⟨d,.binOp .and t x y yt,ty,pos,aft,g⟩).run P w=.ok (.value (.int k c)) w:=
 tU e f (λw=>by simp[WT,Op.intBits,hc]) w
def zoW{k:Xs}{a b c:J}(e:ev env x=.int k a)(f:ev env y=.int k b)(hc:k.wrap (((a%2^k.bits).toNat|||(b%2^k.bits).toNat:K):J)=c)(w:wP):
 (kW (ev env) ⟨d,.binOp .or t x y yt,ty,pos,aft,g⟩).run P w=.ok (.value (.int k c)) w:=
 tU e f (λw=>by simp[WT,Op.intBits,hc]) w
def zkM{k:Xs}{a c:J}(b:ev env x=.int k a)(hc:k.wrap (0-a)=c)(w:wP):
 (kW (ev env) ⟨d,.unOp .neg t x,ty,pos,aft,g⟩).run P w=.ok (.value (.int k c)) w:=by
 simp only[kW,b,Op.unary,Op.intArith,hc,xay,xaI,xae]
def Qo{k k':Xs}{src b:wT}{e:TypeDesc}{a c:J}(f:P.underlying src=Z e)(hd:P.underlying b=Z (.int k'))(h:ev env x=.int k a)(hc:k'.wrap a=c)(w:wP):
 (kW (ev env) ⟨d,.convert src b x,ty,pos,aft,g⟩).run P w=.ok (.value (.int k' c)) w:=by
 simp[kW,h,convert,ul f,ul hd,Conv.intToInt,hc]
def zn1{a b:J}{ts:uL wT}(c:ev env x=.int .i64 a)(f:ev env y=.int .i64 b)(w:wP):
 (kW (ev env) ⟨d,.call ⟨.builtin .max,#[x,y],ts⟩,ty,pos,aft,g⟩).run P w=.ok (.value (.int .i64<|max a b)) w:=by
 have e:(if b>a then b else a)=max a b:=by rw[Int.max_def];split<;>split<;>lia
 simp only[kW,Wt,V2,UL,xee,xbS,xex,c,f,Builtin.max_,Builtin.max2,xay,xaI,xae,List.foldlM_cons,List.foldlM_nil,e]
def zpa{a b:J}{ts:uL wT}(c:ev env x=.int .i64 a)(f:ev env y=.int .i64 b)(w:wP):
 (kW (ev env) ⟨d,.call ⟨.builtin .min,#[x,y],ts⟩,ty,pos,aft,g⟩).run P w=.ok (.value (.int .i64<|min a b)) w:=by
 have e:(if b<a then b else a)=min a b:=by rw[Int.min_def];split<;>split<;>lia
 simp only[kW,Wt,V2,UL,xee,xbS,xex,c,f,Builtin.min_,Builtin.min2,xay,xaI,xae,List.foldlM_cons,List.foldlM_nil,e]
end
end
section
def tN{α:Type}(l:N α){n:K}(h:X l<=n):l.drop n=[]:=xbW h
section
variable{P:jP}{N:Nd}{we:wP}{Se:wr->Prop}{ms:xS MF}{Γ:xS FF}{Q:Qs}{env:y7}{ops:uL Z0}{rest:xS Z0}
 {d:ww Z5}{ty yt t:wT}{pos:String}{aft:uL Edge}{g:ww (wr×qR)}{x y:wW}
def tH{e:V4}{k:Xs}{a b:J}{c:qR}(f:ev env x=.int k a)(h:ev env y=.int k b)
 (hc:∀w,(WT e t (.int k a) (.int k b)).run P w=.ok (.bool c) w) (w:wP):(kW (ev env) ⟨d,.binOp e t x y yt,ty,pos,aft,g⟩).run P w=.ok (.value (.bool c)) w:=tU f h hc w
def SP{k:Xs}{a b:J}(c:yV ops env ⟨d,.binOp .geq t x y yt,ty,pos,aft,g⟩=wL)(hd:jt N.n d=wL)(e:ev env x=.int k a)(f:ev env y=.int k b)
 (k1:b<=a->TL P N we Se ms Γ ops rest Q (put env d (.bool wL))) (k2:¬b<=a->TL P N we Se ms Γ ops rest Q (put env d (.bool I))):
 TL P N we Se ms Γ ops (⟨d,.binOp .geq t x y yt,ty,pos,aft,g⟩::rest) Q env:=by
 by_cases h:b<=a
 ·exact ZL c hd (tH e f λw=>by simp[WT,xfY,h])<|k1 h
 ·exact ZL c hd (tH e f λw=>by simp[WT,xfY,h])<|k2 h
def zeo{k:Xs}{a b:J}(c:ev env x=.int k a)(e:ev env y=.int k b)(w:wP):(kW (ev env) ⟨d,.binOp .lss t x y yt,ty,pos,aft,g⟩).run P w=.ok (.value (.bool<|decide<|a<b)) w:=
 tH c e (λw=>by simp[WT,xfY]) w
def zeR{k:Xs}{a b:J}(c:ev env x=.int k a)(e:ev env y=.int k b)(w:wP):(kW (ev env) ⟨d,.binOp .leq t x y yt,ty,pos,aft,g⟩).run P w=.ok (.value (.bool<|decide<|a<=b)) w:=
 tH c e (λw=>by simp[WT,xfY]) w
def zgS{k:Xs}{a b:J}(c:ev env x=.int k a)(e:ev env y=.int k b)(w:wP):(kW (ev env) ⟨d,.binOp .gtr t x y yt,ty,pos,aft,g⟩).run P w=.ok (.value (.bool<|decide<|b<a)) w:=
 tH c e (λw=>by simp[WT,xfY]) w
def zeL{k:Xs}{a b:J}(c:ev env x=.int k a)(e:ev env y=.int k b)(w:wP):(kW (ev env) ⟨d,.binOp .geq t x y yt,ty,pos,aft,g⟩).run P w=.ok (.value (.bool<|decide<|b<=a)) w:=
 tH c e (λw=>by simp[WT,xfY]) w
def zeQ{k:Xs}{a b:J}(c:ev env x=.int k a)(e:ev env y=.int k b)(w:wP):(kW (ev env) ⟨d,.binOp .eql t x y yt,ty,pos,aft,g⟩).run P w=.ok (.value (.bool<|decide<|a=b)) w:=
 tH c e (λw=>by simp[WT,xfY];by_cases h:a=b<;>simp[h]) w
def zhw{k:Xs}{a b:J}(c:ev env x=.int k a)(e:ev env y=.int k b)(w:wP):(kW (ev env) ⟨d,.binOp .neq t x y yt,ty,pos,aft,g⟩).run P w=.ok (.value (.bool (!decide (a=b)))) w:=
 tH c e (λw=>by simp[WT,xfY];by_cases h:a=b<;>simp[h]) w
def dH{a b:qR}(ht:P.underlying t=Z .bool)(w:wP):(Op.equal t (.bool a) (.bool b)).run P w=.ok (a==b) w:=by
 show(Op.equalIn (9999+1) t (.bool a) (.bool b)).run P w=_;unfold Op.equalIn;simp only[xay,ul ht,xae,xaI]
def zpB{a b:qR}(ht:P.underlying t=Z .bool)(c:ev env x=.bool a)(e:ev env y=.bool b)(w:wP):
 (kW (ev env) ⟨d,.binOp .eql t x y yt,ty,pos,aft,g⟩).run P w=.ok (.value (.bool<|a==b)) w:=by
 have h:(V5 .eql t x y (.bool a) (.bool b)).run P w=.ok () w:=by simp[V5]
 have f:(WT .eql t (.bool a) (.bool b)).run P w=.ok (.bool<|a==b) w:=by simp only[WT,xay,dH ht,xae,xaI]
 simp only[kW,c,e,xay,h,f,xae,xaI]
def zpk{a b:qR}(ht:P.underlying t=Z .bool)(c:ev env x=.bool a)(e:ev env y=.bool b)(w:wP):
 (kW (ev env) ⟨d,.binOp .neq t x y yt,ty,pos,aft,g⟩).run P w=.ok (.value (.bool (!(a==b)))) w:=by
 have h:(V5 .neq t x y (.bool a) (.bool b)).run P w=.ok () w:=by simp[V5]
 have f:(WT .neq t (.bool a) (.bool b)).run P w=.ok (.bool (!(a==b))) w:=by simp only[WT,xay,dH ht,xae,xaI]
 simp only[kW,c,e,xay,h,f,xae,xaI]
def EB(P:jP)(f:Z4):qR:=match P.funcs[f]? with
 |some fn=> !(fn.name== "runtime.NumGoroutine") && fn.body.isSome
 |none=>I
def kE{f:Z4}(h:EB P f=wL)(args:uL wN)(w:wP):(ge f args).run P w=.ok (.enter f args) w:=by
 unfold EB at h;unfold ge;split at h
 ·next fn a=>
  simp only[xac,xcV]at h;have b:fn.body.isNone=I:=by simpa using h.2
  simp only[xay,run_program,xae,a,h.1,b,xao,uS,xaI]
 ·cases h
def zpO{U:Type}{b:U->wN}{a:U->xS FF}{ok:U->Prop}{c:xS FF}{f:Z4}{asv:xS wW}{ts:uL wT}{args:xS wN}(i:EB P f=wL)
 (j:Fn P f args.toArray c b a ok) (k:asv.map (ev env)=args) (l:∀(S:K->Prop) (w:wP),zE S Γ w->zE S c w):
 MX P ⟨d,.call ⟨.value (.func f),asv.toArray,ts⟩,ty,pos,aft,g⟩ env ms Γ b a ok:=by
 intro w S m _ h;unfold Zj;have:(kW (ev env) ⟨d,.call ⟨.value (.func f),asv.toArray,ts⟩,ty,pos,aft,g⟩).run P w=.ok (.enter f args.toArray) w:=by simp[kW,Wt,ev,xdR,V2,kE i,k]
 rw[this];exact(j w S m<|l S w h).mono λe w' ⟨u,n,o,p,hc⟩=>⟨b u,n,u,O,o,p,hc⟩
def nk{U:Type}{b:U->wN}{a:U->xS FF}{ok:U->Prop}{c:xS FF}{f:Z4}{asv:xS wW}{ts:uL wT}{args aG:xS wN}{x:wW}(j:EB P f=wL)
 (h:ev env x=.func (.func f) #[] aG.toArray) (k:Fn P f (args++aG).toArray c b a ok) (l:asv.map (ev env)=args) (m:∀(S:K->Prop) (w:wP),zE S Γ w->zE S c w):
 MX P ⟨d,.call ⟨.value x,asv.toArray,ts⟩,ty,pos,aft,g⟩ env ms Γ b a ok:=by
 intro w S n _ i;unfold Zj;have:(kW (ev env) ⟨d,.call ⟨.value x,asv.toArray,ts⟩,ty,pos,aft,g⟩).run P w=.ok (.enter f (args++aG).toArray) w:=by simp[kW,Wt,h,xdR,V2,kE j,l]
 rw[this];exact(k w S n<|m S w i).mono λe w' ⟨u,o,p,h,hc⟩=>⟨b u,o,u,O,p,h,hc⟩
def sI(off:K):∀(c:xS wN) (k:K) (a:uL wN),off+k+X c<=a.size->
 ((c.zipIdx k).foldl (λcs (x:wN×K)=>cs.setIfInBounds (off+x.2) x.1) a).toList=a.toList.take (off+k)++c++a.toList.drop (off+k+X c)
 |[],k,a,h=>by simp
 |v::c,k,a,h=>by
  simp only[xax]at h;rw[List.zipIdx_cons,List.foldl_cons];have:=sI off c (k+1) (a.setIfInBounds (off+k) v) (by simp;lia);rw[this];simp only[Array.toList_setIfInBounds,xax];have b:off+k<X a.toList:=by simp;lia
  rw[(W:off+(k+1)=off+k+1),xef,iq b];have e1:X (a.toList.take<|off+k)=off+k:=by simp;lia
  rw[List.take_append,List.drop_append,e1];simp only[(W:off+k+1-(off+k)=1),xeB,List.take_zero,(W:off+k+1+X c-(off+k)=X c+1),List.drop_succ_cons];rw[xaQ (by rw[e1];lia),tN (xdH (off+k) a.toList) (by rw[e1];lia),List.drop_drop];simp only[xbA,xad,xbC,xbA];congr 3;congr 1;lia
def jo(parts:xS (K×wN)):xS wN:=parts.flatMap λx=>x.2.cells.toList
def ae(a:K->V (K×K)):xS (K×wN)->K->Prop
 |[],_=>XS
 |(i,v)::r,off=>a i=Z (off,v.cells.size)/\ae a r (off+v.cells.size)
def pO{c:K->V (K×K)}:∀(parts:xS (K×wN)) (b z:xS wN),ae c parts (X b)->X (jo parts)<=X z->
 xdx c (b++z).toArray parts=Z (b++jo parts++z.drop (X (jo parts))).toArray
 |[],b,z,_,_=>by simp[xdx,jo]
 |(i,v)::r,b,z,⟨h1,e⟩,hl=>by
  simp only[jo,List.flatMap_cons,xaw,xfa]at hl;have f:¬(X b+v.cells.size>(b++z).toArray.size):=by simp;lia
  have h:v.cells.zipIdx.foldl (λcs (x:wN×K)=>cs.setIfInBounds (X b+x.2) x.1) (b++z).toArray=((b++v.cells.toList)++z.drop v.cells.size).toArray:=by
   apply Array.ext';rw[<-Array.foldl_toList,Array.toList_zipIdx,sI (X b) v.cells.toList 0 _<|by simp;lia];simp
  unfold xdx;simp only[h1];rw[ir<|by simp only[ne_eq,dL,decide_false,xeC,Ul];exact f];have:=pO r (b++v.cells.toList) (z.drop v.cells.size) (by simpa using e) (by simp[jo]at*;lia);refine(ut (λa=>xdx c a r) h).trans<|this.trans ?_;simp[jo,xad,List.drop_drop]
def Hb(i:K)(v:wN)(r:xS (K×wN)):jo ((i,v)::r)=v.cells.toList++jo r:=by simp[jo]
def Oz{α:Type}{e:zW α}{z:α}{bytes:K}{a:wN}{parts:xS (K×wW)}{vs:xS (K×wN)}(ht:Jf P t wL e.n bytes a)(s:e.agg=wL)(u:a.cells.size=e.n)
 (hv:parts.map (λx=>(x.1,ev env x.2))=vs)
 (hc:(∃fs,P.underlying t=Z (.struct fs)/\∃pl:uL (K×K),(∀w,(fs.mapM (λf=>do pure (f.offset,<-WR f.type)):Sem (uL<|K×K)).run P w=.ok pl w)/\(∀(S:K->Prop) (w:wP),zE S Γ w->ae (pl[·]?) vs 0))\/
  (∃k l n b2 z2 j,P.underlying t=Z (.array k l)/\Jf P l j n b2 z2/\(∀(S:K->Prop) (w:wP),zE S Γ w->ae (λi=>Z (i*n,n)) vs 0)))
 (hp:∀(S:K->Prop) (w:wP),zE S Γ w->e.p S z (jo vs) w):
 MX P ⟨d,.build t parts.toArray,ty,pos,aft,g⟩ env ms Γ (λv:wN=>v) (λv=>[fV e z v]) (λ_=>XS):=by
 intro w S _ _ c;have o:=hp S w c;have hl:=e.len o;have q:X a.cells.toList=e.n:=by simpa using u
 refine Zj.of_value (w':=w) (v:=.agg (jo vs).toArray) ?_ ⟨_,O,wR,yA.refl _ _,⟨⟨jo vs,by simp[zW.val,s],o⟩,wR⟩⟩;have r:∀b,ae b vs 0->xdx b a.cells vs=Z (jo vs).toArray:=by
  intro b h;have:=pO vs [] a.cells.toList h (by rw[hl,q];exact IR _);simpa[tN a.cells.toList (n:=X (jo vs))<|by rw[hl,q];exact IR _]using this
 have hi:parts.toArray.map (λx=>(x.1,ev env x.2))=vs.toArray:=by rw[<-hv];simp
 simp only[kW,xay];have A:(Instr.build t<|parts.toArray.map λx=>(x.1,ev env x.2)).run P w=.ok (.agg (jo vs).toArray) w:=by
  rw[hi];unfold Instr.build;rcases hc with⟨fs,m,pl,hc,hd⟩|⟨k,l,n,b2,z2,j,m,B,hd⟩
  ·simp only[xay,uj ht,xae,ul m,hc,r _<|hd S w c,xaI]
  ·simp only[xay,uj ht,xae,ul m,wv B,r _<|hd S w c,xaI]
 rw[A];rfl
def za8{α:Type}{e:zW α}{y:α}{v:wN}{S:K->Prop}{w:wP}(h:(fV e y v).p S w):v.cells.size=e.n:=by
 have:=e.len<|Zc h;simpa using this
def Fm{α:Type}{e:zW α}{c:wT}{zs:xS α}{len bytes:K}{a:wN}{parts:xS (K×wW)}{vs:xS (K×wN)}(ht:P.underlying t=Z (.slice c))(j:Jf P c e.agg e.n bytes a)
 (hn:0<e.n) (hd:X zs=len) (s:len*e.n<=16777216) (hv:parts.map (λx=>(x.1,ev env x.2))=vs)
 (m:∀(S:K->Prop) (w:wP),zE S Γ w->ae (λi=>Z (i*e.n,e.n)) vs 0) (hp:∀(S:K->Prop) (w:wP),zE S Γ w->yK e S zs (jo vs) w):
 MX P ⟨d,.buildSlice t len parts.toArray,ty,pos,aft,g⟩ env ms Γ (λv:wN=>v) (λv=>[fV (eS e) zs v]) (λ_=>XS):=by
 intro w S o _ h;have k:=hp S w h;have hl:X (jo vs)=len*e.n:=by rw[k.len,hd]
 have x:=K7.alloc w (.cells (jo vs).toArray c);refine Zj.of_value (w':=w.alloc (.cells (jo vs).toArray c)) (v:=.slice (Z ⟨w.heap.size,0,wF⟩) len len) ?_ ⟨_,O,wR,x,⟨xT.2 ?_,wR⟩⟩
 ·have hi:parts.toArray.map (λx=>(x.1,ev env x.2))=vs.toArray:=by rw[<-hv];simp
  have hc:xdx (λi=>Z (i*e.n,e.n)) ((xfb<|len*e.n).map (a.cells[·%a.cells.size]!)) vs=Z (jo vs).toArray:=by
   have:=pO vs [] ((xfb<|len*e.n).map (a.cells[·%a.cells.size]!)).toList (m S w h) (by simp[hl]);rw[xbA,xcX,xbA,xbW (by simp[hl]),xbO]at this;exact this
  have p:(xeG t len<|parts.toArray.map λx=>(x.1,ev env x.2)).run P w=.ok (.slice (Z ⟨w.heap.size,0,wF⟩) len len) (w.alloc (.cells (jo vs).toArray c)):=by
   rw[hi];unfold xeG;simp only[xay,ul ht,xae,wv j,ir (W:¬len*e.n>2^24),aP];by_cases h0:len*e.n=0
   ·have u:jo vs=[]:=xbm (by rw[hl,h0]);have q:xdx (λi=>Z (i*e.n,e.n)) ((xfb 0).map ((#[]:uL wN)[·%(#[]:uL wN).size]!)) vs=Z (jo vs).toArray:=by
     have l:∀f:K->wN,(xfb 0).map f= #[]:=λf=>by simp
     rw[<-hc,h0,l,l]
    simp only[h0,uP];simp only[q,xay,WL,xae,xaI]
   ·simp only[ir h0,xay,uj j,xae,xaI,hc,WL]
  simp only[kW,xay,p,xae,xaI]
 ·have r:At (w.alloc (.cells (jo vs).toArray c)) w.heap.size 0 (jo vs):=by
   have:=At.row (b:=w.heap.size) (cs:=(jo vs).toArray) (t:=c) (fr:=(0,0))<|WN w _;simpa using this
  refine SlP.of_at (o _<|IR _) r (k.keep x.to) hd.symm W ?_;have:len<=len*e.n:=xco _ hn;unfold WS;lia
def zms{α:Type}{e:zW α}{E:wT}{z:α}{v:wN}(c:ev env x=v)(f:∀(S:K->Prop) (w:wP),zE S Γ w->(fV e z v).p S w):
 MX P ⟨d,.box E x,ty,pos,aft,g⟩ env ms Γ (λv:wN=>v) (λp=>[fP e z p]) (λ_=>XS):=by
 intro w S i _ a;have h:=Zc<|f S w a;have b:=K7.alloc w (.cells v.cells E);refine Zj.of_value (w':=w.alloc (.cells v.cells E)) (v:=.pointer<|some ⟨w.heap.size,0,wF⟩) ?_ ⟨_,O,wR,b,⟨⟨w.heap.size,0,v.cells.toList,O,i _<|IR _,At.row<|WN w _,e.keep h b.to⟩,wR⟩⟩;simp[kW,c,Instr.box,newVar,aP]
end
end
section
def Sub{α β:Type}(e:ru α)(x:α)(o:K)(d:zW β)(g:β)(up:β->α):Prop:=
 ∀(S:K->Prop) (w:wP) (cs:N wN),e.p S x cs w->∃b c a,cs=b++c++a/\X b=o/\d.p S g c w/\∀(w':wP) y f,yA S w w'->d.p S y f w'->e.p S (up y) (b++f++a) w'
def Sub.self{α:Type}(e:zW α)(x:α):Sub e.c x 0 e x id:=
 λ_ _ cs h=>⟨[],cs,[],i7,O,h,λ_ y b _ a=>by simpa[zW.c]using a⟩
def Sub.fst{α β:Type}(e:zW α)(f:zW β)(x:α×β):Sub (eP e f).c x 0 e x.1 (λy=>(y,x.2)):=by
 rintro S w cs ⟨c,d,rfl,hc,hd⟩;exact⟨[],c,d,i7,O,hc,λw' y a k b=>⟨a,d,i7,b,f.keep hd k⟩⟩
def Sub.snd{α β:Type}(e:zW α)(f:zW β)(x:α×β):Sub (eP e f).c x e.n f x.2 (λy=>(x.1,y)):=by
 rintro S w cs ⟨c,d,rfl,hc,hd⟩;exact⟨c,d,[],i7,e.len hc,hd,λw' y a k b=>⟨c,a,i7,e.keep hc k,b⟩⟩
def Sub.nth{α:Type}(k:K)(e:zW α)(xs:N α)(i:K)(x:α)(d:xs[i]? =Z x):Sub (eA k e).c xs (i*e.n) e x (λy=>xs.set i y):=by
 rintro S w cs ⟨hl,a⟩;obtain⟨hi,rfl⟩:=xar.1 d;have hd:=a.drop i;rw[xcb hi]at hd;have⟨c,r,h1,f,g⟩:=hd;have l:i*e.n<=X cs:=by rw[a.len];exact xak _ W
 refine⟨cs.take<|i*e.n,c,r,?_,by simp;lia,f,λw' y h b j=>⟨by simpa using hl,?_⟩⟩
 ·rw[xad,<-h1,xbv]
 ·show yK e S (xs.set i y) _ w';rw[xef,iq hi,xad];exact((a.keep b).take i).append ⟨h,r,O,j,g.keep b⟩
def Sub.row{α:Type}(e:zW α)(xs:N α)(i:K)(x:α)(d:xs[i]? =Z x):Sub (zo2 e) xs (i*e.n) e x (λy=>xs.set i y):=by
 intro S w cs f;have⟨hi,_⟩:=xar.1 d;have⟨b,c,a,h1,g,h,j⟩:=Sub.nth (X xs) e xs i x d S w cs ⟨O,f⟩;exact⟨b,c,a,h1,g,h,λw' y k l m=>(j w' y k l m).2⟩
def Sub.comp{α β γ:Type}{e:ru α}{x:α}{o m:K}{f:zW β}{y:β}{g:zW γ}{z:γ}{up:β->α}{b:γ->β}(h:Sub e x o f y up)(n:Sub f.c y m g z b):
 Sub e x (o+m) g z (λt=>up<|b t):=by
 intro S w cs p;obtain⟨j,c,d,rfl,h1,q,r⟩:=h S w cs p;obtain⟨i,s,a,rfl,u,hd,v⟩:=n S w c q;refine⟨j++i,s,a++d,by simp[xad],by simp[h1,u],hd,λw' t l k hc=> ?_⟩;have:=r w' _ _ k<|v w' t l k hc;simpa[xad]using this
section
variable{P:jP}{N:Nd}{we:wP}{Se:wr->Prop}{ms:xS MF}{Γ:xS FF}{Q:Qs}{env:y7}{ops:uL Z0}{rest:xS Z0}
 {d:ww Z5}{ty yt t:wT}{pos:String}{aft:uL Edge}{g:ww (wr×qR)}{x y:wW}
def Bc{c:wT}{ag:qR}{e bytes:K}{a:wN}{b o n cap k:K}{ik:Xs}(ht:P.underlying t=Z (.slice c))(f:Jf P c ag e bytes a)
 (h:ev env x=.slice (Z ⟨b,o,wF⟩) n cap) (hi:ev env y=.int ik (k:J)) (i:k<n) (w:wP):
 (kW (ev env) ⟨d,.indexAddr t x y,ty,pos,aft,g⟩).run P w=.ok (.value (.pointer<|some ⟨b,o+k*e,wF⟩)) w:=by
 have:(0:J)<=(k:J)/\(k:J)<(n:J):=W
 simp only[kW,h,hi,Instr.indexAt,V6,ul ht,xay,xaI,xae,iq this,wv f,qW,xbe]
def NZ{c:wT}{ag:qR}{e bytes:K}{a:wN}{b o n k:K}{ik:Xs}(ht:P.underlying t=Z (.array n c))(f:Jf P c ag e bytes a)
 (h:ev env x=.pointer (Z ⟨b,o,wF⟩)) (hi:ev env y=.int ik (k:J)) (i:k<n) (w:wP):
 (kW (ev env) ⟨d,.indexAddr t x y,ty,pos,aft,g⟩).run P w=.ok (.value (.pointer<|some ⟨b,o+k*e,wF⟩)) w:=by
 have:(0:J)<=(k:J)/\(k:J)<(n:J):=W
 simp only[kW,h,hi,Instr.indexAt,xfF,V6,ul ht,xay,xaI,xae,iq this,wv f,qW,xbe]
def zc3{α β:Type}{e:zW α}{f:zW β}{z:α}{z':β}{up:β->α}{p:wN}{l:wT}{ag:qR}{h bytes:K}{a:wN}{n k:K}{ik:Xs}(ht:P.underlying t=Z (.array n l))(hd:Jf P l ag h bytes a)
 (r:ev env x=p) (hi:ev env y=.int ik (k:J)) (s:k<n) (hc:Sub e.c z (k*h) f z' up) (u:∀(S:K->Prop) (w:wP),zE S Γ w->(fP e z p).p S w):
 MX P ⟨d,.indexAddr t x y,ty,pos,aft,g⟩ env ms Γ (λp:wN=>p) (λp=>[fP f z' p]) (λ_=>XS):=by
 intro w S _ _ i;obtain⟨b,o,cs,rfl,A,m,B⟩:=u S w i;obtain⟨C,c,q,rfl,h1,D,_⟩:=hc S w cs B;refine Zj.of_value (NZ ht hd r hi s w) ⟨_,O,wR,yA.refl _ _,⟨⟨b,o+k*h,c,O,A,⟨m.1,λj v hv=> ?_⟩,D⟩,wR⟩⟩;rw[xcH,<-h1];refine m.2 _ v ?_;rw[xad,xbr W,xfn,xaX (xar.1 hv).1];exact hv
def S9(P:jP)(t:wT)(i:K):V K:=match P.underlying t with
 |some (.struct fs)=>match fs[i]? with
  |some f=>match P.info? f.type with
   |some a=>if a.size=0 then wF else Z f.offset
   |none=>wF
  |none=>wF
 |_=>wF
def Rj{i off b o:K}(h:S9 P t i=Z off)(w:wP):(Instr.fieldAt t (.pointer<|some ⟨b,o,wF⟩) i).run P w=.ok (.pointer<|some ⟨b,o+off,wF⟩) w:=by
 unfold S9 at h;split at h
 ·next fs a=>
  split at h
  ·next f c=>
   split at h
   ·next e hi=>
    split at h
    ·cases h
    ·next j=>
     cases h;simp only[Instr.fieldAt,xay,ul a,xae,c,xfF,xaI,fieldPlace,WR,WW,run_program,hi,ir j,qW]
   ·cases h
  ·cases h
 ·cases h
def ox{i off b o:K}(h:S9 P t i=Z off)(a:ev env x=.pointer (Z ⟨b,o,wF⟩))(w:wP):
 (kW (ev env) ⟨d,.fieldAddr t x i,ty,pos,aft,g⟩).run P w=.ok (.value (.pointer<|some ⟨b,o+off,wF⟩)) w:=by
 simp only[kW,a,xay,Rj h,xae,xaI]
def zeI{α β:Type}{e:zW α}{f:zW β}{z:α}{z':β}{up:β->α}{p:wN}{i off:K}(h:S9 P t i=Z off)(m:ev env x=p)(hc:Sub e.c z off f z' up)
 (n:∀(S:K->Prop) (w:wP),zE S Γ w->(fP e z p).p S w):MX P ⟨d,.fieldAddr t x i,ty,pos,aft,g⟩ env ms Γ (λp:wN=>p) (λp=>[fP f z' p]) (λ_=>XS):=by
 intro w S _ _ a;obtain⟨b,o,cs,rfl,q,k,r⟩:=n S w a;obtain⟨s,c,l,rfl,h1,u,_⟩:=hc S w cs r;refine Zj.of_value (ox h m w) ⟨_,O,wR,yA.refl _ _,⟨⟨b,o+off,c,O,q,⟨k.1,λj v hv=> ?_⟩,u⟩,wR⟩⟩;rw[xcH,<-h1];refine k.2 _ v ?_;rw[xad,xbr W,xfn,xaX (xar.1 hv).1];exact hv
theorem St.muts{i:K}{m:MF}{w:wP}(h:St we Se ms Γ w)(hi:ms[i]? =Z m):∃S:K->Prop,m.p S w/\yM S ms w/\zE S Γ w:=by
 have⟨h1,c,e,S,f,j,k,a,b⟩:=h;exact⟨S,yM.get a hi,a,b⟩
def St.mut{i:K}{m:MF}{w:wP}(h:St we Se ms Γ w)(hi:ms[i]? =Z m):∃S:K->Prop,(∀k,w.heap.size<=k->S k)/\m.p S w/\zE S Γ w/\∀(Δ:xS FF),zE S Δ w->St we Se ms Δ w:=by
 have⟨h1,e,f,S,j,b,l,c,n⟩:=h;exact⟨S,b,yM.get c hi,n,λΔ a=>⟨h1,e,f,S,j,b,l,c,a⟩⟩
def At.mid{w:wP}{b:K}{cs:uL wN}{E:wT}{a c e:xS wN}(h:w.heap[b]? =Z (.cells cs E (0,0)))(f:cs.toList=a++c++e):At w b (X a) c:=by
 have:=((At.row h).drop (X a)).take (X c);rw[f]at this;simpa using this
def VB{α β:Type}{e:ru α}{E b:K}{z:α}{f:zW β}{o:K}{z':β}{up:β->α}{bytes:K}{a:wN}(i:K)
 (k:ms[i]? =Z (mB e E b z)) (l:ev env x=.pointer (Z ⟨b,o,wF⟩)) (hc:Sub e z o f z' up) (ht:Jf P t f.agg f.n bytes a):
 MX P ⟨d,.load t x,ty,pos,aft,g⟩ env ms Γ (λv:wN=>v) (λv=>[fV f z' v]) (λ_=>XS):=by
 intro w S _ m p;have⟨cs,q,hp⟩:=yM.get m k;have⟨r,c,h,hd,h1,j,_⟩:=hc S w cs.toList hp;have s:At w b o c:=h1▸At.mid q hd;refine Zj.of_value (w':=w) (v:=f.val c) ?_ ⟨_,O,wR,yA.refl _ _,zof j,wR⟩;simp[kW,l,Instr.loadAt,xfF,cL ht j s]
def Q0(w:wP)(b:K)(cs:uL wN):yA (λk=>k≠b) w (w.setRow b cs):=
 ⟨O,O,O,by simp[World.setRow],λk _ a=>setRow_other w b k cs a⟩
def IY{ag:qR}{n bytes:K}{f:wN}(ht:Jf P t ag n bytes f){w:wP}{b:K}{cs:uL wN}{E:wT}{a c e:xS wN}{v:wN}
 (h:w.heap[b]? =Z (.cells cs E (0,0))) (i:cs.toList=a++c++e) (hc:X c=n) (hv:X v.cells.toList=n) (h1:∀u∈v.cells.toList,u.oneCell'=wL):
 (storeVar t ⟨b,X a,wF⟩ v).run P w=.ok () (w.setRow b (a++v.cells.toList++e).toArray):=by
 unfold storeVar;have hd:cs.size=X (a++c++e):=by rw[<-i];simp
 have j:=U8 P b (X a) E v.cells.toList 0 cs w h (by rw[hd,hv];simp;lia) h1;have k:v.cells.size=n:=by simpa using hv
 simp only[xay,wv ht,xae,k,ne_eq,dL,uS];refine j.trans ?_;congr 2;rw[i,hv,xbD];congr 2
 ·rw[xad,xfZ O]
 ·rw[<-hc,<-xaw,xfl O]
def uf{α β:Type}{e:ru α}{E b:K}{z:α}{f:zW β}{o:K}{z' y':β}{up:β->α}{bytes:K}{q v:wN}(i:K)(B:ms[i]? =Z (mB e E b z))(H:ev env x=.pointer (Z ⟨b,o,wF⟩))(J:ev env y=v)(hd:Sub e z o f z' up)(ht:Jf P t f.agg f.n bytes q)
 (hv:∀(S:K->Prop) (w:wP),zE S Γ w->(fV f y' v).p S w):OG P ⟨wF,.store t x y,ty,pos,aft,g⟩ env we Se ms Γ (λ_:Z9=>uT) (λ_=>(ms.set i<|mB e E b<|up y')) (λ_=>Γ) (λ_=>XS):=by
 intro w hi;have⟨S0,_,⟨a,r,L⟩,M,_⟩:=hi.mut B;have⟨j,c0,h,s,u,C,_⟩:=hd S0 w a.toList L;have hn:=Zc<|hv S0 w M;have R:(kW (ev env) ⟨wF,.store t x y,ty,pos,aft,g⟩).run P w=.ok .skip (w.setRow b (j++v.cells.toList++h).toArray):=by
  have:=IY ht r s (f.len C) (f.len hn)<|f.one hn;rw[u]at this;simp only[kW,H,J,Instr.storeAt,xfF,xay,xaI,xae,this]
 refine Zj.of_skip R ⟨(),O,wR,hi.write B O O (Q0 w b _) ?_⟩;rintro S T ⟨cs,D,hp⟩ U;rw[r]at D;cases D;have⟨m,c,l,F,hl,hc,V⟩:=hd S w a.toList hp;have e1:m=j:=by
  have h1:m=a.toList.take o:=by rw[F,xad,<-hl,xfZ O]
  have A:j=a.toList.take o:=by rw[s,xad,<-u,xfZ O]
  rw[h1,A]
 have Y:l=h:=by
  have h1:l=a.toList.drop (o+f.n):=by rw[F,<-hl,<-f.len hc,<-xaw,xfl O]
  have A:h=a.toList.drop (o+f.n):=by rw[s,<-u,<-f.len C,<-xaw,xfl O]
  rw[h1,A]
 subst e1 Y;have G:yA S w (w.setRow b (m++v.cells.toList++l).toArray):=(Q0 w b _).weak λk _ hk=>T k hk;exact⟨_,eM w b a _ E (0,0) r,by simpa using V _ y' _ G (f.keep (Zc<|hv S w U) G)⟩
def zbx{α:Type}{e:zW α}{c:wT}{z:α}{n bytes:K}{zero:wN}{q:wW}{r s:Xs}(ht:P.underlying t=Z (.slice c))(u:Jf P c e.agg e.n bytes zero)(hx:ev env x=.int r (n:J))(A:ev env q=.int s (n:J))(hb:bytes*n<=281474976710656)(hn:n<=9223372036854775807)
 (f:∀(S:K->Prop) (w:wP),e.p S z zero.cells.toList w):OG P ⟨d,.makeSlice t x q,ty,pos,aft,g⟩ env we Se ms Γ (λb=>(.slice (Z ⟨b,0,wF⟩) n n)) (λb=>(mR e c b (xaa n z)::ms)) (λ_=>Γ) (λ_=>XS):=by
 intro w B;have⟨i,hi,h1,C,D⟩:=u.info;have E:=run_make (P:=P) w t c i zero ht hi D r s (n:J) (n:J) W W (by rw[C,<-xeN];exact Int.ofNat_le.2 hb) W;have hd:X zero.cells.toList=e.n:=e.len<|f (λ_=>XS) w;have hc:(eL zero.cells<|n*i.size).toList=(xaa n zero.cells.toList).flatten:=by
  rw[h1];apply xcA;intro j;have hs:zero.cells.size=e.n:=by simpa using hd
  by_cases a:j<n*e.n
  ·have k:0<e.n:=xcJ λh0=>by rw[h0]at a;simp at a
   have e1:(eL zero.cells<|n*e.n).toList[j]? =zero.cells.toList[j%e.n]? :=by
    have o:=xaU j k;simp[eL,a,hs,o]
   have F:((xaa n zero.cells.toList).flatten)[j]? =zero.cells.toList[j%e.n]? :=by
    have:=(yK.replicate (f (λ_=>XS) w) n).get (i:=j/e.n) (x:=z) (by rw[xdj,iq<|(xbb k).2 a]);exact flatten_get zero.cells.toList e.n hd k n j a
   rw[e1,F]
  ·rw[xbB (by simp[size_madeCells];lia),xbB<|by simp[hd];lia]
 refine Zj.of_value (w':=w.alloc (.cells (eL zero.cells<|n*i.size) c)) (v:=.slice (Z ⟨w.heap.size,0,wF⟩) n n) ?_ ⟨_,O,wR,B.fresh (K7.alloc w _) O i7 ?_⟩
 ·simp only[kW,hx,A,xay,E,xae,xaI,xbe]
 ·intro S _ _;refine⟨_,WN w _,?_⟩;rw[hc];exact yK.replicate (f _ _) n
 where
 flatten_get (l:xS wN) (m:K) (hl:X l=m) (o:0<m):∀(n j:K),j<n*m->((xaa n l).flatten)[j]? =l[j%m]?
  |0,j,h=>by simp at h
  |n+1,j,h=>by
   rw[xdw,List.flatten_cons];by_cases a:j<m
   ·rw[xaX W,xaq a]
   ·rw[xbr W,hl,flatten_get l m hl o n (j-m) (by rw[xbf]at h;lia),<-Nat.mod_eq_sub_mod W]
end
end
section
section
variable{we:wP}{Se:wr->Prop}{ms:xS MF}{Γ Δ:xS FF}{w w':wP}
theorem St.growM{i:K}{m m':MF}(h:St we Se ms Γ w)(hi:ms[i]? =Z m)(x:yA (λk=>¬m.blk k) w w')(hb:∀k,m'.blk k->m.blk k\/w.heap.size<=k)
 (n:∀S:K->Prop,(∀k,S k->¬m.blk k)->yM S ms w->zE S Γ w->m'.p S w'):St we Se (ms.set i m') Γ w':=by
 have⟨h1,C,t,S,D,E,q,s,u⟩:=h;have o:=xbp hi;have v:∀k,S k->¬m.blk k:=λk a e=>(q m o k e).1 a;have hd:∀k,k<w.heap.size->S k->S k/\¬m'.blk k:=λk a hs=>⟨hs,λe=>by
  obtain h|h:=hb k e
  ·exact v k hs h
  ·lia⟩
 have y:∀k,(S k/\¬m'.blk k)->¬m.blk k:=λk a=>v k a.1;have z:yA (λk=>S k/\¬m'.blk k) w w':=x.weak λk _ a=>y k a;have A:=λb f=>yM.lt s b f;have other:∀(j:K) (b:MF),j≠i->ms[j]? =Z b->∀k,b.blk k->¬m.blk k/\¬m'.blk k:=λj b g f k a=>by
  have h1:¬m.blk k:=λe=>dp t hi k e j b g f a;refine⟨h1,λe=> ?_⟩;obtain h|h:=hb k e
  ·exact h1 h
  ·have:=A b (xbp f) k a;lia
 have B:=n _ y (yM.sub hd s)<|zE.sub hd u;refine⟨h1.behind x (λk a e=>by have:=(q m o k e).2;lia),C,?_,λk=>S k/\¬m'.blk k,λk a=>D k a.1,?_,?_,?_,?_⟩
 ·exact c i m' t<|λj b g f k a=>(other j b g f k a).2
 ·exact λk a=>⟨E k<|xap x.size a,λe=>by have:=m'.lt B k e;lia⟩
 ·intro b f k a;obtain⟨j,g,rfl⟩:=xcK f;rw[xfO]at a;rw[xbj]at g;split at a
  ·refine⟨λhc=>hc.2 a,?_⟩;obtain h|h:=hb k a
   ·exact(q m o k h).2
   ·have:=h1.size;lia
  ·exact⟨λhc=>(q _ (xbQ g) k a).1 hc.1,(q _ (xbQ g) k a).2⟩
 ·exact d i m' z B (λj b g f k a=>x.block k (A b (xbp f) k a) (other j b g f k a).1)<|yM.sub hd s
 ·exact zE.keep z<|zE.sub hd u
 where
 c:∀{ms:N MF} (i:K) (m':MF),Qw ms->(∀(j:K) (b:MF),j≠i->ms[j]? =Z b->∀k,b.blk k->¬m'.blk k)->Qw (ms.set i m')
  |[],_,_,h,_=>by simpa using h
  |m::r,0,m',h,l=>⟨λk a b f hc=>by
   obtain⟨j,g,rfl⟩:=xcK f;exact l (j+1) r[j] W (by simp[g]) k hc a,h.2⟩
  |m::r,i+1,m',h,l=>by
   refine⟨λk a b f=> ?_,c i m' h.2<|λj b g f=>l (j+1) b W<|by simpa using f⟩;obtain⟨j,g,rfl⟩:=xcK f;rw[xfO];split
   ·exact l 0 m W O k a
   ·exact h.1 k a _<|xbQ _
 d {S:K->Prop}:∀{ms:N MF} (i:K) (m':MF),yA S w w'->m'.p S w'->(∀(j:K) (b:MF),j≠i->ms[j]? =Z b->∀k,b.blk k->w'.heap[k]? =w.heap[k]?)->yM S ms w->yM S (ms.set i m') w'
  |[],_,_,_,_,_,_=>trivial
  |m::r,0,m',x,o,l,h=>⟨o,yM.keep x (λb f k a=>by
   obtain⟨j,g,rfl⟩:=xcK f;exact l (j+1) r[j] W (by simp[g]) k a) h.2⟩
  |m::r,i+1,m',x,o,l,h=>⟨m.keep h.1 x<|λk a=>l 0 m W O k a,d i m' x o (λj b g f=>l (j+1) b W<|by simpa using f) h.2⟩
theorem St.grow{i:K}{m m':MF}(h:St we Se ms Γ w)(hi:ms[i]? =Z m)(x:yA (λk=>¬m.blk k) w w')(a:∀k,m'.blk k->m.blk k\/w.heap.size<=k)
 (n:∀S:K->Prop,(∀k,S k->¬m.blk k)->m.p S w->zE S Γ w->m'.p S w'):St we Se (ms.set i m') Γ w':=by grind [St.growM,yM.get]
theorem St.conv{i:K}{m m':MF}(h:St we Se ms Γ w)(hi:ms[i]? =Z m)(a:m'.blk=m.blk)(n:∀S:K->Prop,m.p S w->m'.p S w):St we Se (ms.set i m') Γ w:=by grind [St.grow,yA.refl]
def St.nilO{α:Type}{e:zW α}{E:wT}(h:St we Se ms Γ w):St we Se (mO e E (.slice wF 0 0) []::ms) Γ w:=by
 have⟨h1,b,c,S,d,f,g,i,j⟩:=h;refine⟨h1,b,⟨(λ_ a=>by cases a),c⟩,S,d,f,?_,⟨⟨[],World.ownsRow_nil _ _ _ _,O⟩,i⟩,j⟩;intro m hm k a;obtain rfl|hm:=xaf.1 hm
 ·cases a
 ·exact g m hm k a
end
section
variable{P:jP}{N:Nd}{we:wP}{Se:wr->Prop}{ms:xS MF}{Γ:xS FF}{Q:Qs}{env:y7}{ops:uL Z0}{rest:xS Z0}
 {d:ww Z5}{ty yt t:wT}{pos:String}{aft:uL Edge}{g:ww (wr×qR)}{x y:wW}
def sA{α:Type}{e:ru α}{z:α}{ag:qR}{c bytes:K}{a:wN}{E:wT}(ht:Jf P E ag c bytes a)
 (f:∀(S:K->Prop) (w:wP),e.p S z a.cells.toList w):OG P ⟨d,.alloc E,ty,pos,aft,g⟩ env we Se ms Γ (λb=>(.pointer<|some ⟨b,0,wF⟩)) (λb=>(mB e E b z::ms)) (λ_=>Γ) (λ_=>XS):=by
 intro w h;refine Zj.of_value (w':=w.alloc (.cells a.cells E)) (v:=.pointer<|some ⟨w.heap.size,0,wF⟩) ?_ ⟨_,O,wR,h.fresh (K7.alloc w _) O i7 λS _ _=>⟨_,WN w _,f _ _⟩⟩;simp only[kW,Instr.alloc,xay,uj ht,xae,newVar,aP,WL,xaI]
def ziV{α:Type}{e:zW α}{z:α}{v:wN}{E:wT}(f:ev env x=v)
 (h:∀(S:K->Prop) (w:wP),zE S Γ w->(fV e z v).p S w):OG P ⟨d,.box E x,ty,pos,aft,g⟩ env we Se ms Γ (λb=>(.pointer<|some ⟨b,0,wF⟩)) (λb=>(mB e.c E b z::ms)) (λ_=>Γ) (λ_=>XS):=by
 intro w i;refine Zj.of_value (w':=w.alloc (.cells v.cells E)) (v:=.pointer<|some ⟨w.heap.size,0,wF⟩) ?_ ⟨_,O,wR,i.fresh (K7.alloc w _) O i7 λS l a=>⟨_,WN w _,?_⟩⟩
 ·simp only[kW,f,Instr.box,newVar,aP,xay,WL,xae,xaI]
 ·exact e.keep (e.sub (Zc<|h S w a) λk m j=>⟨j,W⟩) (K7.alloc w _).to
def cR(w:wP)(t ty e:wT)(i:gS)(z:wN)(size bytes:K)(ht:P.underlying t=Z (.slice e))(hi:P.info? e=Z i)(r:i.zero=Z z)
 (s:i.size=size) (hn:i.bytes=bytes) (hv:z.cells.size=size) (B:0<size)
 (v:wN) (n:K) (xs:xS wN) (hd:w.ownsRow 0 e size v n xs)
 (a:KW) (m c:K) (b:xS wN) (hl:X b=m*size) (q:∀j u,b[j]? =Z u->w.cell? (a.add j)=Z u) (h1:∀u∈b,u.oneCell'=wL)
 (hp:n+m<=WS) (hc:(n+m)*bytes<=140737488355328):
 ∃o w',(xcf #[t,t] ty #[v,.slice (Z a) m c]).run P w=.ok o w'/\w'.ownsRow 0 e size o (n+m) (xs++b)/\w.grownBy w' v.ownBlock/\
  ∀k,o.ownBlock=Z k->v.ownBlock=Z k\/w.heap.size<=k:=by
 have⟨o,w',h,C,D,_⟩:=run_append_own (P:=P) w 0 t ty e i z size bytes ht hi r s hn hv B v n xs hd a m c b hl q h1 hp hc<|xan _;refine⟨o,w',h,C,D,?_⟩;subst s hn;have L:n+m<=9223372036854775807:=by simp only[WS]at hp;lia
 rcases hd.2 with⟨rfl,rfl⟩|⟨g,cap,p,rfl,M,E,R,S,F,T⟩
 ·by_cases G:m=0
  ·subst G;have:=f (w:=w) t ty e i ht hi a c;rw[this]at h;cases h;exact λk l=>by cases l
  ·have:=run_append_nil (P:=P) w t ty e i z ht hi r a m c b hl q W W (by have hb:=hc;simp only[xaK]at hb;lia);rw[this]at h;cases h;exact λk l=> .inr<|by cases l;exact IR _
 ·by_cases A:n+m<=cap
  ·have H:n*i.size+X b<=p.size:=by rw[hl,F,<-xbf];exact xak _ A
   have:=run_append_room (P:=P) w t ty e i ht hi g n cap p E a m c b hl q h1 A H;rw[this]at h;cases h;exact λk l=> .inl l
  ·have J:∀j u,xs[j]? =Z u->w.cell? ((⟨g,0,wF⟩:KW).add j)=Z u:=hd.cells (g:=g) O;have:=run_append_grow (P:=P) w t ty e i z ht hi r ⟨g,0,wF⟩ n cap xs hd.1 J a m c b hl q W W<|bI W hc;rw[this]at h;cases h;exact λk l=> .inr<|by cases l;exact IR _
 where
 f {w:wP} (t ty e:wT) (i:gS) (ht:P.underlying t=Z (.slice e)) (hi:P.info? e=Z i) (a:KW) (c:K):
  (xcf #[t,t] ty #[.slice wF 0 0,.slice (Z a) 0 c]).run P w=.ok (.slice wF 0 0) w:=by
  simp[xcf,ul ht,WR,WW,hi,xfU,xeK,loadCells,loadCellsFrom]
def SlQ{α:Type}(e:zW α)(S:K->Prop)(xs:xS α)(v:wN)(w:wP):Prop:=
 ∃a cap,v=.slice a (X xs) cap/\X xs<=cap/\cap<=WS/\(xs=[]\/∃b o cs,a=Z ⟨b,o,wF⟩/\At w b o cs/\yK e S xs cs w)
def SlQ.of{α:Type}{e:zW α}{S:K->Prop}{xs:xS α}{v:wN}{w:wP}(h:(fV (eS e) xs v).p S w):SlQ e S xs v w:=by
 have⟨c,cap,h1,f,i,a⟩:=xT.1 h;refine⟨c,cap,h1,f,i,?_⟩;obtain a|⟨b,o,cs,j,k,a3,a4⟩:=a
 ·exact .inl a
 ·exact .inr ⟨b,o,cs,j,a3,a4⟩
def aK{α:Type}{e:zW α}{z:wT}{xs ys:xS α}{v u:wN}{bytes:K}{zero:wN}(i:K)(ht:P.underlying t=Z (.slice z))(hK:Jf P z e.agg e.n bytes zero)(Y:zero.cells.size=e.n)(hn:0<e.n)
 (J:ms[i]? =Z (mO e z v xs)) (hx:ev env x=v) (hy:ev env y=u) (hf:∀(S:K->Prop) (w:wP),yM S ms w->zE S Γ w->SlQ e S ys u w)
 (h4:X xs+X ys<=9223372036854775807) (hb:(X xs+X ys)*bytes<=140737488355328):OG P ⟨d,.call ⟨.builtin .append,#[x,y],#[t,t]⟩,ty,pos,aft,g⟩ env we Se ms Γ (λq=>q) (λq=>(ms.set i<|mO e z q<|xs++ys)) (λ_=>Γ) (λ_=>XS):=by
 intro w hE;have⟨S,⟨cs,D,he⟩,h7,h8⟩:=hE.muts J;have⟨ao,cap,L,h1,h2,h3⟩:=hf S w h7 h8;have⟨R,hi,i1,i2,i3⟩:=hK.info;have hL:∀q w',(xcf #[t,t] ty #[v,u]).run P w=.ok q w'->(kW (ev env) ⟨d,.call ⟨.builtin .append,#[x,y],#[t,t]⟩,ty,pos,aft,g⟩).run P w=.ok (.value q) w':=λq w' B=>by simp only[kW,Wt,V2,UL,xee,xbS,xex,hx,hy,xay,B,xaI,xae]
 have hz:X xs+X ys<=WS:=by unfold WS;lia
 have E:∃q w',(xcf #[t,t] ty #[v,u]).run P w=.ok q w'/\w.grownBy w' v.ownBlock/\(∀k,q.ownBlock=Z k->v.ownBlock=Z k\/w.heap.size<=k)/\
  ∀S:K->Prop,(∀k,S k->v.ownBlock≠Z k)->yM S ms w->zE S Γ w->(mO e z q<|xs++ys).p S w':=by
  have F:∀(w':wP) (q:wN) (m:xS wN),w.grownBy w' v.ownBlock->w'.ownsRow 0 z e.n q (X xs+X ys) (cs++m)->
   (∀S:K->Prop,yM S ms w->zE S Γ w->yK e S ys m w)->∀S:K->Prop,(∀k,S k->v.ownBlock≠Z k)->yM S ms w->zE S Γ w->(mO e z q<|xs++ys).p S w':=by
   intro w' q m s hd hB S hS hM T;have⟨C,hF,hN⟩:=yM.get hM J;have hO:C=cs:=by
    rcases D.2 with⟨rfl,h0⟩|⟨g,cap,U,rfl,_,hP,_,_,_,hQ⟩
    ·have a1:=D.1;have a2:=hF.1;rw[h0]at a1 a2;have c1:cs=[]:=xbm (by simpa using a1);have c2:C=[]:=xbm (by simpa using a2);rw[c1,c2]
    ·rcases hF.2 with⟨hc,_⟩|⟨g',a0,a3,hR,_,hA,_,_,_,hG⟩
     ·cases hc
     ·cases hR;rw[hP]at hA;cases hA;rw[<-hQ,<-hG]
   subst hO;have kk:yA S w w':=⟨s.os,s.tape,s.output,s.size,λk V hs=>s.block k V<|λe=>hS k hs e.symm⟩;exact⟨C++m,by rw[xaw];exact hd,(hN.keep kk).append<|(hB S hM T).keep kk⟩
  have A:ys=[]->(ao=wF->u=.slice wF 0 cap)->∃q w',(xcf #[t,t] ty #[v,u]).run P w=.ok q w'/\w.grownBy w' v.ownBlock/\(∀k,q.ownBlock=Z k->v.ownBlock=Z k\/w.heap.size<=k)/\
   ∀S:K->Prop,(∀k,S k->v.ownBlock≠Z k)->yM S ms w->zE S Γ w->(mO e z q<|xs++ys).p S w':=by
   intro M hC
   subst M
   cases ao with
   |none=>
    have hT:=hC O
    have B:=f (w:=w) t ty z R e.n ht hi v (X xs) cs D cap
    rw[<-hT]at B
    exact⟨v,w,B,⟨O,O,O,IR _,λ_ _ _=>O⟩,λk V=> .inl V,λS _ hp _=>by simpa using yM.get hp J⟩
   |some a=>
    have⟨q,w',B,hd,s,hl⟩:=cR w t ty z R zero e.n bytes ht hi i3 i1 i2 Y hn v (X xs) cs D a 0 cap [] i7 i7 i7 (by simpa using hz)<|by simpa using hb
    exact⟨q,w',by rw[L];exact B,s,hl,F w' q [] s (by simpa using hd)<|λ_ _ _=>O⟩
  obtain M|⟨b,o,m,rfl,ha,G⟩:=h3
  ·exact A M<|λh=>by rw[L,h,M];rfl
  ·have⟨q,w',B,hd,s,hl⟩:=cR w t ty z R zero e.n bytes ht hi i3 i1 i2 Y hn v (X xs) cs D ⟨b,o,wF⟩ (X ys) cap m G.len
    (λj c hc=>by rw[qW];exact ha.2 j c hc) G.one hz hb
   refine⟨q,w',by rw[L];exact B,s,hl,F w' q m s hd λS2 hU hV=> ?_⟩;have⟨a5,a4,hH,_,_,hW⟩:=hf S2 w hU hV;rw[L]at hH;cases hH;obtain rfl|⟨b2,o2,r,hX,hY,hv⟩:=hW
   ·have:=G.len;rw[xbP,xcp]at this;rw[xbm this];rfl
   ·cases hX;have:r=m:=by
     apply xcA;intro j;by_cases H:j<X m
     ·have e1:=ha.2 j m[j] (by simp[H]);have hI:j<X r:=by rw[hv.len,<-G.len];exact H
      have e2:=hY.2 j r[j] (by simp[hI]);rw[e1]at e2;rw[xab H,xab hI,e2]
     ·have h5:X r=X m:=by rw[hv.len,<-G.len]
      rw[xbB (l:=m) W,xbB (l:=r) W]
    rw[<-this];exact hv
 have⟨q,w',B,s,hl,hp⟩:=E;exact Zj.of_value (hL q w' B) ⟨q,O,wR,hE.growM J ⟨s.os,s.tape,s.output,s.size,λj H hs=>s.block j H<|λe=>hs e.symm⟩ hl hp⟩
 where
 f {w:wP} (t ty e:wT) (i:gS) (size:K) (ht:P.underlying t=Z (.slice e)) (hi:P.info? e=Z i)
  (v:wN) (n:K) (xs:xS wN) (hJ:w.ownsRow 0 e size v n xs) (c:K):
  (xcf #[t,t] ty #[v,.slice wF 0 c]).run P w=.ok v w:=by
  rcases hJ.2 with⟨rfl,rfl⟩|⟨g,cap,U,rfl,_,_,hZ,_⟩
  ·simp[xcf,ul ht,WR,WW,hi,xfU,xeK]
  ·simp[xcf,ul ht,WR,WW,hi,xfU,xeK,hZ,storeCells]
def Tj{α:Type}{e:zW α}{b:wT}{xs ys:xS α}{v u:wN}{bytes:K}{a:wN}(i:K)(f:yV ops env ⟨d,.call ⟨.builtin .append,#[x,y],#[t,t]⟩,ty,pos,aft,g⟩=wL)(hd:jt N.n d=wL)
 (ht:P.underlying t=Z (.slice b)) (h:Jf P b e.agg e.n bytes a) (hc:a.cells.size=e.n) (hn:0<e.n)
 (j:ms[i]? =Z (mO e b v xs)) (l:ev env x=v) (m:ev env y=u) (o:∀(S:K->Prop) (w:wP),yM S ms w->zE S Γ w->SlQ e S ys u w)
 (p:X xs+X ys<=9223372036854775807) (q:(X xs+X ys)*bytes<=140737488355328)
 (k:∀c,TL P N we Se (ms.set i<|mO e b c<|xs++ys) Γ ops rest Q<|put env d c):TL P N we Se ms Γ ops (⟨d,.call ⟨.builtin .append,#[x,y],#[t,t]⟩,ty,pos,aft,g⟩::rest) Q env:=
 zkW f hd (aK i ht h hc hn j l m o p q) λc _=>k c
def zcO{α:Type}{e:zW α}{b:wT}{xs ys:xS α}{v u:wN}{bytes:K}{a:wN}(i:K)(f:yV ops env ⟨d,.call ⟨.builtin .append,#[x,y],#[t,t]⟩,ty,pos,aft,g⟩=wL)(hd:jt N.n d=wL)
 (ht:P.underlying t=Z (.slice b)) (j:Jf P b e.agg e.n bytes a) (hc:a.cells.size=e.n) (hn:0<e.n)
 (l:ms[i]? =Z (mO e b v xs)) (m:ev env x=v) (o:ev env y=u) (q:∀(S:K->Prop) (w:wP),zE S Γ w->(fV (eS e) ys u).p S w)
 (r:X xs+X ys<=9223372036854775807) (s:(X xs+X ys)*bytes<=140737488355328)
 (k:∀c,TL P N we Se (ms.set i<|mO e b c<|xs++ys) Γ ops rest Q<|put env d c):TL P N we Se ms Γ ops (⟨d,.call ⟨.builtin .append,#[x,y],#[t,t]⟩,ty,pos,aft,g⟩::rest) Q env:=
 Tj i f hd ht j hc hn l m o (λS w _ h=>SlQ.of<|q S w h) r s k
def zlU{α:Type}{e:zW α}{E b:K}{z:α}{w:wP}(i:K)(h:St we Se ms Γ w)(a:ms[i]? =Z (mB e.c E b z)):
 St we Se (ms.eraseIdx i) (fP e z (.pointer<|some ⟨b,0,wF⟩)::Γ) w:=
 h.freeze a λS k f j hp=>zmW f (j b O) hp
def MC{α:Type}{e:zW α}{E:K}{v:wN}{xs:xS α}{w:wP}(i:K)(h:St we Se ms Γ w)(a:ms[i]? =Z (mO e E v xs)):
 St we Se (ms.eraseIdx i) (fV (eS e) xs v::Γ) w:=
 h.freeze a λS f b c hp=>nC b c hp
def ziz{α:Type}{e:zW α}{E b:K}{xs:xS α}{n:K}{w:wP}(i:K)(h:St we Se ms Γ w)(c:ms[i]? =Z (mR e E b xs))(hn:n=X xs)(j:X xs<=9223372036854775807):
 St we Se (ms.set i<|mO e E (.slice (Z ⟨b,0,wF⟩) n n) xs) Γ w:=
 h.conv c O λS ⟨cs,f,a⟩=>by
  subst hn;have hl:cs.size=X xs*e.n:=by have:=yK.len (e:=e) a;simpa using this
  refine⟨cs.toList,⟨by simpa using hl,.inr ⟨b,X xs,cs,O,xan _,f,IR _,by unfold WS;lia,hl,?_⟩⟩,a⟩;rw[xaQ<|by simp[hl]]
end
end
section
def Yq{a b:K}(h:a≠b):E a b=I:=by grind [E,xcL]
def C1{a b:K}(h:b<=a):xdd a b=I:=by
 cases c:xdd a b
 ·rfl
 ·have:=xbK c;omega
structure Pr where
 p:(K->Prop)->wN->wP->Prop
 keepS:∀{S:K->Prop}{v:wN}{w w':wP},p S v w->yA S w w'->p S v w'
 sub:∀{S S':K->Prop}{v:wN}{w:wP},p S v w->(∀k,k<w.heap.size->S k->S' k)->p S' v w
def Pr.keep(a:Pr){S:K->Prop}{v:wN}{w w':wP}(h:a.p S v w)(x:K7 w w'):a.p S v w':=a.keepS h x.to
def prV(v:wN):Pr where
 p _ u _:=u=v
 keepS h _:=h
 sub h _:=h
def gQ(d:V Z5)(a:Pr)(K:N (Z5×Pr)):N (Z5×Pr):=match d with
 |some d=>(d,a)::K
 |none=>K
def Yz(K:N (Z5×Pr))(env0 env:y7)(S:wr->Prop)(w:wP)(t:Z5):Prop:=match K.find? (λx=>E x.1 t)with
 |some x=>x.2.p S (env t) w
 |none=>env t=env0 t
def Qq(K:N (Z5×Pr))(env0 env:y7)(S:wr->Prop)(w:wP):N Z5->Prop
 |[]=>XS
 |t::ts=>Yz K env0 env S w t/\Qq K env0 env S w ts
def Ob(P:jP)(a:uL Z0)(ms:N MF)(Γ:N FF)(env0:y7)(K:N (Z5×Pr))(o:Z0)(b:Pr):Prop:=
 ∀(S:wr->Prop) (w:wP) (env:y7),(∀k,w.heap.size<=k->S k)->yM S ms w->zE S Γ w->Qq K env0 env S w (o.looksAt a)->
  (yV a env o=wL->Zj P o env w (λv w'=>K7 w w'/\b.p S v w'))/\(yV a env o=I->b.p S uT w)
def Obs(P:jP)(a:uL Z0)(ms:N MF)(Γ:N FF)(env0:y7):N (Z0×Pr)->N (Z5×Pr)->Prop
 |[],_=>XS
 |(o,b)::r,K=>Ob P a ms Γ env0 K o b/\Obs P a ms Γ env0 r (gQ o.dst b K)
def Og:N (Z0×Pr)->N (Z5×Pr)->N (Z5×Pr)
 |[],K=>K
 |(o,a)::r,K=>Og r<|gQ o.dst a K
def Qt(o:Z0)(i:K):qR:=o.after.toList.any λe=>xcu .any e && E e.on i
def z6(l:N Z0)(i:K):Z0:=l.getD i default
def Sz(l:N Z0)(m:K):qR:=xgg m (X l) && (xaN (X l)).all λj=>
 ((z6 l j).after.toList.all λe=> !xcu .any e||xdd e.on j) &&
 (bif xdd j m then(xaN m).all λi=>E i j||(match(z6 l i).dst with
  |some t=> !((xbx l.toArray<|z6 l j).contains t||(z6 l j).dst==Z t)||(bif xdd i j then Qt (z6 l j) i else Qt (z6 l i) j)
  |none=>wL)
  else(xaN j).all λk=>Qt (z6 l j) k)
def qL(l:N Z0):K->K->K->qR
 |0,i,k=>Qt (z6 l i) k
 |f+1,i,k=>Qt (z6 l i) k||(z6 l i).after.toList.any λe=>xcu .any e && qL l f e.on k
def WG(l:N Z0)(m:K):qR:=xgg m (X l) && (xaN (X l)).all λj=>
 ((z6 l j).after.toList.all λe=> !xcu .any e||xdd e.on j) &&
 (bif xdd j m then(xaN m).all λi=>E i j||(match(z6 l i).dst with
  |some t=> !((xbx l.toArray<|z6 l j).contains t||(z6 l j).dst==Z t)||(bif xdd i j then Qt (z6 l j) i else Qt (z6 l i) j)
  |none=>wL)
  else bif E j m then(xaN m).all λk=>qL l 16 m k else Qt (z6 l j) (j-1))
section
variable{l:xS Z0}{m:wr}
def ux{o:Z0}{i:K}(h:Qt o i=wL):∃e∈o.after,xcu .any e=wL/\e.on=i:=by
 unfold Qt at h;rw[xeZ]at h;have⟨e,b,a⟩:=h;rw[xac]at a;exact⟨e,xdn.1 b,a.1,xcL a.2⟩
def Tl(h:Sz l m=wL):m<=X l/\
 (∀j,j<X l->∀e∈(z6 l j).after,xcu .any e=wL->e.on<j)/\
 (∀j i t,j<m->i<m->i≠j->(z6 l i).dst=Z t->(t∈xbx l.toArray (z6 l j)\/(z6 l j).dst=Z t)->(i<j->Qt (z6 l j) i=wL)/\(j<i->Qt (z6 l i) j=wL))/\
 (∀j,m<=j->j<X l->∀k,k<j->Qt (z6 l j) k=wL):=by
 unfold Sz at h;rw[xac,xaR]at h;have⟨h0,h1⟩:=h;have d:=xbK h0;refine⟨d,λj a e f g=> ?_,λj i t a hi hc ht hl=> ?_,λj hd a k n=> ?_⟩
 ·have:=h1 j<|xbg.2 a;rw[xac,xaR]at this;have:=this.1 e<|xdn.2 f;rw[g]at this;simpa using this
 ·have:=h1 j (xbg.2 iT);rw[xac]at this;have b:=this.2;rw[show xdd j m=wL by simpa using a,Z2,xaR]at b;have c:=b i<|xbg.2 hi;rw[Yq hc,xeC,ht]at c;have o:((xbx l.toArray<|z6 l j).contains t||(z6 l j).dst==Z t)=wL:=by
   rw[xes];obtain hl|hl:=hl
   ·left;simpa using hl
   ·right;simp[hl]
  simp only[o,xeD,xeC]at c;constructor
  ·intro p;rwa[show xdd i j=wL by simpa using p,Z2]at c
  ·intro q;rwa[C1 iT,Z3]at c
 ·have:=h1 j<|xbg.2 a;rw[xac]at this;have b:=this.2;rw[C1 hd,Z3,xaR]at b;exact b k<|xbg.2 n
def Zg(h:WG l m=wL):m<=X l/\
 (∀j,j<X l->∀e∈(z6 l j).after,xcu .any e=wL->e.on<j)/\
 (∀j i t,j<m->i<m->i≠j->(z6 l i).dst=Z t->(t∈xbx l.toArray (z6 l j)\/(z6 l j).dst=Z t)->(i<j->Qt (z6 l j) i=wL)/\(j<i->Qt (z6 l i) j=wL))/\
 (∀j,m<j->j<X l->Qt (z6 l j) (j-1)=wL)/\(m<X l->∀k,k<m->qL l 16 m k=wL):=by
 unfold WG at h;rw[xac,xaR]at h;have⟨h0,h1⟩:=h;have d:=xbK h0;refine⟨d,λj b e f g=> ?_,λj i t b hi hc ht hl=> ?_,λj q b=> ?_,λn k o=> ?_⟩
 ·have:=h1 j<|xbg.2 b;rw[xac,xaR]at this;have:=this.1 e<|xdn.2 f;rw[g]at this;simpa using this
 ·have:=h1 j (xbg.2 iT);rw[xac]at this;have a:=this.2;rw[show xdd j m=wL by simpa using b,Z2,xaR]at a;have c:=a i<|xbg.2 hi;rw[Yq hc,xeC,ht]at c;have p:((xbx l.toArray<|z6 l j).contains t||(z6 l j).dst==Z t)=wL:=by
   rw[xes];obtain hl|hl:=hl
   ·left;simpa using hl
   ·right;simp[hl]
  simp only[p,xeD,xeC]at c;constructor
  ·intro hd;rwa[show xdd i j=wL by simpa using hd,Z2]at c
  ·intro r;rwa[C1 iT,Z3]at c
 ·have:=h1 j<|xbg.2 b;rw[xac]at this;have a:=this.2;rw[C1 iT,Z3,Yq iT,Z3]at a;exact a
 ·have:=h1 m<|xbg.2 n;rw[xac]at this;have a:=this.2;rw[C1<|IR m,Z3,Nat.beq_refl,Z2,xaR]at a;exact a k<|xbg.2 o
def bf{a:uL qR}(g:∀i,i<X l->a.getD i I=wL->∀e∈(z6 l i).after,xcu .any e=wL->a.getD e.on I=wL)
 (h1:∀j,j<X l->∀e∈(z6 l j).after,xcu .any e=wL->e.on<j):∀(f i k:K),i<X l->(∀e∈(z6 l i).after,xcu .any e=wL->a.getD e.on I=wL)->qL l f i k=wL->a.getD k I=wL
 |0,i,k,hi,hd,h=>by
  have⟨e,b,d,hc⟩:=ux h;have:=hd e b d;rwa[hc]at this
 |f+1,i,k,hi,hd,h=>by
  unfold qL at h;rw[xes]at h;obtain h|h:=h
  ·have⟨e,b,d,hc⟩:=ux h;have:=hd e b d;rwa[hc]at this
  ·rw[xeZ]at h;have⟨e,b,c⟩:=h;rw[xac]at c;have n:=xdn.1 b;have o:=h1 i hi e n c.1;exact bf g h1 f e.on k iT (g e.on iT<|hd e n c.1) c.2
def Ye{i:K}(h:i<X l):l.toArray[i]? =Z (z6 l i):=by
 simp[z6,h]
end
def cvt{α:Type}{e:zW α}{x y:α}{v:wN}{S:K->Prop}{w:wP}(h:x=y)(hp:(fV e x v).p S w):(fV e y v).p S w:=h▸hp
def zdP{α:Type}{e:zW α}{S:K->Prop}{w:wP}:(fV (eS e) [] (.slice wF 0 0)).p S w:=xT.2 SlP.nil
def getD_some{α:Type}{l:N α}{k:K}(z:α)(h:k<X l):l[k]? =Z (l.getD k z):=by grind [xab]
def zlO{α:Type}{e:zW α}{xs:N α}{v:wN}{S:K->Prop}{w:wP}(h:(fV (eS e) xs v).p S w):X xs<=9223372036854775807:=by
 have⟨b,cap,hv,hc,a,_⟩:=xT.1 h;exact xap hc a
def yK.all_u{S:K->Prop}{w:wP}:∀{xs:N K}{cs:N wN},yK eU S xs cs w->∀x∈xs,x<18446744073709551616
 |[],_,_=>λx hx=>wS hx Nm
 |y::ys,_,⟨c,r,_,hc,a⟩=>λx hx=>by
  obtain rfl|hx:=xaf.1 hx
  ·exact hc.2
  ·exact yK.all_u a x hx
def zm(l:N K):Prop:=∀x∈l,x<18446744073709551616
def zeJ{xs:N K}{v:wN}{S:K->Prop}{w:wP}(h:(fV (eS eU) xs v).p S w):zm xs:=by
 have⟨e,cap,hv,hc,f,a⟩:=xT.1 h;obtain rfl|⟨b,o,cs,_,_,_,c⟩:=a
 ·exact λx d=>wS d Nm
 ·exact c.all_u
def pF(t:Z5):∀(r:N (Z0×Pr)) (K:N (Z5×Pr)),
 (∃(i:wr) (x:Z0×Pr),r[i]? =Z x/\x.1.dst=Z t/\(∀(a:wr) (b:Z0×Pr),r[a]? =Z b->b.1.dst=Z t->a<=i)/\(Og r K).find? (λy=>E y.1 t)=Z (t,x.2))\/
 ((∀(i:wr) (x:Z0×Pr),r[i]? =Z x->x.1.dst≠Z t)/\(Og r K).find? (λy=>E y.1 t)=K.find? (λy=>E y.1 t))
 |[],K=> .inr ⟨λi x h=>by simp at h,O⟩
 |(o,c)::r,K=>by
  rcases pF t r (gQ o.dst c K)with⟨i,x,h1,f,k,l⟩|⟨h1,f⟩
  ·refine .inl ⟨i+1,x,by simpa using h1,f,λa b g hd=> ?_,l⟩
   cases a with
   |zero=>omega
   |succ a=>have:=k a b (by simpa using g) hd;omega
  ·by_cases hd:o.dst=Z t
   ·refine .inl ⟨0,(o,c),O,hd,λa b g hc=> ?_,?_⟩
    ·cases a with
     |zero=>omega
     |succ a=>exact wS hc<|h1 a b<|by simpa using g
    ·show(Og r<|gQ o.dst c K).find? _=_;rw[f,hd];simp[gQ]
   ·refine .inr ⟨λi x j=> ?_,?_⟩
    ·cases i with
     |zero=>simp at j;subst j;exact hd
     |succ i=>exact h1 i x<|by simpa using j
    ·show(Og r<|gQ o.dst c K).find? _=_;rw[f]
     cases m:o.dst with
     |none=>rfl
     |some d=>
      have:E d t=I:=Yq λe=>hd (by rw[m,e]);simp[gQ,this]
def zbc{P:jP}{a:uL Z0}{ms:N MF}{Γ:N FF}{env0:y7}:∀(r:N (Z0×Pr)) (K:N (Z5×Pr)) (i:wr) (x:Z0×Pr),Obs P a ms Γ env0 r K->r[i]? =Z x->Ob P a ms Γ env0 (Og (r.take i) K) x.1 x.2
 |[],_,_,_,_,h=>by simp at h
 |(o,c)::r,K,0,x,h,b=>by simp at b;subst b;exact h.1
 |(o,c)::r,K,i+1,x,h,b=>by
  have:=zbc r (gQ o.dst c K) i x h.2 (by simpa using b);simpa[Og]using this
def Um{K:N (Z5×Pr)}{env0 env:y7}{S:wr->Prop}{w:wP}:∀(ts:N Z5),(∀t∈ts,Yz K env0 env S w t)->Qq K env0 env S w ts
 |[],_=>trivial
 |t::ts,h=>⟨h t<|H1,Um ts λu a=>h u<|UV _ a⟩
def sw{a:uL qR}{i:K}(hi:i<a.size)(c:a.getD i wL=I):∀(r:N K),
 (r.countP λk=> !(a.setIfInBounds i wL).getD k wL)<=(r.countP λk=> !a.getD k wL)/\
 (i∈r->(r.countP λk=> !(a.setIfInBounds i wL).getD k wL)<(r.countP λk=> !a.getD k wL))
 |[]=>⟨IR _,λh=>by cases h⟩
 |k::r=>by
  have d:=sw hi c r;rw[List.countP_cons,List.countP_cons];by_cases b:i=k
  ·subst b;have e1:(a.setIfInBounds i wL).getD i wL=wL:=by simp[hi]
   simp only[e1,c,xeD,Bool.not_false,uP,xao,uS];exact⟨iT,λ_=>by omega⟩
  ·rw[WD wL b];refine⟨iT,λh=> ?_⟩;have:=d.2<|(xaf.1 h).resolve_left b;omega
section
variable{P:jP}{N:Nd}{we:wP}{Se:wr->Prop}{ms:xS MF}{Γ:xS FF}{Q:Qs}{env0:y7}{l:xS Z0}{m:wr}
def zpG(hc:Sz l m=wL){q:ce->Kw->wP->Prop}:∀(c j:K) (b:uL qR) (a:Kw) (w:wP),m<=j->j<=X l->X l-j<=c->b.size=X l->
 (∀k,k<X l->b.getD k wL=decide (k<j))->WF N.F 0 P l.toArray q (l.drop j) a w->UT N.F 0 P .any l.toArray q c b a w:=by
 have⟨h0,h1,R,A⟩:=Tl hc;have hd:∀(j:K) (b:uL qR),m<=j->j<=X l->b.size=X l->(∀k,k<X l->b.getD k wL=decide (k<j))->∀i,i∈xeg .any l.toArray b->i=j:=by
  intro j b hn hp p d i hi;have⟨s,o,n,hv⟩:=mem_ready.1 hi;have ht:i<X l:=by simpa using(xbk.1 n).1
  rw[d i ht]at s;have S:j<=i:=by simpa using s
  rw[Ye ht]at n;cases n;obtain g|hge:=xca j i
  ·have⟨e,t,u,B⟩:=ux<|A i iT ht j g;have hl:=hv e t u;rw[B]at hl;have v:=d j iT;have C:j<b.size:=iT
   simp only[xbl,xcB C,xdq]at hl v;rw[hl]at v;simp at v
  ·omega
 intro c
 induction c with
 |zero=>
  intro j b a w hn hp D p d f;have:j=X l:=iT
  subst this;refine⟨?_,by simpa[WF]using f⟩
  cases E:xeg .any l.toArray b with
  |nil=>rfl
  |cons i r=>
   have hi:i∈xeg .any l.toArray b:=by rw[E];exact H1
   have G:=hd _ b hn hp p d i hi;have⟨s,o,n,_⟩:=mem_ready.1 hi;have:=(xbk.1 n).1;simp at this;omega
 |succ c H=>
  intro j b a w hn hp D p d f;rcases xca j (X l) with g|hge
  ·have y:j∈xeg .any l.toArray b:=by
    refine mem_ready.2 ⟨by rw[d j g];simp,z6 l j,Ye g,λe t u=> ?_⟩;have:=h1 j g e t u;have hl:=d e.on iT;have J:e.on<b.size:=iT
    simp only[xbl,xcB J,xdq]at hl⊢;rw[hl];simpa using this
   refine⟨λh=>(by rw[h]at y;cases y),λi hi=> ?_⟩;have:=hd j b hn hp p d i hi;subst this;rw[xcb g]at f;have L:l[i]=z6 l i:=by simp[z6,g]
   unfold WF at f;unfold wpOpIn;rw[Ye g];simp only[<-L];have next:∀a w,WF N.F 0 P l.toArray q (l.drop<|i+1) a w->UT N.F 0 P .any l.toArray q c (b.setIfInBounds i true) a w:=λa w h=>
    H (i+1) _ a w iT iT iT (by simpa using p) (λk M=>by
     by_cases z:i=k
     ·subst z;have:i<b.size:=iT
      simp[this]
     ·rw[WD wL z,d k M];simp only[decide_eq_decide];omega) h
   split
   ·rename_i x;rw[iq x]at f;exact Oper.wpIn_mono next f
   ·rename_i x;rw[ir x]at f;exact⟨f.1,next _ _ f.2⟩
  ·have:j=X l:=iT
   subst this;refine⟨λ_=>by simpa[WF]using f,λi hi=> ?_⟩;have G:=hd _ b hn hp p d i hi;have⟨s,o,n,_⟩:=mem_ready.1 hi;have:=(xbk.1 n).1;simp at this;omega
def gF(hc:WG l m=wL){q:ce->Kw->wP->Prop}:∀(c j:K) (b:uL qR) (a:Kw) (w:wP),m<=j->j<=X l->X l-j<=c->b.size=X l->
 (∀k,k<X l->b.getD k wL=decide (k<j))->WF N.F 0 P l.toArray q (l.drop j) a w->UT N.F 0 P .any l.toArray q c b a w:=by
 have⟨h0,h1,R,A,_⟩:=Zg hc;have hd:∀(j:K) (b:uL qR),m<=j->j<=X l->b.size=X l->(∀k,k<X l->b.getD k wL=decide (k<j))->∀i,i∈xeg .any l.toArray b->i=j:=by
  intro j b hn hp p d i hi;have⟨s,o,g,hv⟩:=mem_ready.1 hi;have ht:i<X l:=by simpa using(xbk.1 g).1
  rw[d i ht]at s;have S:j<=i:=by simpa using s
  rw[Ye ht]at g;cases g;obtain n|hge:=xca j i
  ·have⟨e,t,u,B⟩:=ux<|A i iT ht;have hl:=hv e t u;rw[B]at hl;have v:=d (i-1) iT;have C:i-1<b.size:=iT
   simp only[xbl,xcB C,xdq]at hl v;rw[hl]at v;simp at v;omega
  ·omega
 intro c
 induction c with
 |zero=>
  intro j b a w hn hp D p d f;have:j=X l:=iT
  subst this;refine⟨?_,by simpa[WF]using f⟩
  cases E:xeg .any l.toArray b with
  |nil=>rfl
  |cons i r=>
   have hi:i∈xeg .any l.toArray b:=by rw[E];exact H1
   have G:=hd _ b hn hp p d i hi;have⟨s,o,g,_⟩:=mem_ready.1 hi;have:=(xbk.1 g).1;simp at this;omega
 |succ c H=>
  intro j b a w hn hp D p d f;rcases xca j (X l) with n|hge
  ·have y:j∈xeg .any l.toArray b:=by
    refine mem_ready.2 ⟨by rw[d j n];simp,z6 l j,Ye n,λe t u=> ?_⟩;have:=h1 j n e t u;have hl:=d e.on iT;have J:e.on<b.size:=iT
    simp only[xbl,xcB J,xdq]at hl⊢;rw[hl];simpa using this
   refine⟨λh=>(by rw[h]at y;cases y),λi hi=> ?_⟩;have:=hd j b hn hp p d i hi;subst this;rw[xcb n]at f;have L:l[i]=z6 l i:=by simp[z6,n]
   unfold WF at f;unfold wpOpIn;rw[Ye n];simp only[<-L];have next:∀a w,WF N.F 0 P l.toArray q (l.drop<|i+1) a w->UT N.F 0 P .any l.toArray q c (b.setIfInBounds i true) a w:=λa w h=>
    H (i+1) _ a w iT iT iT (by simpa using p) (λk M=>by
     by_cases z:i=k
     ·subst z;have:i<b.size:=iT
      simp[this]
     ·rw[WD wL z,d k M];simp only[decide_eq_decide];omega) h
   split
   ·rename_i x;rw[iq x]at f;exact Oper.wpIn_mono next f
   ·rename_i x;rw[ir x]at f;exact⟨f.1,next _ _ f.2⟩
  ·have:j=X l:=iT
   subst this;refine⟨λ_=>by simpa[WF]using f,λi hi=> ?_⟩;have G:=hd _ b hn hp p d i hi;have⟨s,o,g,_⟩:=mem_ready.1 hi;have:=(xbk.1 g).1;simp at this;omega
def TV{id:K}(m:K)(d:xS Pr)(ts:xS Z5)(hm:P.follows .mixedOrders=wL)(hc:WG l m=wL)(hl:X d=m)(hd:(l.all λo=>jt N.n o.dst)=wL)
 (hY:Obs P l.toArray ms Γ env0 ((l.take m).zip d) [])
 (a3:∀(S:K->Prop) (w:wP) (env:y7),(∀k,w.heap.size<=k->S k)->zE S Γ w->Qq (Og ((l.take m).zip d) []) env0 env S w ts->
  ∃r live,zE S r w/\Kl env live/\∀rest,TL P N we Se ms r l.toArray (l.drop m) Q<|L live rest):
 T P N we Se ms Γ (.region id l.toArray wL) Q env0:=by
 intro w0 a9 a0 b0 b3 b4;have⟨h0,h1,h2,h3,c0⟩:=Zg hc;have⟨s1,s2,s3,S,s4,s5,s6,s7,s8⟩:=a9;have mk:∀w' Δ,K7 w0 w'->zE S Δ w'->St we Se ms Δ w':=λw' Δ x c1=>
  ⟨s1.trans x,s2,s3,S,s4,λk f=>s5 k<|xap x.size f,s6,yM.keep x.to (λm hm i hi=>x.block i (yM.lt s7 m hm i hi) wR) s7,c1⟩
 have e0:X ((l.take m).zip d)=m:=by simp;omega
 have hD:∀i,i<m->∃s,((l.take m).zip d)[i]? =Z (z6 l i,s):=λi hi=>by
  have hn:i<X l:=iT
  refine⟨d[i]'iT,?_⟩;rw[List.getElem?_zip_eq_some];refine⟨?_,i7⟩;rw[xcn,iq hi];simp[z6,hn]
 have hp:∀i x,((l.take m).zip d)[i]? =Z x->i<m/\x.1=z6 l i:=λi x hx=>by
  have hi:i<m:=by have:=(xar.1 hx).1;omega
  have⟨s,h⟩:=hD i hi;rw[h]at hx;cases hx;exact⟨hi,O⟩
 refine wpIn_region_any hm ?_
 have c2:∀(g:K) (b:uL qR) (a:Kw) (w:wP),(xaN (X l)).countP (λk=> !b.getD k wL)<=g->b.size=X l->a.tmps.size=N.n->a.defers=N.ds->K7 w0 w->
  (∀i,m<=i->i<X l->b.getD i wL=I)->
  (∀i,i<X l->b.getD i I=wL->∀e∈(z6 l i).after,xcu .any e=wL->b.getD e.on I=wL)->
  (∀t,((∀i,i<m->b.getD i I=wL->(z6 l i).dst≠Z t)/\yJ a t=env0 t)\/
   ∃i s,i<m/\b.getD i I=wL/\((l.take m).zip d)[i]? =Z (z6 l i,s)/\(z6 l i).dst=Z t/\(∀M,M<m->b.getD M I=wL->(z6 l M).dst=Z t->M<=i)/\s.p S (yJ a t) w)->
  UT N.F 0 P .any l.toArray (zcV N Q) g b a w:=by
  intro g
  induction g with
  |zero=>
   intro b a w hN hM b1 b2 x hq hA R;have H:∀k,k<X l->b.getD k wL=wL:=λk f=>by
    have hz:(xaN (X l)).countP (λk=> !b.getD k wL)=0:=iT
    rw[List.countP_eq_zero]at hz;have:=hz k<|xbg.2 f;simpa using this
   have e1:m=X l:=by
    rcases xca m (X l) with U|hge
    ·have h5:=hq m (IR _) U;rw[H m U]at h5;cases h5
    ·omega
   have hJ:=zE.keep x.to s8;have⟨r,live,f1,f2,f3⟩:=a3 S w (yJ a) (λk f=>s5 k<|xap x.size f) hJ (Um ts λt _=>hK hD hp R (λi hi=>by
    have A:=H i iT;rwa[c (by omega:i<b.size)]at A))
   refine gF hc 0 m b a w (IR _) h0 iT hM (λk f=>by rw[H k f];simp;omega) ?_;exact f3 (yJ a) w (mk w r x f1) a b1 b2 (be f2).symm
  |succ g ih=>
   intro b a w hN hM b1 b2 x hq hA R;by_cases H:∀k,k<m->b.getD k wL=wL
   ·have hJ:=zE.keep x.to s8;have⟨r,live,f1,f2,f3⟩:=a3 S w (yJ a) (λk f=>s5 k<|xap x.size f) hJ (Um ts λt _=>hK hD hp R (λi hi=>by
     have A:=H i hi;rwa[c (by omega:i<b.size)]at A))
    have hZ:∀k,k<X l->b.getD k wL=decide (k<m):=λk f=>by
     by_cases hR:k<m
     ·rw[H k hR];simp[hR]
     ·rw[hq k iT f];simp[hR]
    refine gF hc (g+1) m b a w (IR _) h0 (xap ?_ hN) hM hZ ?_
    ·rw[show(xaN (X l)).countP (λk=> !b.getD k wL)=(xaN (X l)).countP (λk=> !decide (k<m))from List.countP_congr λk f=>by rw[hZ k<|xbg.1 f]];exact count_ge m (X l)
    ·exact f3 (yJ a) w (mk w r x f1) a b1 b2 (be f2).symm
   ·have h4:∃k,k<m/\b.getD k wL=I:=by
     by_cases hh:∃k,k<m/\b.getD k wL=I
     ·exact hh
     ·exact wS (λk f=>by
       cases hb:b.getD k wL
       ·exact wS ⟨k,f,hb⟩ hh
       ·rfl) H
    refine⟨λhr=> ?_,λi hi=> ?_⟩
    ·exfalso;have⟨k,f,hS,h9⟩:=first_un h4;have:k∈xeg .any l.toArray b:=mem_ready.2 ⟨hS,z6 l k,Ye iT,λe J hb=>by
      have h5:=h1 k iT e J hb;have A:=h9 e.on h5;rwa[c (by omega:e.on<b.size)]at A⟩
     rw[hr]at this;cases this
    ·have⟨hu,o,ho,hB⟩:=mem_ready.1 hi;have hn:i<X l:=by simpa using(xbk.1 ho).1
     rw[Ye hn]at ho;cases ho;have hT:i<m:=by
      obtain h|h:=xca i m
      ·exact h
      ·exfalso;by_cases h':m=i
       ·subst h';have⟨k,f,hS⟩:=h4;have A:=bf hA h1 16 m k hn hB<|c0 hn k f;rw[<-c (by omega:k<b.size),hS]at A;cases A
       ·have⟨e,J,hb,hL⟩:=ux<|h3 i iT hn;have A:=hB e J hb;rw[hL,<-c (by omega:i-1<b.size),hq (i-1) iT iT]at A;cases A
     have⟨s,a4⟩:=hD i hT;have c3:=zbc _ [] i _ hY a4;have hC:∀t,(t∈xbx l.toArray (z6 l i)\/(z6 l i).dst=Z t)->∀j,j<m->(z6 l j).dst=Z t->j≠i->(b.getD j I=wL↔j<i):=by
      intro t ht j B hG hU;have h7:=h2 i j t hT B hU hG ht;constructor
      ·intro u;obtain h|h:=xca j i
       ·exact h
       ·exfalso;have⟨e,J,hb,hL⟩:=ux (h7.2 iT);have h8:=hA j iT u e J hb;rw[hL,<-c (by omega:i<b.size),hu]at h8;cases h8
      ·intro C;have⟨e,J,hb,hL⟩:=ux<|h7.1 C;have h8:=hB e J hb;rwa[hL]at h8
     have a5:b.getD i I=I:=by rw[<-c (by omega:i<b.size)];exact hu
     have hV:Qq (Og (((l.take m).zip d).take i) []) env0 (yJ a) S w (xbx l.toArray<|z6 l i):=by
      refine Um _ λt ht=> ?_;have tk:∀(j:K) (y:Z0×Pr),(((l.take m).zip d).take i)[j]? =Z y->j<i/\((l.take m).zip d)[j]? =Z y:=λj y V=>by
       rw[xcn]at V;split at V
       ·exact⟨by assumption,V⟩
       ·cases V
      unfold Yz;rcases pF t (((l.take m).zip d).take i) []with⟨j,y,g1,z,g3,g4⟩|⟨g1,z⟩
      ·rw[g4];have⟨C,V⟩:=tk j y g1;have⟨Y,hW⟩:=hp j y V;rw[hW]at z;have u:=(hC t (.inl ht) j Y z iT).2 C;rcases R t with⟨f1,_⟩|⟨k,q,k1,k2,D,G,k5,k6⟩
       ·exact wS z<|f1 j Y u
       ·have hX:k=j:=by
         have a1:=k5 j Y u z;have hH:k<i:=(hC t (.inl ht) k k1 G<|λe=>by subst e;rw[a5]at k2;cases k2).1 k2;have a2:=g3 k (z6 l k,q) (by rw[xcn,iq hH];exact D) G;omega
        subst hX;rw[D]at V;cases V;exact k6
      ·rw[z];simp only[List.find?_nil];rcases R t with⟨_,f2⟩|⟨k,q,k1,k2,D,G,k5,k6⟩
       ·exact f2
       ·exfalso;have hH:k<i:=(hC t (.inl ht) k k1 G<|λe=>by subst e;rw[a5]at k2;cases k2).1 k2;exact g1 k (z6 l k,q) (by rw[xcn,iq hH];exact D) G
     have hJ:=zE.keep x.to s8;have hO:=c3 S w (yJ a) (λk f=>s5 k<|xap x.size f) (yM.keep x.to (λm hm i hi=>x.block i (yM.lt s7 m hm i hi) wR) s7) hJ hV;have c4:jt N.n (z6 l i).dst=wL:=by
      rw[xaR]at hd;refine hd _ ?_;have:z6 l i=l[i]:=by simp[z6,hn]
      rw[this];exact xbQ _
     have next:∀v w',K7 w w'->s.p S v w'->UT N.F 0 P .any l.toArray (zcV N Q) g (b.setIfInBounds i true) (a.put (z6 l i).dst v) w':=by
      intro v w' x' hv;have hP:i<b.size:=iT
      refine ih _ _ w' ?_ (by simpa using hM) (by rw[Uq];exact b1) (by rw[XU];exact b2) (x.trans x') (λk c5 f=> ?_) (λk f a6 e J hb=> ?_)<|λt=> ?_
      ·have:=(sw hP hu<|xaN (X l)).2<|xbg.2 hn;omega
      ·rw[WD wL iT];exact hq k c5 f
      ·by_cases hH:i=k
       ·subst hH;exact Ut<|hB e J hb
       ·rw[WD I hH]at a6;exact Ut<|hA k f a6 e J hb
      ·rw[X6<|by rw[b1];exact UZ c4];by_cases hI:(z6 l i).dst=Z t
       ·right;refine⟨i,s,hT,by simp[hP],a4,hI,λj B u hG=> ?_,?_⟩
        ·by_cases C:i=j
         ·omega
         ·rw[WD I C]at u;have:=(hC t (.inr hI) j B hG iT).1 u;omega
        ·rw[hI];simpa[put,L]using hv
       ·have a7:put (yJ a) (z6 l i).dst v t=yJ a t:=by
         cases c6:(z6 l i).dst with
         |none=>rfl
         |some dd=>
          have hU:¬t=dd:=λe=>hI (by rw[c6,e]);have:E t dd=I:=Yq hU;simp[put,L,this]
        rw[a7];rcases R t with⟨f1,f2⟩|⟨k,q,k1,k2,D,G,k5,k6⟩
        ·refine .inl ⟨λj B u=> ?_,f2⟩;by_cases C:i=j
         ·subst C;exact hI
         ·rw[WD I C]at u;exact f1 j B u
        ·refine .inr ⟨k,q,k1,Ut k2,D,G,λj B u hG=> ?_,q.keep k6 x'⟩;by_cases C:i=j
         ·subst C;exact wS hG hI
         ·rw[WD I C]at u;exact k5 j B u hG
     unfold wpOpIn;rw[Ye hn];simp only[Jb];cases hQ:yV l.toArray (yJ a) (z6 l i)
     ·simp only[xao,uS];exact⟨λ_ _=>wR,next undef w (yA.refl _ _) (hO.2 hQ)⟩
     ·simp only[uP];exact(hO.1 hQ).wp λv w' a8=>next v w' a8.1 a8.2
 refine c2 l.toArray.size _ a0 _ ?_ i7 b0 b3 (K7.drawn w0 _) (λi h' hi=>by simp[hi]) (λi hi U=> ?_)<|λt=> .inl ⟨λi hi U=> ?_,by rw[b4]⟩
 ·exact xap (List.countP_le_length) i7
 ·have:i<(xeL l.toArray.size I).size:=by simpa using hi
  rw[<-c this]at U;simp[hi]at U
 ·have hn:i<X l:=iT
  have:i<(xeL l.toArray.size I).size:=by simpa using hn
  rw[<-c this]at U;simp[hn]at U
 where
 c {b:uL qR}{i:K} (h:i<b.size):b.getD i wL=b.getD i I:=by simp[xbl,xcB h]
 first_un {m:K}{b:uL qR} (h:∃k,k<m/\b.getD k wL=I):∃k,k<m/\b.getD k wL=I/\∀j,j<k->b.getD j wL=wL:=by
  have⟨k,f,hu⟩:=h
  induction k using xdG with
  |_ k ih=>
   by_cases hh:∃j,j<k/\b.getD j wL=I
   ·have⟨j,B,c7⟩:=hh;exact ih j B iT c7
   ·refine⟨k,f,hu,λj B=> ?_⟩;cases hb:b.getD j wL
    ·exact wS ⟨j,B,hb⟩ hh
    ·rfl
 count_ge (m:K):∀n,n-m<=(xaN n).countP (λk=> !decide (k<m))
  |0=>by simp
  |n+1=>by
   have:=count_ge m n;rw[xdk,List.countP_append];by_cases h:n<m
   ·omega
   ·simp[h];omega
 hK {d:xS Pr}{b:uL qR}{a:Kw}{w:wP}{S:K->Prop}{l:xS Z0}{m:K}{env0:y7} (hD:∀i,i<m->∃s,((l.take m).zip d)[i]? =Z (z6 l i,s)) (hp:∀i x,((l.take m).zip d)[i]? =Z x->i<m/\x.1=z6 l i)
  (R:∀t,((∀i,i<m->b.getD i I=wL->(z6 l i).dst≠Z t)/\yJ a t=env0 t)\/
   ∃i s,i<m/\b.getD i I=wL/\((l.take m).zip d)[i]? =Z (z6 l i,s)/\(z6 l i).dst=Z t/\(∀M,M<m->b.getD M I=wL->(z6 l M).dst=Z t->M<=i)/\s.p S (yJ a t) w)
  (H:∀i,i<m->b.getD i I=wL) {t:Z5}:Yz (Og ((l.take m).zip d) []) env0 (yJ a) S w t:=by
  unfold Yz;rcases pF t ((l.take m).zip d) []with⟨j,y,g1,z,g3,g4⟩|⟨g1,z⟩
  ·rw[g4];have⟨Y,hW⟩:=hp j y g1;rw[hW]at z;rcases R t with⟨f1,_⟩|⟨k,q,k1,k2,D,G,k5,k6⟩
   ·exact wS z<|f1 j Y<|H j Y
   ·have hX:k=j:=by
     have a1:=k5 j Y (H j Y) z;have a2:=g3 k (z6 l k,q) D G;omega
    subst hX;rw[D]at g1;cases g1;exact k6
  ·rw[z];simp only[List.find?_nil];rcases R t with⟨_,f2⟩|⟨k,q,k1,k2,D,G,k5,k6⟩
   ·exact f2
   ·exact wS G<|g1 k (z6 l k,q) D
end
end
section
def zdc{we:wP}{Se:K->Prop}{ms a:N MF}{Γ b:N FF}{R:wP->Prop}(c:∀w,St we Se ms Γ w->St we Se a b w)(k:∀w,St we Se a b w->R w):∀w,St we Se ms Γ w->R w:=
 λw h=>k w<|c w h
def zj0{a b:K}:xcs.wrap ((a:J)+(b:J))=(((a+b)%18446744073709551616:K):J):=by
 rw[<-xeO];exact zjy _
def zj7{a b:K}:xcs.wrap ((a:J)*(b:J))=(((a*b)%18446744073709551616:K):J):=by
 rw[<-xeN];exact zjy _
def zkf{a b:K}(h:b<=18446744073709551616):xcs.wrap ((a:J)-(b:J))=(((a+18446744073709551616-b)%18446744073709551616:K):J):=by
 rw[CA];lia
def zlk{a:K}(h:a<18446744073709551616):xcs.wrap (0-(a:J))=(((18446744073709551616-a)%18446744073709551616:K):J):=by
 rw[CA];lia
def zcG{a b:K}(h:a<18446744073709551616):xcs.wrap ((a:J).tdiv (b:J))=((a/b:K):J):=by
 rw[show(a:J).tdiv (b:J)=((a/b:K):J)from(Int.ofNat_tdiv a b).symm];exact n5<|xaL (xcM _ _) h
def zoj{a b:K}:(a:J).tmod (b:J)=((a%b:K):J):=(Int.ofNat_tmod a b).symm
section
variable{P:jP}{N:Nd}{we:wP}{Se:wr->Prop}{ms:xS MF}{Γ:xS FF}{Q:Qs}{env:y7}{ops:uL Z0}{rest:xS Z0}
 {d:ww Z5}{ty yt t:wT}{pos:String}{aft:uL Edge}{g:ww (wr×qR)}{x y:wW}
def N8{a n cap:K}{b:V KW}(c:P.underlying t=Z (.slice a))(e:ev env x=.slice b n cap)(w:wP):
 (kW (ev env) ⟨d,.call ⟨.builtin .len,#[x],#[t]⟩,ty,pos,aft,g⟩).run P w=.ok (.value (.int .i64 (n:J))) w:=by
 simp[kW,Wt,V2,UL,e,Builtin.len_,fN,ul c]
def LZ{α:Type}{e:zW α}{E c:K}{v:wN}{xs:xS α}(i:K)(f:ms[i]? =Z (mO e E v xs))(a:P.underlying t=Z (.slice c))(b:ev env x=v):
 MX P ⟨d,.call ⟨.builtin .len,#[x],#[t]⟩,ty,pos,aft,g⟩ env ms Γ (λ_:Z9=> .int .i64 (X xs:J)) (λ_=>[]) (λ_=>X xs<=9223372036854775807):=by
 intro w S _ h _;have⟨cs,h1,l⟩:=yM.get h f;rcases h1.2 with⟨rfl,h0⟩|⟨m,cap,j,rfl,hc,n,hd,k,_⟩
 ·refine Zj.of_value (N8 a b w) ⟨(),by rw[h0],W,yA.refl _ _,wR⟩
 ·exact Zj.of_value (N8 a b w) ⟨(),O,by unfold WS at k;lia,yA.refl _ _,wR⟩
end
end
section
def ziA{P:jP}{f:Z4}{fn:JP}{e:uL wN->Sem wN}{args:uL wN}{w:wP}{v:wN}(a:P.funcs[f]? =Z fn)(hn:(fn.name== "runtime.NumGoroutine")=I)(b:fn.body=wF)
 (h1:(xeP fn).isNone=wL) (c:xfc fn=Z e) (d:(e args).run P w=.ok v w):(ge f args).run P w=.ok (.value v) w:=by simp_all [ge]
section
variable{P:jP}{env:y7}{d:ww Z5}{ty:wT}{pos:String}{aft:uL Edge}{g:ww (wr×qR)}
def zkU{f:Z4}{fn:JP}{e:uL wN->Sem wN}{asv:N wW}{ts:uL wT}{args:N wN}{v:wN}(a:P.funcs[f]? =Z fn)(hn:(fn.name== "runtime.NumGoroutine")=I)(b:fn.body=wF)
 (h1:(xeP fn).isNone=wL) (c:xfc fn=Z e) (h:asv.map (ev env)=args) (i:∀w,(e args.toArray).run P w=.ok v w) (w:wP):
 (kW (ev env) ⟨d,.call ⟨.value (.func f),asv.toArray,ts⟩,ty,pos,aft,g⟩).run P w=.ok (.value v) w:=by
 have:=ziA (P:=P) (args:=args.toArray) (w:=w) a hn b h1 c<|i w;simp[kW,Wt,ev,xdR,V2,h,this]
def zhs(s:String)(x y c:wN):∃z:String,xbN s #[x,y,c]=(do
 let c:=(<-bV c).toNat
 if c>1 then unsupported (.noEntry z)
 pure ((<-bV x).toNat,(<-bV y).toNat,c)):=⟨_,O⟩
def GG(s:String){x y c:K}(hc:c<=1)(w:wP):(xbN s #[.int .u64 (x:J),.int .u64 (y:J),.int .u64 (c:J)]).run P w=.ok (x,y,c) w:=by
 have:¬c>1:=W
 have⟨z,a⟩:=zhs s (.int .u64 (x:J)) (.int .u64 (y:J)) (.int .u64 (c:J));rw[a];simp only[bV,V6,xay,Sem.run_map,xaI,xae,xbe,this,uS]
def zb4{x y c:K}(hc:c<=1)(w:wP):((do
 let(x,y,c)<-xbN "Add64" #[.int .u64 (x:J),.int .u64 (y:J),.int .u64 (c:J)]
 pure (xbT ((x+y+c)%xbc)<|(x+y+c)/xbc):Sem wN)).run P w=
  .ok (.tuple #[.int .u64 (((x+y+c)%18446744073709551616:K):J),.int .u64 (((x+y+c)/18446744073709551616:K):J)]) w:=by
 have e:xbc=18446744073709551616:=i0
 rw[xay,GG _ hc];simp only[xaI,xae,xbT,e];rfl
def zc6{x y c:K}(hc:c<=1)(w:wP):((do
 let(x,y,b)<-xbN "Sub64" #[.int .u64 (x:J),.int .u64 (y:J),.int .u64 (c:J)]
 pure (xbT ((x+xbc-y-b)%xbc) (if x<y+b then 1 else 0)):Sem wN)).run P w=
  .ok (.tuple #[.int .u64 (((x+18446744073709551616-y-c)%18446744073709551616:K):J),.int .u64 ((if x<y+c then 1 else 0:K):J)]) w:=by
 have e:xbc=18446744073709551616:=i0
 rw[xay,GG _ hc];simp only[xaI,xae,xbT,e];split<;>rfl
def zi5{f:Z4}{fn:JP}{a b c:wW}{ts:uL wT}{x y z:K}(e:P.funcs[f]? =Z fn)(hn:(fn.name== "runtime.NumGoroutine")=I)(h:fn.body=wF)
 (h1:(xeP fn).isNone=wL) (i:xfc fn=Z (λargs=>do
  let(x,y,c)<-xbN "Add64" args
  pure (xbT ((x+y+c)%xbc)<|(x+y+c)/xbc)))
 (j:ev env a=.int .u64 (x:J)) (hc:ev env b=.int .u64 (y:J)) (hd:ev env c=.int .u64 (z:J)) (k:z<=1) (w:wP):
 (kW (ev env) ⟨d,.call ⟨.value (.func f),#[a,b,c],ts⟩,ty,pos,aft,g⟩).run P w=
  .ok (.value (.tuple #[.int .u64 (((x+y+z)%18446744073709551616:K):J),.int .u64 (((x+y+z)/18446744073709551616:K):J)])) w:=
 zkU (asv:=[a,b,c]) e hn h h1 i (args:=[.int .u64 (x:J),.int .u64 (y:J),.int .u64 (z:J)]) (by simp[j,hc,hd]) (λw=>zb4 k w) w
def ziu{f:Z4}{fn:JP}{a b c:wW}{ts:uL wT}{x y z:K}(e:P.funcs[f]? =Z fn)(hn:(fn.name== "runtime.NumGoroutine")=I)(h:fn.body=wF)
 (h1:(xeP fn).isNone=wL) (i:xfc fn=Z (λargs=>do
  let(x,y,b)<-xbN "Sub64" args
  pure (xbT ((x+xbc-y-b)%xbc) (if x<y+b then 1 else 0))))
 (j:ev env a=.int .u64 (x:J)) (hc:ev env b=.int .u64 (y:J)) (hd:ev env c=.int .u64 (z:J)) (k:z<=1) (w:wP):
 (kW (ev env) ⟨d,.call ⟨.value (.func f),#[a,b,c],ts⟩,ty,pos,aft,g⟩).run P w=
  .ok (.value (.tuple #[.int .u64 (((x+18446744073709551616-y-z)%18446744073709551616:K):J),.int .u64 ((if x<y+z then 1 else 0:K):J)])) w:=
 zkU (asv:=[a,b,c]) e hn h h1 i (args:=[.int .u64 (x:J),.int .u64 (y:J),.int .u64 (z:J)]) (by simp[j,hc,hd]) (λw=>zc6 k w) w
end
def zje(P:jP)(w:wP)(env:y7):WP->wN->Prop
 |.tmp t,v=>env t=v
 |.cell a t,v=>∃b,env a=.pointer (Z b)/\(eX t b).run P w=.ok v w
def eN(P:jP)(w:wP)(env:y7):N WP->N wN->Prop
 |[],[]=>XS
 |r::rs,v::vs=>zje P w env r v/\eN P w env rs vs
 |_,_=>QR
def Pe(P:jP)(w:wP)(a:Kw):∀(rs:N WP) (vs:N wN),eN P w (yJ a) rs vs->(rs.mapM<|Dy a.tmps).run P w=Result.ok vs w
 |[],[],_=>by simp
 |r::rs,v::vs,⟨h1,c⟩=>by
  have d:=Pe P w a rs vs c;have h:(Dy a.tmps r).run P w=.ok v w:=by
   cases r with
   |tmp t=>simp only[zje]at h1;simp[Dy,<-h1,yJ]
   |cell x t=>
    have⟨e,e1,f⟩:=h1;have b:a.tmps.getD x uT=.pointer (Z e):=e1;simp only[Dy,b,xay,asAddr,xaI,xae,f]
  rw[List.mapM_cons,xay,h];simp only[xae,xay,d,xaI]
 |[],_::_,h=>h.elim
 |_::_,[],h=>h.elim
def XJ:N wN->wN
 |[v]=>v
 |vs=> .tuple vs.toArray
def VC{P:jP}{fn:JP}{rs:N WP}{vs:N wN}{w:wP}{a:Kw}(b:fn.results=rs.toArray)(h:eN P w (yJ a) rs vs):(Jp fn a.tmps).run P w=.ok (XJ vs) w:=by
 have e:Jp fn a.tmps=(do let vs<-fn.results.mapM (Dy a.tmps);pure (if h:vs.size=1 then vs[0]else .tuple vs)):=by unfold Jp;congr 1
 rw[e,b,Array.mapM_eq_mapM_toList];have:=Pe P w a rs vs h;simp only[xay,Sem.run_map,this,xae]
 match vs with
 |[]=>simp[XJ]
 |[v]=>simp[XJ]
 |v::u::r=>simp[XJ]
section
variable{P:jP}{we:wP}{Se:wr->Prop}{ms:xS MF}{Γ:xS FF}{env:y7}{U:Type}{val:U->wN}{facts:U->xS FF}{ok:U->Prop}{fn:JP}
def zht{α:Type}{e:zW α}{E b:K}{z:α}{w:wP}{bytes:K}{d:wN}{R:Prop}{a:Z5}(i:K)(g:St we Se ms Γ w)(h:ms[i]? =Z (mB e.c E b z))(j:env a=.pointer (Z ⟨b,0,wF⟩))
 (ht:Jf P E e.agg e.n bytes d) (k:∀v,St we Se ms (fV e z v::Γ) w->zje P w env (.cell a E) v->R):R:=by
 have⟨h1,l,m,S,o,p,q,f,r⟩:=g;have⟨cs,s,hp⟩:=yM.get f h;have hc:At w b 0 cs.toList:=At.row s;exact k (e.val cs.toList) ⟨h1,l,m,S,o,p,q,f,⟨cs.toList,O,hp⟩,r⟩ ⟨_,j,cL ht hp hc⟩
end
def FnG{U:Type}(P:jP)(f:Z4)(args:uL wN)(ms:N MF)(Γ:N FF)(b:U->wN)(own:U->N MF)(a:U->N FF)(ok:U->Prop):Prop:=
 ∀we Se F G w,St we Se (ms++F) (Γ++G) w->UP P f args w (λe w'=>∃u,e=.returned (b u)/\ok u/\St we Se (own u++F) (a u++G) w')
section
variable{P:jP}{N:Nd}{we:wP}{Se:wr->Prop}{ms F:xS MF}{Γ G:xS FF}{Q:Qs}{env:y7}{U:Type}{val:U->wN}{own:U->xS MF}{facts:U->xS FF}{ok:U->Prop}{fn:JP}
 {ops:uL Z0}{rest:xS Z0}{d:ww Z5}{ty:wT}{pos:String}{aft:uL Edge}{g:ww (wr×qR)}
def FnG.plain{f:Z4}{args:uL wN}(h:FnG P f args [] Γ val (λ_=>[]) facts ok):Fn P f args Γ val facts ok:=by
 intro w Se b a;refine(h w Se [] [] w<|St.nil (by simpa using a) b).mono ?_;rintro e w' ⟨u,h1,c,i⟩;have:=i.out (Δ:=facts u) (λS w h=>by simpa using h);exact⟨u,h1,c,this.1,this.2⟩
def FnG.frozen{f:Z4}{args:uL wN}{Δ:U->xS FF}(h:FnG P f args [] Γ val own facts ok)
 (b:∀(u:U) (w':wP) (we:wP) (Se:K->Prop),St we Se (own u) (facts u) w'->St we Se [] (Δ u) w'):Fn P f args Γ val Δ ok:=by
 intro w Se c a;refine(h w Se [] [] w<|St.nil (by simpa using a) c).mono ?_;rintro e w' ⟨u,h1,i,j⟩;have:=(b u w' w Se<|by simpa using j).out (Δ:=Δ u)<|λS w h=>h;exact⟨u,h1,i,this.1,this.2⟩
end
def NR:∀{ms:N MF}{i:K}{m:MF},Qw ms->ms[i]? =Z m->Qw (m::ms.eraseIdx i):=by
 intro ms i m h e;refine⟨λk b m' a hc=> ?_,?_⟩
 ·rw[List.mem_eraseIdx_iff_getElem?]at a;have⟨j,c,d⟩:=a;exact dp h e k b j m' c d hc
 ·exact Ke i h
def St.front{we:wP}{Se:K->Prop}{ms:N MF}{Γ:N FF}{w:wP}{m:MF}(i:K)(h:St we Se ms Γ w)(hi:ms[i]? =Z m):St we Se (m::ms.eraseIdx i) Γ w:=by
 have⟨h1,c,d,S,e,f,a,b,g⟩:=h;refine⟨h1,c,NR d hi,S,e,f,λm' hm'=> ?_,⟨yM.get b hi,aA i b⟩,g⟩;obtain rfl|hm':=xaf.1 hm'
 ·exact a _<|xbp hi
 ·exact a m'<|xdP hm'
def zdF{m:K}(h:m<=9223372036854775807):xde.wrap (m:J)=(m:J):=w64 W
def Pt{P:jP}{w:wP}(t r ty e:wT)(i:gS)(z:wN)(size bytes:K){ik:Xs}(ht:P.underlying t=Z (.slice e))(hl:P.underlying r=Z (.int ik))(hi:P.info? e=Z i)(s:i.zero=Z z)
 (M:i.size=size) (Q:i.bytes=bytes) (D:z.cells.size=size) (R:∀u∈z.cells.toList,u.oneCell'=wL) (x:0<size)
 (v:wN) (n:K) (xs:N wN) (f:w.ownsRow 0 e size v n xs) (m:K)
 (E:n+m<=WS) (hd:(n+m)*bytes<=140737488355328):
 ∃y w',(xcf #[t,r] ty #[v,.int .i64 (m:J)]).run P w=.ok y w'/\w'.ownsRow 0 e size y (n+m) (xs++(xbt z.cells m).toList)/\w.grownBy w' v.ownBlock/\
  ∀k,y.ownBlock=Z k->v.ownBlock=Z k\/w.heap.size<=k:=by
 subst M;subst Q;have hK:n+m<=9223372036854775807:=by simp only[WS]at E;lia
 have F:(xbt z.cells m).toList.length=m*i.size:=by simp[bv,D]
 have o:X (xs++(xbt z.cells m).toList)=(n+m)*i.size:=by rw[xaw,f.1,F,xbf]
 have A:=zdF (m:=m) W;have hn:¬((m:J)<0):=W
 have S:¬((m:J)*(i.bytes:J)>281474976710656):=by
  have h1:m*i.bytes<=(n+m)*i.bytes:=xak _ W;have:((m*i.bytes:K):J)<=140737488355328:=W
  rw[xeN]at this;lia
 have hp:¬(281474976710656<(m:J)*(i.bytes:J)):=S
 have a:∀(old:K),old<n+m->∀(h:V K),
  (w.drew.alloc (.cells (xs.toArray++xbt z.cells m++xbt z.cells (aC w (n+m) old e-(n+m))) e)).ownsRow 0 e i.size
   (.slice (Z ⟨w.heap.size,0,wF⟩) (n+m)<|aC w (n+m) old e) (n+m) (xs++(xbt z.cells m).toList)/\
  w.grownBy (w.drew.alloc (.cells (xs.toArray++xbt z.cells m++xbt z.cells (aC w (n+m) old e-(n+m))) e)) h:=by
  intro old ho h;have T:=grownCap_ge w (n+m) old e;have B:aC w (n+m) old e<=WS:=grownCap_le_maxLen w (n+m) old e E;refine⟨⟨o,.inr ⟨w.heap.size,_,_,O,xan _,WN w.drew _,T,B,?_,?_⟩⟩,⟨O,O,O,i7,λk b _=>RowKit.Below.heap_alloc w.drew _ k b⟩⟩
  ·simp only[Array.size_append,List.size_toArray,bv,D,f.1,<-xbf];congr 1;lia
  ·simp only[Array.toList_append,xad];rw[<-xad,<-o];exact List.take_left
 rcases f.2 with⟨rfl,rfl⟩|⟨g,cap,c,rfl,U,G,Y,B,hR,hE⟩
 ·have hx:xs=[]:=xbm (by simpa using f.1);subst hx;by_cases d:m=0
  ·subst d;refine⟨.slice wF 0 0,w,?_,by simpa[xbt]using World.ownsRow_nil w 0 e i.size,⟨O,O,O,IR _,λ_ _ _=>O⟩,λk b=> .inl b⟩;have e0:xde.wrap 0=0:=i0
   simp[xcf,ul ht,ul hl,WR,WW,hi,bV,V6,e0]
  ·have C:¬(9223372036854775807<(m:J)):=W
   have p:=bI (old:=0) (need:=0+m) (bytes:=i.bytes) W hd;have hv:¬(281474976710656<Builtin.nextslicecap m 0*i.bytes):=by simp only[xaK]at p;lia
   have l:=a 0 W<|Value.ownBlock (.slice wF 0 0);refine⟨_,_,?_,l.1,l.2,λk b=> .inr<|by cases b;exact IR _⟩;simp[xcf,ul ht,ul hl,WR,WW,aM,hi,s,bV,V6,A,d,C,hv,hn,hp,Question.forced,run_firstCells_none,aP,aC];intro h0;have:0<m*i.size:=xdy W x;lia
 ·by_cases hc:n+m<=cap
  ·have p:n*i.size+(xbt z.cells m).toList.length<=c.size:=by rw[F,hR,<-xbf];exact xak _ hc
   have h1:∀u∈(xbt z.cells m).toList,u.oneCell'=wL:=by
    intro u H;simp only[xbt,Array.toList_map,xas]at H;obtain⟨j,hj,rfl⟩:=H;have L:j%z.cells.size<z.cells.size:=xaU _ W;rw[getElem!_pos z.cells _ L];exact R _<|xdn.2<|Array.getElem_mem L
   have q:=U8 P g (n*i.size) e (xbt z.cells m).toList 0 c w G (by simpa using p) h1;simp only[xbD]at q
   have hr:(xcf #[t,r] ty #[.slice (Z ⟨g,0,wF⟩) n cap,.int .i64 (m:J)]).run P w=
    .ok (.slice (Z ⟨g,0,wF⟩) (n+m) cap) (w.setRow g (c.toList.take (n*i.size)++(xbt z.cells m).toList++c.toList.drop (n*i.size+(xbt z.cells m).toList.length)).toArray):=by
    by_cases d:m=0
    ·subst d;have e0:xde.wrap 0=0:=i0
     have ez:(xbt z.cells 0)= #[]:=by simp[xbt]
     rw[ez]at q⊢;simp[xcf,ul ht,ul hl,WR,WW,hi,bV,V6,e0,Y,Addr.add_lit,q]
    ·have hS:¬(m=0\/i.size=0):=W
     simp[xcf,ul ht,ul hl,WR,WW,aM,hi,s,bV,V6,A,hn,hp,hc,hS,Addr.add_lit,q];intro h0;have:0<m*i.size:=xdy W x;lia
   refine⟨_,_,hr,⟨o,.inr ⟨g,cap,_,O,U,eM w g c _ e _ G,hc,B,?_,?_⟩⟩,⟨O,O,O,i7,λk _ b=>setRow_other w g k _<|λe=>b<|by simp[Value.ownBlock,e]⟩,λk b=> .inl b⟩
   ·simp only[List.size_toArray,xaw,xav,xbX,xfa]at p⊢;lia
   ·rw[hE,<-o];exact List.take_left
  ·have hF:∀j u,xs[j]? =Z u->w.cell? ((⟨g,0,wF⟩:KW).add j)=Z u:=f.cells (g:=g) O;have C:¬(9223372036854775807<(n:J)+(m:J)):=W
   have hv:¬(281474976710656<Builtin.nextslicecap (n+m) cap*i.bytes):=by have:=bI (old:=cap) (need:=n+m) (bytes:=i.bytes) W hd;lia
   have l:=a cap W<|Value.ownBlock (.slice (Z ⟨g,0,wF⟩) n cap);have hT:=run_firstCells_some (P:=P) w.drew i.size n ⟨g,0,wF⟩ n cap xs f.1 (by simpa using hF);refine⟨_,_,?_,l.1,l.2,λk b=> .inr<|by cases b;exact IR _⟩;by_cases d:m=0
   ·subst d;lia
   simp[xcf,ul ht,ul hl,WR,WW,aM,hi,s,bV,V6,A,d,C,hv,hn,hp,hc,Question.forced,hT,aP,aC];intro h0;have:0<m*i.size:=xdy W x;lia
def nH{z:uL wN}{m:K}(a:z.size=m)(n:K):(xbt z n).toList=(xaa n z.toList).flatten:=by
 apply xcA;intro j;by_cases b:j<n*m
 ·have c:0<m:=xcJ λh0=>by rw[h0]at b;simp at b
  have e1:(xbt z n).toList[j]? =z.toList[j%m]? :=by
   have:=xaU j c;simp[xbt,a,b,this]
  rw[e1,zbx.flatten_get z.toList m (by simpa using a) c n j b];all_goals exact 0
 ·rw[xbB (by simp[bv,a];lia),xbB<|by simp[a];lia]
section
variable{P:jP}{N:Nd}{we:wP}{Se:wr->Prop}{ms ms':xS MF}{Γ Γ':xS FF}{Q:Qs}{env:y7}{ops:uL Z0}{rest:xS Z0}
 {d:ww Z5}{ty yt t ti:wT}{pos:String}{aft:uL Edge}{g:ww (wr×qR)}{x y:wW}
def zaq{α:Type}{e:zW α}{f:wT}{xs:xS α}{z:α}{n:K}{v:wN}{bytes:K}{a:wN}{ik:Xs}(i:K)(ht:P.underlying t=Z (.slice f))(D:P.underlying ti=Z (.int ik))(hv:Jf P f e.agg e.n bytes a)(hd:a.cells.size=e.n)(hn:0<e.n)
 (o:ms[i]? =Z (mO e f v xs)) (E:ev env x=v) (F:ev env y=.int .i64 (n:J)) (q:∀(S:K->Prop) (w:wP),e.p S z a.cells.toList w)
 (hF:X xs+n<=9223372036854775807) (G:(X xs+n)*bytes<=140737488355328):OG P ⟨d,.call ⟨.builtin .append,#[x,y],#[t,ti]⟩,ty,pos,aft,g⟩ env we Se ms Γ (λc=>c) (λc=>(ms.set i<|mO e f c<|xs++xaa n z)) (λ_=>Γ) (λ_=>XS):=by
 intro w r;have⟨S,_,⟨cs,l,he⟩,h8,_⟩:=r.mut o;have⟨H,hi,i1,i2,L⟩:=hv.info;have⟨c,w',M,hl,b,R⟩:=Pt (P:=P) t ti ty f H a e.n bytes ht D hi L i1 i2 hd (e.one<|q S w) hn v (X xs) cs l n (by unfold WS;lia) G;refine Zj.of_value (w':=w') (v:=c) ?_ ⟨c,O,wR,r.grow o ⟨b.os,b.tape,b.output,b.size,λj T m=>b.block j T<|λe=>m e.symm⟩ R ?_⟩
 ·simp only[kW,Wt,V2,UL,xee,xbS,xex,E,F,xay,M,xaI,xae]
 ·intro S U ⟨h,hp,V⟩ Y;have hB:h=cs:=by
   rcases l.2 with⟨rfl,h0⟩|⟨g,cap,a0,rfl,_,hC,_,_,_,hD⟩
   ·have s:=l.1;have u:=hp.1;rw[h0]at s u;have c1:cs=[]:=xbm (by simpa using s);have c2:h=[]:=xbm (by simpa using u);rw[c1,c2]
   ·rcases hp.2 with⟨hc,_⟩|⟨g',A,B,hE,_,C,_,_,_,hq⟩
    ·cases hc
    ·cases hE;rw[hC]at C;cases C;rw[<-hD,<-hq]
  subst hB;have kk:yA S w w':=⟨b.os,b.tape,b.output,b.size,λk hk m=>b.block k hk<|λe=>U k m e.symm⟩;rw[nH hd]at hl;exact⟨_,by rw[xaw,xaM];exact hl,(V.keep kk).append<|yK.replicate (q _ _) n⟩
end
def zE.left{S:K->Prop}{w:wP}:∀{Γ Δ:N FF},zE S (Γ++Δ) w->zE S Γ w
 |[],_,_=>trivial
 |_::_,_,h=>⟨h.1,zE.left h.2⟩
def zE.right{S:K->Prop}{w:wP}:∀{Γ Δ:N FF},zE S (Γ++Δ) w->zE S Δ w
 |[],_,h=>h
 |_::_,_,h=>zE.right h.2
def Fn.ok_mono{U:Type}{P:jP}{f:Z4}{args:uL wN}{Γ:N FF}{g:U->wN}{d:U->N FF}{ok i:U->Prop}(h:Fn P f args Γ g d ok)(j:∀u,ok u->i u):Fn P f args Γ g d i:=
 λw Se h1 k=>(h w Se h1 k).mono λe w' ⟨u,a,b,c⟩=>⟨u,a,j u b,c⟩
end
section
def rowT{α:Type}(e:zW α)(cap:K):ru (N α)where
 p S xs cs w:=∃c post,cs=c++post/\yK e S xs c w/\X cs=cap*e.n
 keep:=λ⟨c,post,h1,a,b⟩ k=>⟨c,post,h1,a.keep k,b⟩
 sub:=λ⟨c,post,h1,a,b⟩ k=>⟨c,post,h1,a.sub k,b⟩
def Sub.rowT{α:Type}(e:zW α)(cap:K)(xs:N α)(i:K)(x:α)(j:xs[i]? =Z x):Sub (rowT e cap) xs (i*e.n) e x (λy=>xs.set i y):=by
 rintro S w cs ⟨c0,a,rfl,k,hl⟩;obtain⟨d,c,b,rfl,l,f,m⟩:=Sub.row e xs i x j S w c0 k;refine⟨d,c,b++a,by simp[xad],l,f,λw' y g o h=>⟨d++g++b,a,by simp[xad],m w' y g o h,?_⟩⟩;have e1:=e.len f;have p:=e.len h;simp only[xaw]at hl⊢;lia
def Sub.rowT0{α:Type}(e:zW α)(cap:K)(xs:N α)(i:K)(x:α)(a:xs[i]? =Z x):Sub (Go.Proofs.YtoegnnjcmlghhaaGreat.rowT e cap) xs (0+i*e.n) e x (λy=>xs.set i y):=by
 rw[xaK];exact Sub.rowT e cap xs i x a
section
variable{we:wP}{Se:wr->Prop}{ms:xS MF}{Γ:xS FF}{w:wP}{α:Type}{e:zW α}{E:wT}{xs:xS α}
theorem wz{i:K}{m:MF}(h:St we Se ms Γ w)(hi:ms[i]? =Z m){p:Prop}(hp:∀S:K->Prop,m.p S w->p):p:=by grind [St.muts]
def St.openO{v:wN}(i:K)(h:St we Se ms Γ w)(c:ms[i]? =Z (mO e E v xs))(hi:0<X xs):
 ∃g cap,v=.slice (Z ⟨g,0,wF⟩) (X xs) cap/\X xs<=cap/\cap<=9223372036854775807/\St we Se (ms.set i<|mB (rowT e cap) E g xs) Γ w:=by
 have:∃g cap,v=.slice (Z ⟨g,0,wF⟩) (X xs) cap/\X xs<=cap/\cap<=9223372036854775807:=wz h c λS ⟨cs,h1,b⟩=>by
  rcases h1.2 with⟨rfl,h0⟩|⟨g,cap,a,rfl,l,d,f,hc,hd,j⟩
  ·lia
  ·exact⟨g,cap,O,f,hc⟩
 obtain⟨g,cap,rfl,h1,b⟩:=this;refine⟨g,cap,O,h1,b,h.conv c O λS ⟨cs,h1,b⟩=> ?_⟩;rcases h1.2 with⟨h0,_⟩|⟨m,k,a,hv,l,d,f,hc,hd,j⟩
 ·cases h0
 ·cases hv;refine⟨a,d,cs,a.toList.drop<|X xs*e.n,?_,b,by simpa using hd⟩;rw[<-j,xbv]
def St.closeO{g cap:K}(i n:K)(h:St we Se ms Γ w)(d:ms[i]? =Z (mB (rowT e cap) E g xs))(hn:n<=X xs)(hc:n<=cap)(k:cap<=9223372036854775807):
 St we Se (ms.set i<|mO e E (.slice (Z ⟨g,0,wF⟩) n cap)<|xs.take n) Γ w:=by
 refine h.conv d O λS ⟨cs,f,c,a,h1,b,j⟩=>⟨c.take<|n*e.n,?_,b.take n⟩;have hl:X (xs.take n)=n:=by simp;lia
 have hd:=b.len;have l:n*e.n<=X xs*e.n:=xak _ hn;rw[hl];refine⟨by simp;lia,.inr ⟨g,cap,cs,O,xan _,f,hc,by unfold WS;lia,by simpa using j,?_⟩⟩;rw[h1,List.take_append_of_le_length W]
def St.closeF{g cap:K}(i:K)(h:St we Se ms Γ w)(a:ms[i]? =Z (mB (rowT e cap) E g xs))(hc:X xs<=cap)(b:cap<=9223372036854775807):
 St we Se (ms.set i<|mO e E (.slice (Z ⟨g,0,wF⟩) (X xs) cap) xs) Γ w:=by
 have:=h.closeO i (X xs) a (IR _) hc b;rwa[xbY]at this
def St.rowRT{b n:K}(i:K)(h:St we Se ms Γ w)(c:ms[i]? =Z (mR e E b xs))(hn:n=X xs):St we Se (ms.set i<|mB (rowT e n) E b xs) Γ w:=
 h.conv c O λS ⟨cs,d,a⟩=>⟨cs,d,cs.toList,[],i7,a,by rw[hn];exact yK.len (e:=e) a⟩
end
section
variable{P:jP}{N:Nd}{we:wP}{Se:wr->Prop}{ms:xS MF}{Γ:xS FF}{Q:Qs}{env:y7}{ops:uL Z0}{rest:xS Z0}
 {d:ww Z5}{ty yt t t':wT}{pos:String}{aft:uL Edge}{g:ww (wr×qR)}{x y:wW}
def OU{e:wT}{ag:qR}{c bytes:K}{a:wN}{b o n cap l h:K}{lo hi:V wN}{w:wP}(ht:P.underlying t=Z (.slice e))(hd:Jf P e ag c bytes a)
 (hl:lo=Z (.int .i64 (l:J))\/(lo=wF/\l=0)) (f:hi=Z (.int .i64 (h:J))\/(hi=wF/\h=n)) (j:l<=h) (k:h<=cap) (m:l<cap\/l=0):
 (xdb t (.slice (Z ⟨b,o,wF⟩) n cap) lo hi wF).run P w=.ok (.slice (Z ⟨b,o+l*c,wF⟩) (h-l)<|cap-l) w:=by
 have b1:(0:J)<=(l:J)/\(l:J)<=(h:J):=W
 have b2:(0:J)<=(h:J)/\(h:J)<=(cap:J):=W
 have i:(xdb t (.slice (Z ⟨b,o,wF⟩) n cap) lo hi wF).run P w=.ok (.slice (if cap=l then Z ⟨b,o,wF⟩else(Z (⟨b,o,wF⟩:KW)).map (·.add (l*c))) (h-l)<|cap-l) w:=by
  unfold xdb;simp only[xay,ul ht,xae];unfold xfX;simp only[xay,ul ht,xae];unfold xer
  obtain rfl|⟨rfl,rfl⟩:=hl<;>obtain rfl|⟨rfl,rfl⟩:=f<;>
   simp only[xeF,V6,xay,xaI,xae,iq b1,iq b2,wv hd,xbe]
 rw[i];by_cases hc:cap=l
 ·have:l=0:=W
  subst this;simp[hc]
 ·simp[hc,qW]
def NX{c:wT}{ag:qR}{e bytes:K}{a:wN}{b o n cap h:K}{hi:wW}(f:ev env x=.slice (Z ⟨b,o,wF⟩) n cap)(ht:P.underlying t=Z (.slice c))(i:Jf P c ag e bytes a)
 (j:ev env hi=.int .i64 (h:J)) (hc:h<=cap) (w:wP):(kW (ev env) ⟨d,.slice t x wF (Z hi) wF,ty,pos,aft,g⟩).run P w=.ok (.value (.slice (Z ⟨b,o,wF⟩) h cap)) w:=by
 have:=OU (P:=P) (b:=b) (o:=o) (n:=n) (w:=w) (lo:=wF) (hi:=Z (.int .i64 (h:J))) (l:=0) ht i (.inr ⟨O,O⟩) (.inl O) (xan _) hc (.inr O);simp only[xcp,xbD,Nat.sub_zero]at this;simp[kW,f,j,this]
def zdN{α:Type}{e:zW α}{a:wT}{bytes:K}{b:wN}(ht:P.underlying t=Z (.slice a))(c:Jf P a e.agg e.n bytes b):OG P ⟨d,.buildSlice t 0 #[],ty,pos,aft,g⟩ env we Se ms Γ (λv=>v) (λv=>(mO e a v []::ms)) (λ_=>Γ) (λ_=>XS):=by
 intro w hc;have f:(xeG t 0 #[]).run P w=.ok (.slice (Z ⟨w.heap.size,0,wF⟩) 0 0) (w.alloc (.cells #[] a)):=by
  unfold xeG;simp only[xay,ul ht,xae,wv c,ir (W:¬0*e.n>2^24),aP,xcp,uP];simp[xdx,WL];congr 2;apply Array.eq_empty_of_size_eq_zero;simp
 refine Zj.of_value (w':=w.alloc (.cells #[] a)) (v:=.slice (Z ⟨w.heap.size,0,wF⟩) 0 0) ?_ ⟨_,O,wR,hc.fresh (K7.alloc w _) O i7 λS _ _=>⟨[],?_,O⟩⟩
 ·simp[kW,f]
 ·exact⟨i7,.inr ⟨w.heap.size,0,#[],O,xan _,WN w _,IR _,xan _,i7,i7⟩⟩
def zd2{α:Type}{e:zW α}{b:wT}{bytes:K}{a:wN}(c:yV ops env ⟨d,.buildSlice t 0 #[],ty,pos,aft,g⟩=wL)(hd:jt N.n d=wL)
 (ht:P.underlying t=Z (.slice b)) (f:Jf P b e.agg e.n bytes a)
 (k:∀v,TL P N we Se (mO e b v []::ms) Γ ops rest Q<|put env d v):TL P N we Se ms Γ ops (⟨d,.buildSlice t 0 #[],ty,pos,aft,g⟩::rest) Q env:=
 zkW c hd (zdN ht f) λv _=>k v
end
section
variable{P:jP}{env:y7}{d:ww Z5}{ty t:wT}{pos:String}{aft:uL Edge}{g:ww (wr×qR)}{x y c:wW}{w:wP}{S:wr->Prop}{v:wN}
def zqv{f:Go.Fn}{xs:N wW}{vs:N wN}(h:xs.map (ev env)=vs)(w:wP):(kW (ev env) ⟨d,.makeFunc f #[] xs.toArray,ty,pos,aft,g⟩).run P w=.ok (.value (.func f #[] vs.toArray)) w:=
 fS (by simp[pv,h]) w
end
section
variable{P:jP}{N:Nd}{we:wP}{Se:wr->Prop}{ms:xS MF}{Γ:xS FF}{Q:Qs}{env:y7}{ops:uL Z0}{rest:xS Z0}
 {d:ww Z5}{ty yt t t':wT}{pos:String}{aft:uL Edge}{g:ww (wr×qR)}{x y:wW}
def Fg(w:wP)(k p ty b:wT)(g o dLen dCap:K)(a:KW)(e f:K)(c:uL wN)(t:wT)(cs:xS wN){n m:K}
 (q:P.underlying k=Z (.slice b)) (l:(P.info? b).map (·.size)=Z n) (r:Nat.min e dLen=m)
 (s:w.heap[g]? =Z (.cells c t (0,0))) (hn:X cs=m*n)
 (u:∀j v,cs[j]? =Z v->w.cell? (a.add j)=Z v) (hc:o+X cs<=c.size) (h1:∀v∈cs,v.oneCell'=wL):
 (xfV #[k,p] ty #[.slice (Z ⟨g,o,wF⟩) dLen dCap,.slice (Z a) e f]).run P w=
  .ok (fN m) (w.setRow g (c.toList.take o++cs++c.toList.drop (o+X cs)).toArray):=by
 have hl:=US (P:=P) w a cs u;have hd:=U8 P g o t cs 0 c w s (by simpa using hc) h1
 cases h:P.info? b with
 |none=>simp[h]at l
 |some i=>
  have hi:i.size=n:=by simpa[h]using l
  simp[xfV,ul q,xfU,xeK,WR,WW,h,hi,r,<-hn,hl,hd]
def JL(w:wP)(f j ty b:wT)(d a:V KW)(dLen dCap c e:K)(k:P.underlying f=Z (.slice b)){n:K}(l:(P.info? b).map (·.size)=Z n)(hn:Nat.min c dLen=0):
 (xfV #[f,j] ty #[.slice d dLen dCap,.slice a c e]).run P w=.ok (fN 0) w:=by
 cases h:P.info? b with
 |none=>simp[h]at l
 |some i=>
  have hl:∀(x:KW),(loadCells x 0).run P w=.ok #[] w:=λx=>by simpa using US (P:=P) w x [] i7
  cases d<;>cases a<;>simp[xfV,ul k,xfU,xeK,WR,WW,h,hn,storeCells,hl]
def Pv{α:Type}{e:zW α}{r E b l dLen dCap cap bytes:K}{s u:wN}{xs ys:xS α}(i:K)(ht:P.underlying t=Z (.slice r))(hJ:Jf P r e.agg e.n bytes s)(A:ms[i]? =Z (mB (rowT e cap) E b xs))(hx:ev env x=.slice (Z ⟨b,0+l*e.n,wF⟩) dLen dCap)(hy:ev env y=u)
 (hl:l+dLen<=X xs) (R:∀(S:K->Prop) (w:wP),zE S Γ w->(fV (eS e) ys u).p S w):OG P ⟨d,.call ⟨.builtin .copy,#[x,y],#[t,t']⟩,ty,pos,aft,g⟩ env we Se ms Γ (λn:J=>(.int .i64 n)) (λn=>(ms.set i<|mB (rowT e cap) E b<|xs.take l++ys.take (min (X ys) dLen)++xs.drop (l+min (X ys) dLen))) (λ_=>Γ) (λ_=>XS):=by
 intro w hn;have⟨S0,⟨c,B,c0,h,hz,hA,hK⟩,hT,hL⟩:=hn.muts A;have⟨ao,f,C,h1,h2,D⟩:=xT.1<|R S0 w hL;have⟨ti,hi,i1,i2,i3⟩:=hJ.info;have T:(P.info? r).map (·.size)=Z e.n:=by rw[hi];simp[i1]
 have U:∀v w',(xfV #[t,t'] ty #[.slice (Z ⟨b,0+l*e.n,wF⟩) dLen dCap,u]).run P w=.ok v w'->
  (kW (ev env) ⟨d,.call ⟨.builtin .copy,#[x,y],#[t,t']⟩,ty,pos,aft,g⟩).run P w=.ok (.value v) w':=λv w' o=>by
  simp only[kW,Wt,V2,UL,xee,xbS,xex,hx,hy,xay,o,xaI,xae]
 have⟨m,z⟩:∃m,min (X ys) dLen=m:=⟨_,O⟩;have V:Nat.min (X ys) dLen=m:=z;have hU:m<=dLen:=by rw[<-z];exact Nat.min_le_right _ _
 have hc:m<=X ys:=by rw[<-z];exact Nat.min_le_left _ _
 have e1:(l+m)*e.n=l*e.n+m*e.n:=xbf _ _ _;have F:l*e.n+m*e.n<=X xs*e.n:=by rw[<-e1];exact xak _ W
 have e3:m*e.n<=X ys*e.n:=xak _ hc;have hV:X c0=X xs*e.n:=hA.len;rw[z];by_cases h0:m=0
 ·have o:=JL (P:=P) w t t' ty r (Z ⟨b,0+l*e.n,wF⟩) ao dLen dCap (X ys) f ht T<|V.trans h0;rw[<-C]at o;refine Zj.of_value (U _ _ o) ⟨_,O,wR,?_⟩;rw[h0];simp only[xbD,List.take_zero,xbO,xbv];have:ms.set i (mB (rowT e cap) E b xs)=ms:=by
   have⟨hW,hM⟩:=xar.1 A;rw[<-hM,xdh]
  rw[this];exact hn
 ·obtain D|⟨sb,so,cs,rfl,hX,Y,hp⟩:=D
  ·rw[D]at hc;simp at hc;lia
  ·have hN:X cs=X ys*e.n:=hp.len;have hE:X (cs.take<|m*e.n)=m*e.n:=by rw[xav,hN];lia
   have e4:X c.toList=X c0+X h:=by rw[hz,xaw]
   have hF:0+l*e.n+X (cs.take<|m*e.n)<=c.size:=by
    simp only[xfa]at e4;lia
   have o:=Fg (P:=P) w t t' ty r b (0+l*e.n) dLen dCap ⟨sb,so,wF⟩ (X ys) f c E (cs.take<|m*e.n) ht T V B hE
    (λj v hv=>by rw[qW];exact(Y.take _).2 j v hv) hF (λv hv=>hp.one v<|xdo hv)
   rw[<-C]at o;refine Zj.of_value (U _ _ o) ⟨_,O,wR,hn.write A O O (Q0 w b _) ?_⟩;rintro S hS ⟨a0,hG,c1,q,hH,hd,hq⟩ h8;rw[B]at hG;cases hG;have⟨a1,G,hI,_,_,H⟩:=xT.1<|R S w h8;rw[C]at hI;cases hI;obtain H|⟨a2,a3,a,hO,hY,hP,hg⟩:=H
   ·rw[H]at hc;simp at hc;lia
   ·cases hO;have hQ:a=cs:=by
     have hR:X a=X cs:=by rw[hg.len,hp.len]
     apply xcA;intro j;by_cases L:j<X cs
     ·have e1:=Y.2 j cs[j] (by simp[L]);have F:=hP.2 j a[j] (by simp[hR,L]);rw[e1]at F;rw[xab L,xab (by lia:j<X a),F]
     ·rw[xbB (l:=cs) W,xbB (l:=a) W]
    subst hQ;have hZ:X c1=X xs*e.n:=hd.len;have M:yA S w (w.setRow b (c.toList.take (0+l*e.n)++a.take (m*e.n)++c.toList.drop (0+l*e.n+X (a.take<|m*e.n))).toArray):=(Q0 w b _).weak λk _ hk=>hS k hk;refine⟨_,eM w b c _ E (0,0) B,c1.take (l*e.n)++a.take (m*e.n)++c1.drop ((l+m)*e.n),q,?_,?_,?_⟩
    ·rw[hE,xaK,e1,hH,List.take_append_of_le_length W,List.drop_append_of_le_length W];simp[xad]
    ·exact(((hd.keep M).take l).append<|(hg.keep M).take m).append<|(hd.keep M).drop<|l+m
    ·rw[<-hq];simp only[xaw,xav,xbX];lia
end
end
section
section
variable{P:jP}{env:y7}{ms:xS MF}{Γ:xS FF}{d:ww Z5}{ty t yt:wT}{pos:String}{aft:uL Edge}{g:ww (wr×qR)}{x y:wW}
def FK{t E:wT}{a:V KW}{n c:K}(ht:P.underlying t=Z (.slice E))(w:wP):(Op.equal t (.slice a n c) (.slice wF 0 0)).run P w=.ok a.isNone w:=by
 show(Op.equalIn (9999+1) t (.slice a n c) (.slice wF 0 0)).run P w=_;unfold Op.equalIn;cases a<;>simp only[xay,ul ht,xae,xaI,Option.isNone_none,Option.isNone_some]
def zj4{α:Type}{e:zW α}{xs:N α}{v:wN}{E:wT}(ht:P.underlying t=Z (.slice E))(i:ev env x=v)(j:ev env y=.slice wF 0 0)(k:∀(S:K->Prop) (w:wP),zE S Γ w->(fV (eS e) xs v).p S w):
 MX P ⟨d,.binOp .eql t x y yt,ty,pos,aft,g⟩ env ms Γ (λu:qR=> .bool u) (λ_=>[]) (λu=>u=wL->xs=[]):=by
 intro w S _ _ c;have⟨a,cap,hv,h1,h,f⟩:=xT.1<|k S w c;have l:(V5 .eql t x y (.slice a (X xs) cap) (.slice wF 0 0)).run P w=.ok () w:=by simp[V5]
 have h:(WT .eql t (.slice a (X xs) cap) (.slice wF 0 0)).run P w=.ok (.bool a.isNone) w:=by simp only[WT,xay,FK ht,xae,xaI]
 refine Zj.of_value (w':=w) (v:=.bool a.isNone) ?_ ⟨a.isNone,O,λhn=> ?_,yA.refl _ _,wR⟩
 ·simp only[kW,i,hv,j,xay,l,h,xae,xaI]
 ·obtain f|⟨b,o,cs,rfl,_⟩:=f
  ·exact f
  ·simp at hn
end
section
variable{P:jP}{env:y7}{d:ww Z5}{ty t:wT}{pos:String}{aft:uL Edge}{g:ww (wr×qR)}{x y c:wW}{w:wP}{S:wr->Prop}{v:wN}{o:Z0}
def zjI(hc:ev env c=.bool wL)(h:ev env x=v)(w:wP):(kW (ev env) ⟨d,.pick c x y,ty,pos,aft,g⟩).run P w=.ok (.value v) w:=fS (by simp[pv,hc,h]) w
def zjr(hc:ev env c=.bool I)(h:ev env y=v)(w:wP):(kW (ev env) ⟨d,.pick c x y,ty,pos,aft,g⟩).run P w=.ok (.value v) w:=fS (by simp[pv,hc,h]) w
end
def jH(x y:J):J:=if x<y then-1 else if y<x then 1 else 0
theorem qG{x y:J}(h:x<y):jH x y= -1:=by simp[jH,h]
theorem vM{x y:J}(h:y<x):jH x y=1:=by grind [jH]
theorem kP{x y:J}(h:x=y):jH x y=0:=by grind [jH]
end
section
section
variable{P:jP}{N:Nd}{we:wP}{Se:wr->Prop}{ms:xS MF}{Γ:xS FF}{Q:Qs}{env0:y7}{l:xS Z0}
theorem lX{env:y7}{d:V Z5}{v:wN}{t:Z5}(h:d≠Z t):put env d v t=env t:=by
 cases d with
 |none=>rfl
 |some dd=>
  have a:¬t=dd:=λe=>h (by rw[e]);have:E t dd=I:=Yq a;simp[put,L,this]
theorem CT{env:y7}{v:wN}{t:Z5}:put env (Z t) v t=v:=by simp[put,L]
end
end
section
section
variable{P:jP}{N:Nd}{we:wP}{Se:wr->Prop}{ms F:xS MF}{Γ:xS FF}{env:y7}{U:Type}{val:U->wN}{own:U->xS MF}{facts:U->xS FF}{ok:U->Prop}{fn:JP}
 {ops:uL Z0}{rest:xS Z0}{d:ww Z5}{t ty yt:wT}{pos:String}{aft:uL Edge}{g:ww (wr×qR)}{x y:wW}
def zcQ{α:Type}{e:zW α}{b:wT}{xs ys:xS α}{v u:wN}{bytes:K}{a:wN}(i:K)
 (ht:P.underlying t=Z (.slice b)) (f:Jf P b e.agg e.n bytes a) (hc:a.cells.size=e.n) (hn:0<e.n)
 (j:ms[i]? =Z (mO e b v xs)) (k:ev env x=v) (l:ev env y=u) (m:∀(S:K->Prop) (w:wP),zE S Γ w->(fV (eS e) ys u).p S w)
 (hd:X xs+X ys<=9223372036854775807) (o:(X xs+X ys)*bytes<=140737488355328):
 OG P ⟨d,.call ⟨.builtin .append,#[x,y],#[t,t]⟩,ty,pos,aft,g⟩ env we Se ms Γ (λc=>c) (λc=>ms.set i<|mO e b c<|xs++ys) (λ_=>Γ) (λ_=>XS):=
 aK i ht f hc hn j k l (λS w _ h=>SlQ.of<|m S w h) hd o
end
end
section
abbrev KH(x:J):Prop:= -9223372036854775808<=x/\x<=9223372036854775807
abbrev aw(x:K):Prop:=x<18446744073709551616
section
variable{α β:Type}
def ck(p:Prop)[V1 p](k:V α):V α:=if p then k else wF
def zf(e:J)(k:J->V α):V α:=if KH e then k e else wF
def zI(i:J)(n:K)(k:K->V α):V α:=if 0<=i/\i<(n:J)then k i.toNat else wF
def jX(i:J)(k:K->V α):V α:=if 0<=i then k i.toNat else wF
def nm(e:β)(k:β->V α):V α:=k e
def bd(x:V β)(k:β->V α):V α:=match x with
 |some v=>k v
 |none=>wF
def zg(f:(β->V α)->β->V α):K->β->V α
 |0,_=>wF
 |k+1,s=>f (zg f k) s
theorem Zo{p:Prop}[V1 p]{k:V α}{r:α}(h:ck p k=Z r):p/\k=Z r:=by grind [ck]
theorem Jm{e:J}{k:J->V α}{r:α}(h:zf e k=Z r):∃x,x=e/\KH x/\k x=Z r:=by grind [zf]
theorem zkq{i:J}{n:K}{k:K->V α}{r:α}(h:zI i n k=Z r):∃j:K,i=(j:J)/\j<n/\k j=Z r:=by grind [zI]
theorem zbb{i:J}{k:K->V α}{r:α}(h:jX i k=Z r):∃j:K,i=(j:J)/\k j=Z r:=by grind [jX]
def xR{e:β}{k:β->V α}{r:α}(h:nm e k=Z r):∃x,x=e/\k x=Z r:=⟨e,O,h⟩
def r9{x:V β}{k:β->V α}{r:α}(h:bd x k=Z r):∃v,x=Z v/\k v=Z r:=by
 cases x with
 |none=>cases h
 |some v=>exact⟨v,O,h⟩
def zmY{c:Prop}[V1 c]{x y:V α}{r:α}(hc:c)(h:(if c then x else y)=Z r):x=Z r:=by rwa[iq hc]at h
def zmZ{c:Prop}[V1 c]{x y:V α}{r:α}(hc:¬c)(h:(if c then x else y)=Z r):y=Z r:=by rwa[ir hc]at h
def zby{f:(β->V α)->β->V α}{s:β}{r:α}(h:zg f 0 s=Z r):QR:=by cases h
def zbN{f:(β->V α)->β->V α}{k:K}{s:β}{r:α}(h:zg f (k+1) s=Z r):f (zg f k) s=Z r:=h
end
section
variable{α β:Type}
theorem w8{p:Prop}[V1 p]{k:V α}(h:p):ck p k=k:=iq h
def yW{p:Prop}[V1 p]{k:V α}(h:p:=by lia):ck p k=k:=am h
theorem Df{e:J}{k:J->V α}(h:KH e):zf e k=k e:=iq h
def zb{e:J}{k:J->V α}(h1: -9223372036854775808<=e:=by lia)(a:e<=9223372036854775807:=by lia):zf e k=k e:=am ⟨h1,a⟩
def DQ{i:J}{n:K}{k:K->V α}(h:0<=i/\i<(n:J)):zI i n k=k i.toNat:=iq h
theorem zo{i n:K}{k:K->V α}(h:i<n):zI (i:J) n k=k i:=by rw[DQ ⟨W,W⟩];rfl
def z8{i n:K}{k:K->V α}(h:i<n:=by lia):zI (i:J) n k=k i:=zo h
def znN{i:J}{k:K->V α}(h:0<=i):jX i k=k i.toNat:=iq h
theorem yF{i:K}{k:K->V α}:jX (i:J) k=k i:=by rw[znN W];rfl
theorem ze{e:β}{k:β->V α}:nm e k=k e:=O
theorem za{x:V β}{v:β}{k:β->V α}(h:x=Z v):bd x k=k v:=by rw[h];rfl
def kH{f:(β->V α)->β->V α}{k:K}{s:β}:zg f (k+1) s=f (zg f k) s:=O
end
def NL{n:K}(h:n<=9223372036854775807):KH (n:J):=⟨W,W⟩
def znQ(x:K):aw (x%18446744073709551616):=xaU _ i0
def zme{x e:K}(h:x=e)(a:aw e):aw x:=h▸a
def zhB{x e:J}(h:x=e)(a:KH e):KH x:=h▸a
def Vw{x e:K}(h:x=e%18446744073709551616):aw x:=h▸znQ e
def zmz{a b x:J}(c:KH a)(h:x=a.tmod b):KH x:=by
 subst h;have h1:=Int.natAbs_tmod a b;have d:=Nat.mod_le a.natAbs b.natAbs;have e:(a.tmod b).natAbs<=a.natAbs:=W
 obtain h0|h0:=Int.le_total 0 a
 ·have:=Int.tmod_nonneg b h0;exact⟨W,W⟩
 ·have:a.tmod b<=0:=by
   have:=Int.tmod_nonneg b (a:= -a) W;rw[Int.neg_tmod]at this;lia
  exact⟨W,W⟩
def zm4{a b x:K}(c:aw a)(h:x=a%b):aw x:=by
 have:=Nat.mod_le a b;unfold aw at*;lia
def Dt{a b x:K}(c:aw a)(h:x=a/b):aw x:=by
 have:=xcM a b;unfold aw at*;lia
def znU{a b:J}(c:KH a)(d:KH b):KH (max a b):=by unfold KH at*;lia
def znO{a b:J}(c:KH a)(d:KH b):KH (min a b):=by unfold KH at*;lia
def zn4{α:Type}{l:N α}{k:K}{y z:α}(h:k<X l)(a:y=l.getD k z):l[k]? =Z y:=by rw[a];exact getD_some z h
def sgn(x:K):J:=if x<9223372036854775808 then(x:J)else(x:J)-18446744073709551616
def Cr(x:J):K:=(x%18446744073709551616).toNat
def zdR{x:K}(h:aw x):KH (sgn x):=by unfold sgn aw at*;split<;>constructor<;>lia
def Dk(x:J):aw (Cr x):=by unfold Cr aw;lia
def CC{x:K}(h:aw x):xde.wrap (x:J)=sgn x:=by
 unfold sgn;unfold aw at h;split
 ·exact w64 ⟨W,W⟩
 ·rename_i b;have a:xde.wrap (x:J)=xde.wrap ((x:J)-18446744073709551616):=by
   simp[xgd,xeM,xeo];all_goals lia
  rw[a];exact w64 ⟨W,W⟩
def zfp(x:J):xcs.wrap x=((Cr x:K):J):=by rw[CA];unfold Cr;lia
def w_x{x c:J}(h:c=x)(a:KH c):xde.wrap x=c:=by subst h;exact w64 a
def lH{k:Xs}{x:J}{c n:K}(h:c=n)(a:k.wrap x=(n:J)):k.wrap x=(c:J):=by rw[a,h]
inductive Tg
 |n
 |x (i:K)
 |r
def tgB:Tg->ce->qR
 |.n,.normal=>wL
 |.x i,.exit j=>E i j
 |.r,.ret=>wL
 |_,_=>I
def tgE:Tg->ce
 |.n=> .normal
 |.x i=> .exit i
 |.r=> .ret
def zmS{t:Tg}{e:ce}(h:tgB t e=wL):e=tgE t:=by
 cases t<;>cases e<;>first|rfl|cases h|skip
 rename_i i j;rw[xcL (show E i j=wL from h)];rfl
def XQ:N (Tg×(y7->wP->Prop))->Qs
 |[],_,_,_=>QR
 |(t,J)::r,e,env,w=>bif tgB t e then J env w else XQ r e env w
def XK(Q:Qs):N (Tg×(y7->wP->Prop))->Prop
 |[]=>XS
 |(t,J)::r=>(∀env w,J env w->Q (tgE t) env w)/\XK Q r
def zkV{Q:Qs}:∀{l:N (Tg×(y7->wP->Prop))},XK Q l->∀e env w,XQ l e env w->Q e env w
 |[],_,_,_,_,h=>h.elim
 |(t,J)::r,k,e,env,w,h=>by
  unfold XQ at h;cases ht:tgB t e
  ·rw[ht]at h;exact zkV k.2 e env w h
  ·rw[ht]at h;rw[zmS ht];exact k.1 env w h
inductive JQ(we:wP)(Se:K->Prop){G:Type}(inv:G->Inv)(ok:G->Prop)(env:y7)(w:wP):Prop
 |mk (g:G) (h1:ok g) (h2:Kl env (inv g).live) (h3:St we Se (inv g).ms (inv g).Γ w):JQ we Se inv ok env w
section
variable{P:jP}{N:Nd}{we:wP}{Se:wr->Prop}{ms:xS MF}{Γ:xS FF}{Q:Qs}{env:y7}
def T_X(l:xS (Tg×(y7->wP->Prop))){c:Wr}(h:T P N we Se ms Γ c (XQ l) env)(k:XK Q l):T P N we Se ms Γ c Q env:=
 λw b a h1 d f=>V0 (h w b a h1 d f) λe i w' ⟨q1,q2,g⟩=>⟨q1,q2,zkV k e _ _ g⟩
def zbY{G:Type}{a:G->Inv}{ok:G->Prop}(g:G)(h1:ok g)(b:Kl env (a g).live)(c:∀w,St we Se ms Γ w->St we Se (a g).ms (a g).Γ w):
 ∀w,St we Se ms Γ w->JQ we Se a ok env w:=λw d=>⟨g,h1,b,c w d⟩
def zpy{G:Type}{a:G->Inv}{ok:G->Prop}{R:y7->wP->Prop}(k:∀g,ok g->∀rest w,St we Se (a g).ms (a g).Γ w->R (L (a g).live rest) w):
 ∀env w,JQ we Se a ok env w->R env w:=λenv w ⟨g,h1,b,c⟩=>by
 have:=k g h1 env w c;rwa[be b]at this
end
end
section
section
variable{P:jP}{N:Nd}{we:wP}{Se:wr->Prop}{ms F:xS MF}{Γ:xS FF}{Q:Qs}{env:y7}{ops:uL Z0}{rest:xS Z0}{o:Z0}
 {d:ww Z5}{ty yt t ti t':wT}{pos:String}{aft:uL Edge}{g:ww (wr×qR)}{x y:wW}
def v_i{k:Xs}{c z:J}(h:∀w,(kW (ev env) o).run P w=.ok (.value (.int k c)) w)(a:z=c):∀w,(kW (ev env) o).run P w=.ok (.value (.int k z)) w:=by
 subst a;exact h
def zg1{c z:qR}(h:∀w,(kW (ev env) o).run P w=.ok (.value (.bool c)) w)(a:z=c):∀w,(kW (ev env) o).run P w=.ok (.value (.bool z)) w:=by
 subst a;exact h
def pR{a:K}{b:J}:(a:J).fdiv (2^(min b.toNat xcs.bits))=((a/2^(min b.toNat 64):K):J):=by
 have:xcs.bits=64:=O;rw[this,Int.fdiv_eq_ediv_of_nonneg _ (by have:(0:J)<=2^(min b.toNat 64):=xfG i0;exact this)];try norm_cast
def zbB{a:K}{b:J}:xcs.wrap ((a:J)*2^(min b.toNat xcs.bits))=((a*2^(min b.toNat 64)%18446744073709551616:K):J):=by
 have:xcs.bits=64:=O;rw[this];have h:=zjy<|a*2^(min b.toNat 64);rw[<-h];congr 1
def zeV{a x:J}{k:K}(b:KH a)(h:x=a.fdiv (2^k)):KH x:=by
 have hp:(0:J)<2^k:=Int.pow_pos i0;rw[Int.fdiv_eq_ediv_of_nonneg _ W]at h;subst h;have⟨h1,c⟩:=b;have e:=xbG a<|2^k;generalize f:a/2^k=q at*
 rcases(W:a<0\/0<=a)with h0|h0
 ·have:=Int.ediv_neg_of_neg_of_pos h0 hp;constructor<;>lia
 ·constructor<;>lia
def Sl(a b:J):J:=sgn<|Cr a &&& Cr b
def orI(a b:J):J:=sgn (Cr a|||Cr b)
theorem pE{a b:K}(c:aw a):aw (a &&& b):=xaL Nat.and_le_left c
theorem Bx{a b:K}(c:aw a)(e:aw b):aw (a|||b):=Nat.or_lt_two_pow (n:=64) c e
theorem zhd{a:K}(b:aw a):((a:J)%2^xcs.bits).toNat=a:=by
 have:(2:J)^xcs.bits=18446744073709551616:=O;rw[this];unfold aw at b;lia
theorem zi0{a b:K}(c:aw a)(e:aw b):xcs.wrap (((((a:J)%2^xcs.bits).toNat &&& ((b:J)%2^xcs.bits).toNat:K)):J)=((a &&& b:K):J):=by grind [zhd,n5,pE]
theorem zlj{a b:K}(c:aw a)(e:aw b):xcs.wrap (((((a:J)%2^xcs.bits).toNat|||((b:J)%2^xcs.bits).toNat:K)):J)=((a|||b:K):J):=by grind [zhd,n5,Bx]
def zjw{a b:J}:xde.wrap (((a%2^xde.bits).toNat &&& (b%2^xde.bits).toNat:K):J)=Sl a b:=CC<|pE<|Dk a
def zml{a b:J}:xde.wrap (((a%2^xde.bits).toNat|||(b%2^xde.bits).toNat:K):J)=orI a b:=CC<|Bx (Dk a)<|Dk b
def znr(a b:J):KH (Sl a b):=zdR<|pE<|Dk a
def zoD(a b:J):KH (orI a b):=zdR<|Bx (Dk a)<|Dk b
def zoK{b:K}(h:b≠0):(b:J)≠0:=W
def ze7{B n:K}(a:0<B)(h:B*n<=281474976710656):n<=9223372036854775807:=by
 have:=xed n a;lia
def Nv{α:Type}{e:zW α}{c:wT}{z:α}{xs:xS α}{n bytes:K}{a:wN}{f:wW}{i j:Xs}(ht:P.underlying t=Z (.slice c))(k:Jf P c e.agg e.n bytes a)(l:ev env x=.int i (n:J))(m:ev env f=.int j (n:J))(q:0<bytes)(h:bytes*n<=281474976710656)
 (r:∀(S:K->Prop) (w:wP),e.p S z a.cells.toList w) (hc:xs=xaa n z):OG P ⟨d,.makeSlice t x f,ty,pos,aft,g⟩ env we Se ms Γ (λb=>(.slice (Z ⟨b,0,wF⟩) n n)) (λb=>(mB (rowT e n) c b xs::ms)) (λ_=>Γ) (λ_=>XS):=by
 subst hc;intro w hd;refine(zbx ht k l m h (ze7 q h) r w hd).mono ?_;rintro v w' ⟨b,h1,s,u⟩;exact⟨b,h1,s,u.rowRT 0 O i7⟩
end
end
section
def zmh{α:Type}{a x:α}(h:Z a=Z x):a=x:=xdI h
def zb3{x:J}{c n:K}(h:c=n)(a:x=(n:J)):x=(c:J):=by rw[a,h]
def zjd{x y z q:K}(a:aw x)(b:aw y)(c:z<=1)(h:q=(x+y+z)/18446744073709551616):aw q:=by unfold aw at*;lia
def zkk{x y z q:K}(_:aw x)(_:aw y)(_:z<=1)(h:q=if x<y+z then 1 else 0):aw q:=by unfold aw;split at h<;>lia
def v_2{P:jP}{env:y7}{o:Z0}{k k':Xs}{a b x y:K}(h:∀w,(kW (ev env) o).run P w=.ok (.value (.tuple #[.int k (a:J),.int k' (b:J)])) w)(c:x=a)(d:y=b):
 ∀w,(kW (ev env) o).run P w=.ok (.value (.tuple #[.int k (x:J),.int k' (y:J)])) w:=by subst c;subst d;exact h
def JG(we:wP)(Se:K->Prop)(i:Inv)(R:y7->wP->Prop)(rest:y7):Prop:=∀w,St we Se i.ms i.Γ w->R (L i.live rest) w
def zeT{we:wP}{Se:K->Prop}{G:Type}{a:G->Inv}{ok:G->Prop}{R:y7->wP->Prop}(k:∀g,ok g->∀rest,JG we Se (a g) R rest):
 ∀env w,JQ we Se a ok env w->R env w:=zpy k
def zk5{we:wP}{Se:K->Prop}{i:Inv}{R:y7->wP->Prop}{rest:y7}{b:N MF}{c:N FF}{a:N (K×wN)}(h:i=⟨b,c,a⟩)(k:∀w,St we Se b c w->R (L a rest) w):JG we Se i R rest:=by
 subst h;exact k
def S6{F:Fence}{n:K}{P:jP}{a:Kw}{w:wP}{Q:ce->Kw->wP->Prop}{c:Wr}(h:c.wpIn F n P (Exit.noGoto Q) a w):(Code.scope c).wpIn F n P Q a w:=by
 intro b k cs hc o p;have g:∀{cs:N Frame}{k:N Item},step P (lone (b.atR a (.code (.scope c)::k)) cs w)=.next (lone (b.atR a (.code c::.inScope c::k)) cs w):=step_lone_go (by simp[stepG,stepG.exec,Frame.atR]);have r:∀{a:Kw}{w:wP}{cs:N Frame}{k:N Item},step P (lone (b.atR a (.inScope c::k)) cs w)=.next (lone (b.atR a k) cs w):=step_lone_go (by simp[stepG,stepG.exec,Frame.atR]);have h0:(lone (b.atR a (.code (.scope c)::k)) cs w).fenced P F:=bi o p O;have⟨e,d,f,i,j⟩:=h b (.inScope c::k) cs hc o p
 cases e with
 |normal=>exact⟨.normal,d,f,i,.head h0 g<|StepsIn.trans j (.one (bi o p O) r)⟩
 |exit id=>exact⟨.exit id,d,f,i,λk' q=> .head h0 g (j.1 k'<|by simp[exitTo,q]),λhd q=>let⟨m,h1,s⟩:=j.2 hd (by simp[exitTo,q]);⟨m,h1,.head h0 g s⟩⟩
 |goto l=>exact i.elim
 |ret=>exact⟨_,d,f,i,.of_steps (.one h0 g) j⟩
 |panic t=>exact⟨_,d,f,i,.of_steps (.one h0 g) j⟩
 |outgrown=>exact⟨_,d,f,i,.of_steps (.one h0 g) j⟩
section
variable{P:jP}{N:Nd}{we:wP}{Se:wr->Prop}{ms:xS MF}{Γ:xS FF}{Q:Qs}{env:y7}{ops:uL Z0}{d:ww Z5}{ty t:wT}{pos:String}{aft:uL Edge}{g:ww (wr×qR)}
def plB(P:jP)(t:wT):V (uL<|K×K):=match P.underlying t with
 |some (.struct fs)=>(fs.toList.mapM λf=>(P.info? f.type).map λi=>(f.offset,i.size)).map (·.toArray)
 |_=>wF
def Nj(w:wP):∀(l:xS Field) (r:xS (K×K)),(l.mapM λf=>(P.info? f.type).map λi=>(f.offset,i.size))=Z r->(l.mapM (λf=>do pure (f.offset,<-WR f.type)):Sem (xS<|K×K)).run P w=.ok r w
 |[],r,h=>by simp at h;subst h;simp
 |f::l,r,h=>by
  rw[List.mapM_cons]at h
  cases hi:P.info? f.type with
  |none=>rw[hi]at h;simp at h
  |some i=>
   rw[hi]at h
   cases hl:(l.mapM λf=>(P.info? f.type).map λi=>(f.offset,i.size))with
   |none=>rw[hl]at h;simp at h
   |some q=>
    rw[hl]at h;simp at h;subst h;have a:=Nj w l q hl;have b:(WR f.type).run P w=.ok i.size w:=by simp[WR,WW,hi]
    rw[List.mapM_cons];simp only[xay,b,a,xae,xaI]
def ziZ{pl:uL (K×K)}(h:plB P t=Z pl):∃fs,P.underlying t=Z (.struct fs)/\∀w,(fs.mapM (λf=>do pure (f.offset,<-WR f.type)):Sem (uL<|K×K)).run P w=.ok pl w:=by
 unfold plB at h;split at h
 ·next fs a=>
  refine⟨fs,a,λw=> ?_⟩
  cases hl:(fs.toList.mapM λf=>(P.info? f.type).map λi=>(f.offset,i.size))with
  |none=>rw[hl]at h;cases h
  |some q=>
   rw[hl]at h;cases h;have:=Nj w fs.toList q hl;rw[Array.mapM_eq_mapM_toList];simp only[Sem.run_map,this,xae]
 ·cases h
def wu8(n:K):xgi.wrap (n:J)=((n%256:K):J):=by
 simp[xgd,xeM,xeo]
def H8{x e:K}(h:x=e%256):x<256:=h▸xaU _ i0
def b_r{x:K}(h:x<256):KH (x:J):=⟨W,W⟩
def zhu{x y:wW}{s:Wd}{k:Xs}{j z:K}(ht:P.underlying t=Z .string)(a:ev env x=.string s)(b:s=Lib.len8tab)(c:ev env y=.int k (j:J))(f:j<256)(e:z=xfg j)(w:wP):
 (kW (ev env) ⟨d,.index t x y,ty,pos,aft,g⟩).run P w=.ok (.value (.int .u8 (z:J))) w:=by
 subst b;subst e;have h:=Lib.run_index_len8tab (P:=P) w t k (j:J) ht W W;rw[Lib.len8_of _ W W]at h;simp[kW,a,c,h]
def Hg{j z:K}(a:j<256)(b:z=xfg j):z<256:=by
 have:=Lib.bitLen_le8' (j:J) W W;simp at this;lia
def zcL{f:K->V (K×K)}{i off:K}{v:wN}{b c e:xS wN}{r:xS (K×wN)}(hp:f i=Z (off,v.cells.size))(h:X b=off)(hc:X c=v.cells.size):
 xdx f (b++c++e).toArray ((i,v)::r)=xdx f (b++v.cells.toList++e).toArray r:=by
 subst h;have j:v.cells.zipIdx.foldl (λcs (x:wN×K)=>cs.setIfInBounds (X b+x.2) x.1) (b++c++e).toArray=(b++v.cells.toList++e).toArray:=by
  apply Array.ext';rw[<-Array.foldl_toList,Array.toList_zipIdx,sI (X b) v.cells.toList 0 _<|by simp;lia];have e1:(b++c++e).take (X b)=b:=by rw[xad,xfZ];rfl
  have k:(b++c++e).drop (X b+X v.cells.toList)=e:=by rw[xfl];simp;lia
  simp only[xbD,List.toList_toArray]at*
  rw[e1,k]
 conv=>lhs;unfold xdx
 simp only[hp];rw[ir<|by simp;lia];exact ut (λa=>xdx f a r) j
def HJ{α:Type}{e:zW α}{z0 z:α}{bytes:K}{a:wN}{parts:xS (K×wW)}{vs:xS (K×wN)}{pl:uL (K×K)}(ht:Jf P t wL e.n bytes a)(hc:e.agg=wL)
 (c:∀(S:K->Prop) (w:wP),e.p S z0 a.cells.toList w) (hd:∃fs,P.underlying t=Z (.struct fs)/\∀w,(fs.mapM (λf=>do pure (f.offset,<-WR f.type)):Sem (uL<|K×K)).run P w=.ok pl w)
 (hv:parts.map (λx=>(x.1,ev env x.2))=vs) (q:xS wN->Prop) (h:∀(S:K->Prop) (w:wP),zE S Γ w->∀cs,cs=a.cells.toList->e.p S z0 cs w->∃out,xdx (pl[·]?) cs.toArray vs=Z out.toArray/\e.p S z out w/\q out):
 MX P ⟨d,.build t parts.toArray,ty,pos,aft,g⟩ env ms Γ (λv:wN=>v) (λv=>[fV e z v]) (λv=>q v.cells.toList):=by
 intro w S _ _ b;have⟨out,h1,i,j⟩:=h S w b _ O<|c S w;refine Zj.of_value (w':=w) (v:=.agg out.toArray) ?_ ⟨_,O,by simpa[xfA]using j,yA.refl _ _,⟨⟨out,by simp[zW.val,hc],i⟩,wR⟩⟩;have⟨fs,k,l⟩:=hd;have m:parts.toArray.map (λx=>(x.1,ev env x.2))=vs.toArray:=by rw[<-hv];simp
 simp only[kW,xay];have o:(Instr.build t<|parts.toArray.map λx=>(x.1,ev env x.2)).run P w=.ok (.agg out.toArray) w:=by
  rw[m];unfold Instr.build;rw[xcX]at h1;simp only[xay,uj ht,xae,ul k,l,h1,xaI]
 rw[o];rfl
end
end
section
def EU(D:K->qR)(i:K):K->qR:=λk=>D k||E k i
def mM(D:K->qR)(i:K):EU D i i=wL:=by simp[EU]
def zac{D:K->qR}{i k:K}(h:k≠i):EU D i k=D k:=by simp[EU,Yq h]
def ziR{D:K->qR}{i k:K}(h:D k=wL):EU D i k=wL:=by simp[EU,h]
section
variable{P:jP}{N:Nd}{we:wP}{Se:wr->Prop}{ms:xS MF}{Γ:xS FF}{Q:Qs}{env0:y7}{l:xS Z0}{m:wr}
def znT{id:K}(m:K)(b:(K->qR)->y7->wP->Prop)(hm:P.follows .mixedOrders=wL)(hc:WG l m=wL)(hd:(l.all λo=>jt N.n o.dst)=wL)
 (hO:∀w,St we Se ms Γ w->b (λ_=>I) env0 w)
 (step:∀(D:K->qR) (i:K) (env:y7) (w:wP),i<m->D i=I->(∀j,D j=wL->j<m)->(∀e∈(z6 l i).after,xcu .any e=wL->D e.on=wL)->
  (∀j,D j=wL->∀e∈(z6 l j).after,xcu .any e=wL->D e.on=wL)->b D env w->
  (yV l.toArray env (z6 l i)=wL->Zj P (z6 l i) env w (λv w'=>b (EU D i) (put env (z6 l i).dst v) w'))/\
  (yV l.toArray env (z6 l i)=I->b (EU D i) (put env (z6 l i).dst uT) w))
 (y:∀(D:K->qR) (env:y7) (w:wP),(∀j,j<m->D j=wL)->(∀j,D j=wL->j<m)->b D env w->WpL P N l.toArray (l.drop m) Q env w):
 T P N we Se ms Γ (.region id l.toArray wL) Q env0:=by
 intro w0 hP a0 hQ hR hS;have⟨h0,h1,h2,h3,hT⟩:=Zg hc;refine wpIn_region_any hm ?_;have p:∀{c:uL qR}{i:K},i<c.size->c.getD i wL=c.getD i I:=λ{c i} h=>by simp[xbl,xcB h]
 have z:∀{c:uL qR}{i:K},c.getD i I=wL->i<c.size:=λ{c i} h=>by
  obtain hp|hge:=xca i c.size
  ·exact hp
  ·simp[xbl,Array.getElem?_eq_none hge]at h
 have E:∀(d:K) (c:uL qR) (a:Kw) (w:wP),(xaN (X l)).countP (λk=> !c.getD k wL)<=d->c.size=X l->a.tmps.size=N.n->a.defers=N.ds->
  (∀i,m<=i->i<X l->c.getD i wL=I)->
  (∀i,i<X l->c.getD i I=wL->∀e∈(z6 l i).after,xcu .any e=wL->c.getD e.on I=wL)->
  b (λi=>c.getD i I) (yJ a) w->UT N.F 0 P .any l.toArray (zcV N Q) d c a w:=by
  intro d
  induction d with
  |zero=>
   intro c a w R A b1 b2 r hl B;have s:∀k,k<X l->c.getD k wL=wL:=λk f=>by
    have S:(xaN (X l)).countP (λk=> !c.getD k wL)=0:=W
    rw[List.countP_eq_zero]at S;have:=S k<|xbg.2 f;simpa using this
   have hZ:m=X l:=by
    rcases xca m (X l) with hp|hge
    ·have C:=r m (IR _) hp;rw[s m hp]at C;cases C
    ·lia
   refine gF hc 0 m c a w (IR _) h0 W A (λk f=>by rw[s k f];simp;lia) ?_;exact y _ _ w (λj g=>by rw[<-p W];exact s j W) (λj g=>by have:=z g;lia) B a b1 b2 O
  |succ d ih=>
   intro c a w R A b1 b2 r hl B;by_cases s:∀k,k<m->c.getD k wL=wL
   ·have U:∀k,k<X l->c.getD k wL=decide (k<m):=λk f=>by
     by_cases G:k<m
     ·rw[s k G];simp[G]
     ·rw[r k W f];simp[G]
    refine gF hc (d+1) m c a w (IR _) h0 (xap ?_ R) A U ?_
    ·rw[show(xaN (X l)).countP (λk=> !c.getD k wL)=(xaN (X l)).countP (λk=> !decide (k<m))from List.countP_congr λk f=>by rw[U k<|xbg.1 f]];exact TV.count_ge m [] m (X l)
    ·refine y _ _ w (λj g=>by rw[<-p W];exact s j g) (λj g=> ?_) B a b1 b2 O;obtain h|h:=xca j m
     ·exact h
     ·have H:=z g;rw[<-p H,r j h W]at g;cases g
   ·have V:∃k,k<m/\c.getD k wL=I:=by
     by_cases Y:∃k,k<m/\c.getD k wL=I
     ·exact Y
     ·exact wS (λk f=>by
       cases q:c.getD k wL
       ·exact wS ⟨k,f,q⟩ Y
       ·rfl) s
    refine⟨λhr=> ?_,λi hi=> ?_⟩
    ·exfalso;have⟨k,f,J,hJ⟩:=TV.first_un m [] V;have:k∈xeg .any l.toArray c:=mem_ready.2 ⟨J,z6 l k,Ye W,λe x q=>by
      have C:=h1 k W e x q;have t:=hJ e.on C;rwa[p (by lia:e.on<c.size)]at t⟩
     rw[hr]at this;cases this
    ·have⟨hu,o,L,hn⟩:=mem_ready.1 hi;have u:i<X l:=by simpa using(xbk.1 L).1
     rw[Ye u]at L;cases L;have hU:i<m:=by
      obtain h|h:=xca i m
      ·exact h
      ·exfalso;by_cases hK:m=i
       ·subst hK;have⟨k,f,J⟩:=V;have t:=bf hl h1 16 m k u hn<|hT u k f;rw[<-p (by lia:k<c.size),J]at t;cases t
       ·have⟨e,x,q,hV⟩:=ux<|h3 i W u;have t:=hn e x q;rw[hV,<-p (by lia:i-1<c.size),r (i-1) W W]at t;cases t
     have M:i<c.size:=W
     have hW:jt N.n (z6 l i).dst=wL:=by
      rw[xaR]at hd;refine hd _ ?_;have:z6 l i=l[i]:=by simp[z6,u]
      rw[this];exact xbQ _
     have hB:∀j,(λi=>c.getD i I) j=wL->j<m:=λj g=>by
      obtain h|h:=xca j m
      ·exact h
      ·have H:=z g;have hL:c.getD j I=wL:=g;rw[<-p H,r j h W]at hL;cases hL
     have hs:=step (λi=>c.getD i I) i (yJ a) w hU (by rw[<-p M];exact hu) hB hn (λj g=>hl j (by have:=hB j g;lia) g) B;have hM:(λk=>(c.setIfInBounds i wL).getD k I)=EU (λi=>c.getD i I) i:=by
      funext k;by_cases ht:i=k
      ·subst ht;rw[mM];simp[M]
      ·rw[WD I ht,zac<|λe=>ht e.symm]
     have next:∀v w',b (EU (λi=>c.getD i I) i) (put (yJ a) (z6 l i).dst v) w'->UT N.F 0 P .any l.toArray (zcV N Q) d (c.setIfInBounds i wL) (a.put (z6 l i).dst v) w':=by
      intro v w' hv;refine ih _ _ w' ?_ (by simpa using A) (by rw[Uq];exact b1) (by rw[XU];exact b2) (λk hX f=> ?_) (λk f hN e x q=> ?_) ?_
      ·have:=(sw M hu<|xaN (X l)).2<|xbg.2 u;lia
      ·rw[WD wL W];exact r k hX f
      ·by_cases ht:i=k
       ·subst ht;exact Ut<|hn e x q
       ·rw[WD I ht]at hN;exact Ut<|hl k f hN e x q
      ·rw[X6 (by rw[b1];exact UZ hW),hM];exact hv
     unfold wpOpIn;rw[Ye u];simp only[Jb];cases hC:yV l.toArray (yJ a) (z6 l i)
     ·simp only[xao,uS];exact⟨λ_ _=>wR,next undef w (hs.2 hC)⟩
     ·simp only[uP];exact(hs.1 hC).wp λv w' hY=>next v w' hY
 refine E l.toArray.size _ a0 _ ?_ i7 hQ hR (λi hK hi=>by simp[hi]) (λi hi hp=> ?_) ?_
 ·exact xap (List.countP_le_length) i7
 ·have:=z hp;rw[<-p this]at hp;simp[hi]at hp
 ·have hf:(λi=>(xeL l.toArray.size I).getD i I)=λ_=>I:=by
   funext i;simp only[xbl,Array.getElem?_replicate];split<;>rfl
  rw[hf,hS];exact hO _<|hP.ext<|K7.drawn w0 _
end
end
section
def ZT{S:K->Prop}{w:wP}:∀{ms:N MF},yM S ms w↔∀m∈ms,m.p S w
 |[]=>⟨λ_ m h=>wS h Nm,λ_=>wR⟩
 |m::r=>by
  have a:=ZT (S:=S) (w:=w) (ms:=r);constructor
  ·intro h x hx;obtain rfl|hx:=xaf.1 hx
   ·exact h.1
   ·exact a.1 h.2 x hx
  ·intro h;exact⟨h m<|H1,a.2 λx hx=>h x<|UV _ hx⟩
def B7:∀{ms:N MF},Qw ms↔ms.Pairwise (λm m'=>∀k,m.blk k->¬m'.blk k)
 |[]=>⟨λ_=>List.Pairwise.nil,λ_=>wR⟩
 |m::r=>by
  rw[xdl];have c:=B7 (ms:=r);exact⟨λh=>⟨λm' a k b=>h.1 k b m' a,c.1 h.2⟩,λh=>⟨λk b m' a=>h.1 m' a k b,c.2 h.2⟩⟩
def St.perm{we:wP}{Se:K->Prop}{ms a:N MF}{Γ:N FF}{w:wP}(h:St we Se ms Γ w)(hp:ms.Perm a):St we Se a Γ w:=by
 have⟨h1,c,d,S,e,f,g,i,j⟩:=h;refine⟨h1,c,B7.2<|(hp.pairwise_iff λ{x y} l k n hc=>l k hc n).1<|B7.1 d,S,e,f,λm b=>g m<|hp.mem_iff.2 b,ZT.2 λm b=>ZT.1 i m<|hp.mem_iff.2 b,j⟩
def zeZ:wN->V K
 |.pointer (Z ⟨b,_,_⟩)=>Z b
 |_=>wF
def mP{α:Type}(e:ru α)(E:wT)(v:wN)(z:α):MF where
 blk k:=zeZ v=Z k
 p S w:=∃b,v=.pointer (Z ⟨b,0,wF⟩)/\(mB e E b z).p S w
 keep:=λ⟨b,h1,a⟩ k hb=>⟨b,h1,(mB e E b z).keep a k λi hi=>hb i<|by rw[h1];exact hi⟩
 sub:=λ⟨b,h1,a⟩ k=>⟨b,h1,(mB e E b z).sub a k⟩
 lt:=λ⟨b,h1,a⟩ k c=>(mB e E b z).lt a k<|by rw[h1]at c;exact c
def St.openP{α:Type}{e:ru α}{E:wT}{v:wN}{z:α}{we:wP}{Se:K->Prop}{ms:N MF}{Γ:N FF}{w:wP}(i:K)(h:St we Se ms Γ w)(a:ms[i]? =Z (mP e E v z)):
 ∃b,v=.pointer (Z ⟨b,0,wF⟩)/\St we Se (ms.set i<|mB e E b z) Γ w:=by
 have⟨S,hp,_⟩:=h.muts a;have⟨b,hv,_⟩:=hp;subst hv;exact⟨b,O,h.conv a O λS ⟨d,h1,c⟩=>by cases h1;exact c⟩
def St.toP{α:Type}{e:ru α}{E:wT}{b:K}{z:α}{we:wP}{Se:K->Prop}{ms:N MF}{Γ:N FF}{w:wP}(i:K)(h:St we Se ms Γ w)(a:ms[i]? =Z (mB e E b z)):
 St we Se (ms.set i<|mP e E (.pointer<|some ⟨b,0,wF⟩) z) Γ w:=h.conv a O λS h=>⟨b,O,h⟩
def zah{K:N (Z5×Pr)}{env0 env:y7}{S:wr->Prop}{w w':wP}{t:Z5}(h:Yz K env0 env S w t)(k:yA S w w'):Yz K env0 env S w' t:=by grind [Yz,Pr.keepS,E]
def zcY{K:N (Z5×Pr)}{env0 env:y7}{S a:wr->Prop}{w:wP}{t:Z5}(h:Yz K env0 env S w t)(k:∀k,k<w.heap.size->S k->a k):Yz K env0 env a w t:=by grind [Yz,Pr.sub,E]
def zdE(K:N (Z5×Pr))(env0 env:y7)(ts:N Z5):FF where
 p S w:=Qq K env0 env S w ts
 keep:=λ{S w w'} h k=>by
  induction ts with
  |nil=>trivial
  |cons t ts a=>exact⟨zah h.1 k,a h.2⟩
 sub:=λ{S b w} h k=>by
  induction ts with
  |nil=>trivial
  |cons t ts a=>exact⟨zcY h.1 k,a h.2⟩
structure Res where
 a:V K
 t:Z5
 w:V K
 mf:qR->wN->MF
def Res.done(r:Res)(D:K->qR):qR:=match r.w with
 |some i=>D i
 |none=>I
def Res.here(r:Res)(D:K->qR):qR:=match r.a with
 |some i=>D i
 |none=>wL
def av(rs:N Res)(D:K->qR)(env:y7):N MF:=rs.filterMap λr=>bif r.here D then Z (r.mf (r.done D)<|env r.t)else wF
def zrA(l:N Z0)(i j:K):qR:=match(z6 l i).dst with
 |some t=>(z6 l j).dst==Z t
 |none=>I
section
variable{P:jP}{N:Nd}{we:wP}{Se:wr->Prop}{ms:xS MF}{Γ:xS FF}{Q:Qs}{env0:y7}{l:xS Z0}{m:wr}
def NS(L:xS (Z0×Pr))(D:K->qR)(env:y7):FF where
 p S w:=∀i x t,D i=wL->L[i]? =Z x->x.1.dst=Z t->x.2.p S (env t) w
 keep:=λh k i x t h1 a b=>x.2.keepS (h i x t h1 a b) k
 sub:=λh k i x t h1 a b=>x.2.sub (h i x t h1 a b) k
end
section
variable{P:jP}{N:Nd}{we:wP}{Se:wr->Prop}{ms:xS MF}{Γ:xS FF}{env:y7}{d:ww Z5}{ty t:wT}{pos:String}{aft:uL Edge}{g:ww (wr×qR)}
def zex{α:Type}{e:zW α}{c:wT}{zs:xS α}{len bytes:K}{a:wN}{parts:xS (K×wW)}{vs:xS (K×wN)}(ht:P.underlying t=Z (.slice c))(hd:Jf P c e.agg e.n bytes a)
 (hn:0<e.n) (hc:X zs=len) (y:len*e.n<=16777216) (hv:parts.map (λx=>(x.1,ev env x.2))=vs)
 (m:∀(S:K->Prop) (w:wP),zE S Γ w->ae (λi=>Z (i*e.n,e.n)) vs 0) (hp:∀(S:K->Prop) (w:wP),zE S Γ w->yK e S zs (jo vs) w):
 OG P ⟨d,.buildSlice t len parts.toArray,ty,pos,aft,g⟩ env we Se ms Γ (λv:wN=>v) (λv=>mO e c v zs::ms) (λ_=>Γ) (λ_=>XS):=by
 intro w h;have⟨S0,z,b⟩:=h.ex;have hi:=hp S0 w b;have hl:X (jo vs)=len*e.n:=by rw[hi.len,hc]
 have A:len<=9223372036854775807:=by have:len<=len*e.n:=xco _ hn;lia
 refine Zj.of_value (w':=w.alloc (.cells (jo vs).toArray c)) (v:=.slice (Z ⟨w.heap.size,0,wF⟩) len len) ?_ ⟨_,O,wR,?_⟩
 ·have o:parts.toArray.map (λx=>(x.1,ev env x.2))=vs.toArray:=by rw[<-hv];simp
  have j:xdx (λi=>Z (i*e.n,e.n)) ((xfb<|len*e.n).map (a.cells[·%a.cells.size]!)) vs=Z (jo vs).toArray:=by
   have:=pO vs [] ((xfb<|len*e.n).map (a.cells[·%a.cells.size]!)).toList (m S0 w b) (by simp[hl]);rw[xbA,xcX,xbA,xbW (by simp[hl]),xbO]at this;exact this
  have p:(xeG t len<|parts.toArray.map λx=>(x.1,ev env x.2)).run P w=.ok (.slice (Z ⟨w.heap.size,0,wF⟩) len len) (w.alloc (.cells (jo vs).toArray c)):=by
   rw[o];unfold xeG;simp only[xay,ul ht,xae,wv hd,ir (W:¬len*e.n>2^24),aP];by_cases h0:len*e.n=0
   ·have B:jo vs=[]:=xbm (by rw[hl,h0]);have q:xdx (λi=>Z (i*e.n,e.n)) ((xfb 0).map ((#[]:uL wN)[·%(#[]:uL wN).size]!)) vs=Z (jo vs).toArray:=by
     have l:∀f:K->wN,(xfb 0).map f= #[]:=λf=>by simp
     rw[<-j,h0,l,l]
    simp only[h0,uP];simp only[q,xay,WL,xae,xaI]
   ·simp only[ir h0,xay,uj hd,xae,xaI,j,WL]
  simp only[kW,xay,p,xae,xaI]
 ·have r:St we Se (mR e c w.heap.size zs::ms) Γ (w.alloc (.cells (jo vs).toArray c)):=by
   refine h.fresh (K7.alloc w _) O i7 ?_;intro S C b;refine⟨_,WN w _,?_⟩;exact((hp S w b).sub λk s u=>⟨u,Nat.ne_of_lt s⟩).keep (K7.alloc w _).to
  exact ziz (n:=len) 0 r O hc.symm W
end
def zk8{P:jP}{env:y7}{d:V Z5}{ty t:wT}{pos:String}{aft:uL Edge}{g:V (K×qR)}{x:wW}{b:qR}(h:ev env x=.bool b)(w:wP):
 (kW (ev env) ⟨d,.unOp .not t x,ty,pos,aft,g⟩).run P w=.ok (.value (.bool !b)) w:=fS (by show(match ev env x with|xeJ t=>Z (xeJ !t)|_=>wF)=_;rw[h]) w
abbrev iv(x:J):wN:=.int .i64 x
abbrev uv(x:K):wN:=.int .u64 (x:J)
def nz{p:Prop}(h:wL=I):p:=by cases h
def pvL(N:K)(b:uL Z0):xS Z0->y7->xS (K×wN)->V (xS<|K×wN)
 |[],_,a=>Z a
 |o::r,env,a=>match o.dst with
  |some d=>bif jt N (Z d)then(bif yV b (L a env) o then(match pv o (L a env)with
   |some v=>pvL N b r env ((d,v)::a)
   |none=>wF)else(match o.guard with
   |some (j,c)=>bif gd b (L a env) j==Z (!c)then pvL N b r env ((d,uT)::a)else wF
   |none=>wF))else wF
  |none=>wF
def ML{N:K}{c:uL Z0}:∀(l:xS Z0) (env:y7) (b a:xS (K×wN)),pvL N c l env b=Z a->tC N c l (L b env)=Z (L a env)
 |[],env,b,a,h=>by cases h;rfl
 |o::r,env,b,a,h=>by
  unfold pvL at h;unfold tC
  cases hd:o.dst with
  |none=>rw[hd]at h;cases h
  |some d=>
   rw[hd]at h;simp only at h;cases g:jt N (Z d)
   ·rw[g]at h;cases h
   ·rw[g]at h;simp only[Z2]at h⊢;cases i:yV c (L b env) o
    ·rw[i]at h;simp only[Z3]at h⊢;split at h
     ·next j e k=>
      cases f:(gd c (L b env) j==Z (!e))
      ·rw[f]at h;cases h
      ·rw[f]at h;simp only[k,f,Z2]at h⊢;exact ML r env _ a h
     ·cases h
    ·rw[i]at h;simp only[Z2]at h⊢
     cases hp:pv o (L b env)with
     |none=>rw[hp]at h;cases h
     |some v=>rw[hp]at h;exact ML r env _ a h
def Xe{P:jP}{N:Nd}{we:wP}{Se:K->Prop}{ms:xS MF}{Γ:xS FF}{Q:Qs}{b:uL Z0}(n:K)(a:xS (K×wN)){l:xS Z0}{env:y7}
 (h:pvL N.n b (l.take n) env []=Z a) (k:TL P N we Se ms Γ b (l.drop n) Q (L a env)):TL P N we Se ms Γ b l Q env:=by
 rw[<-xbv n l];exact aB _ _ _ _ (ML _ env [] a h) k
def Pk{α:Type}(xs ys:N α):N α:=xdH (min (X ys) (X xs)) ys++xdT (min (X ys) (X xs)) xs
def iZ{α:Type}(lo n:K)(xs ys:N α):N α:=xdH lo xs++xdH (min (X ys) n) ys++xdT (lo+min (X ys) n) xs
end
section
set_option maxRecDepth 100000
def z2(S:K->Prop)(w:wP):(eI).p S 0 (xfA (.int .i64 0)).toList w:=⟨O,i0,i0⟩
def z3(S:K->Prop)(w:wP):(eI).p S 0 (xfA (.int .i64 0)).toList w:=⟨O,i0,i0⟩
def z4(S:K->Prop)(w:wP):(Pc).p S I (xfA (.bool I)).toList w:=O
def zoI:Jf Tryz.prog 73 I 1 8 (.int .u64 0):=Jf.of i8
end
section
open Go.ChangeShapes Go.WideShapes Go.ChangeAt Go.RowKit
variable{W W':wP}
def PR(a:K7 W W')(b:Us->Prop):W.keptBut W' b:=by
 refine⟨a.os,a.output,λi hi=> ?_⟩;rw[a.block i hi wR]
 cases h:W.heap[i]? with
 |none=>rfl
 |some o=>cases o<;>simp
def ze1{H:Type}{enc:wT×wN->H}{P:jP}{f:JP}{s:ChangeSpec}{c d i:qR}{args:uL wN}{v:wN}{ds e:N (gT H)}{a pa pv:N Us}(g:DataW.Whole enc P f.params.toList s.vars c W args.toList ds e a)(j:∀(b:K) (sp:K->qR) (hd:qR),xeT enc P W' b sp hd f.resultTypes.toList (v.resultList f.resultTypes.size) (s.fn H<|ds++e).results [])(hc:∀sp:K->qR,(∀p∈a,sp p.block=wL)->xeT enc P W' 0 sp wL f.params.toList args.toList (s.fn H<|ds++e).args pa)(k:∀sp:K->qR,(∀p∈a,sp p.block=wL)->DataW.TrodVars enc P W' sp s.vars (s.fn H<|ds++e).vars pv)(m:a=pa++pv)(l:K7 W W'):s.post enc P f c d i I W args v W':=
 ⟨ds,e,a,[],pa,pv,g,j _ _ _,hc _ (λp hp=>by simpa using g.lt p hp),k _ (λp hp=>by simpa using g.lt p hp),PR l _,λh=>by cases h⟩
end
section
def Ea{S:K->Prop}{w:wP}:∀{A B:N MF},yM S (A++B) w↔yM S A w/\yM S B w
 |[],_=>⟨λh=>⟨wR,h⟩,λh=>h.2⟩
 |a::A,B=>by
  have b:=Ea (S:=S) (w:=w) (A:=A) (B:=B);exact⟨λh=>⟨⟨h.1,(b.1 h.2).1⟩,(b.1 h.2).2⟩,λh=>⟨h.1.1,b.2 ⟨h.1.2,h.2⟩⟩⟩
def sZ:∀{A B:N MF},Qw (A++B)↔Qw A/\Qw B/\∀m∈A,∀k,m.blk k->∀m'∈B,¬m'.blk k
 |[],B=>⟨λh=>⟨wR,h,λm hm=>wS hm Nm⟩,λh=>h.2.1⟩
 |a::A,B=>by
  have e:=sZ (A:=A) (B:=B);constructor
  ·intro h;have⟨h1,c,d⟩:=e.1 h.2;refine⟨⟨λk b m' hm'=>h.1 k b m'<|So.2 (.inl hm'),h1⟩,c,λm hm k b m' hm'=> ?_⟩;obtain rfl|hm:=xaf.1 hm
   ·exact h.1 k b m'<|So.2 (.inr hm')
   ·exact d m hm k b m' hm'
  ·rintro⟨⟨h1,c⟩,d,f⟩;refine⟨λk b m' hm'=> ?_,e.2 ⟨c,d,λm hm=>f m<|UV _ hm⟩⟩;obtain hm'|hm':=So.1 hm'
   ·exact h1 k b m' hm'
   ·exact f a (H1) k b m' hm'
def DI(G:N MF):MF where
 blk k:=∃m∈G,m.blk k
 p S w:=yM S G w/\Qw G
 keep:=λh k hb=>⟨yM.keep k (λm a i hi=>hb i ⟨m,a,hi⟩) h.1,h.2⟩
 sub:=λh k=>⟨yM.sub k h.1,h.2⟩
 lt:=λh k ⟨m,a,b⟩=>yM.lt h.1 m a k b
def St.grp{we:wP}{Se:K->Prop}{G ms:N MF}{Γ:N FF}{w:wP}:St we Se (DI G::ms) Γ w↔St we Se (G++ms) Γ w:=by
 constructor
 ·rintro⟨h1,e,d,S,f,g,b,c,h⟩;refine⟨h1,e,sZ.2 ⟨c.1.2,d.2,λm hm k a m' i=>d.1 k ⟨m,hm,a⟩ m' i⟩,S,f,g,λm hm k a=> ?_,Ea.2 ⟨c.1.1,c.2⟩,h⟩;obtain hm|hm:=So.1 hm
  ·exact b (DI G) (H1) k ⟨m,hm,a⟩
  ·exact b m (UV _ hm) k a
 ·rintro⟨h1,e,d,S,f,g,b,c,h⟩;have⟨j,l,a3⟩:=sZ.1 d;have⟨n,o⟩:=Ea.1 c;refine⟨h1,e,⟨λk a m' i=>by have⟨m,hm,a⟩:=a;exact a3 m hm k a m' i,l⟩,S,f,g,λm hm k a=> ?_,⟨⟨n,j⟩,o⟩,h⟩;obtain rfl|hm:=xaf.1 hm
  ·have⟨m,hm,a⟩:=a;exact b m (So.2 (.inl hm)) k a
  ·exact b m (So.2 (.inr hm)) k a
def Ya(hv:N wN):zW K where
 n:=1
 agg:=I
 n1 _:=O
 p _ r cs _:=∃u,hv[r]? =Z u/\u.oneCell'=wL/\cs=[u]
 len:=by rintro _ _ _ _ ⟨u,_,_,rfl⟩;rfl
 one:=by rintro _ _ _ _ ⟨u,_,a,rfl⟩ c hc;rw[xag]at hc;subst hc;exact a
 keep h _:=h
 sub h _:=h
def za5{hv:N wN}{r:K}{u:wN}{S:K->Prop}{w:wP}(h:hv[r]? =Z u)(h1:u.oneCell'=wL):(fV (Ya hv) r u).p S w:=⟨[u],O,u,h,h1,O⟩
def zgw{hv:N wN}{r:K}{v:wN}{S:K->Prop}{w:wP}(h:(fV (Ya hv) r v).p S w):hv[r]? =Z v:=by
 obtain⟨cs,rfl,u,h1,_,rfl⟩:=h;exact h1
def NM{hv b:N wN}{S:K->Prop}{w:wP}:∀{ix:N K}{cs:N wN},yK (Ya hv) S ix cs w->yK (Ya<|hv++b) S ix cs w
 |[],_,h=>h
 |r::ix,cs,⟨c,q,h1,⟨u,a,d,e⟩,f⟩=>⟨c,q,h1,⟨u,by rw[xaX (xar.1 a).1];exact a,d,e⟩,NM f⟩
def zbi{hv a:N wN}{E:wT}{v:wN}{ix:N K}{S:K->Prop}{w:wP}(h:(mO (Ya hv) E v ix).p S w):(mO (Ya<|hv++a) E v ix).p S w:=by
 have⟨cs,h1,b⟩:=h;exact⟨cs,h1,NM b⟩
def vu{α:Type}(e:zW α)(E:wT):N wN->N (N α)->N MF
 |u::hv,xs::xss=>mO e E u xs::vu e E hv xss
 |_,_=>[]
theorem Jd{α:Type}{e:zW α}{E:wT}:∀{hv:N wN}{xss:N (N α)}{r:K}{u:wN}{xs:N α},hv[r]? =Z u->xss[r]? =Z xs->(vu e E hv xss)[r]? =Z (mO e E u xs)
 |u'::hv,b::xss,0,u,xs,h1,a=>by
  simp only[xby,xat]at h1 a;subst h1;subst a;rfl
 |u'::hv,b::xss,r+1,u,xs,h1,a=>Jd (hv:=hv) (xss:=xss) (r:=r) (by simpa using h1)<|by simpa using a
 |[],_,r,_,_,h1,_=>by simp at h1
 |_::_,[],r,_,_,_,a=>by simp at a
def HC{α:Type}{e:zW α}{E:wT}:∀{hv:N wN}{xss:N (N α)}{r:K}{u:wN}{ys:N α},hv[r]? =Z u->(vu e E hv xss).set r (mO e E u ys)=vu e E hv (xss.set r ys)
 |u'::hv,a::xss,0,u,ys,h1=>by
  simp only[xby,xat]at h1;subst h1;rfl
 |u'::hv,a::xss,r+1,u,ys,h1=>by
  show mO e E u' a::(vu e E hv xss).set r (mO e E u ys)=mO e E u' a::vu e E hv (xss.set r ys);rw[HC<|by simpa using h1]
 |[],_,r,_,_,h1=>by simp at h1
 |u'::hv,[],r,u,ys,h1=>by cases r<;>rfl
def BJ{α:Type}{e:zW α}{E:wT}{u:wN}{xs:N α}:∀{hv:N wN}{xss:N (N α)},X hv=X xss->vu e E (hv++[u]) (xss++[xs])=vu e E hv xss++[mO e E u xs]
 |[],[],_=>rfl
 |u'::hv,a::xss,h=>by
  show mO e E u' a::vu e E (hv++[u]) (xss++[xs])=_;rw[BJ<|by simpa using h];rfl
 |[],_::_,h=>by cases h
 |_::_,[],h=>by cases h
def zd7{α:Type}(e:zW α)(E E1:wT)(v:wN)(hv:N wN)(xss:N (N α))(ix:N K):MF:=DI (mO (Ya hv) E v ix::vu e E1 hv xss)
section
variable{α:Type}{e:zW α}{E E1:wT}{v:wN}{hv:xS wN}{xss:xS (xS α)}{ix:xS wr}{we:wP}{Se:wr->Prop}{ms:xS MF}{Γ:xS FF}{w:wP}
theorem zj3{r:K}{u:wN}{xs:N α}(h1:hv[r]? =Z u)(a:xss[r]? =Z xs)(ms:N MF):((mO (Ya hv) E v ix::vu e E1 hv xss)++ms)[r+1]? =Z (mO e E1 u xs):=by grind [Jd,xaX,xar]
def Ni{r:K}{u:wN}{ys:N α}(h1:hv[r]? =Z u)(a:r<X xss)(hl:X hv=X xss)(ms:N MF):((mO (Ya hv) E v ix::vu e E1 hv xss)++ms).set (r+1) (mO e E1 u ys)=(mO (Ya hv) E v ix::vu e E1 hv (xss.set r ys))++ms:=by
 have b:xss[r]? =Z xss[r]:=xab a;have h:=Jd (e:=e) (E:=E1) h1 b;have c:=(xar.1 h).1;rw[xeW _ _ (by simpa using c),xfo,HC h1]
def St.adopt{u:wN}{ys:N α}(hl:X hv=X xss)(h:St we Se (zd7 e E E1 v hv xss ix::mO e E1 u ys::ms) Γ w):St we Se (zd7 e E E1 v (hv++[u]) (xss++[ys]) ix::ms) Γ w:=by
 have h1:=St.grp.1 h;have a:St we Se ((mO (Ya hv) E v ix::vu e E1 (hv++[u]) (xss++[ys]))++ms) Γ w:=by
  rw[BJ hl];refine h1.perm ?_;simp only[xbC,xad,xfI,xbA];exact xdD _
 have b:=a.conv (i:=0) (m:=mO (Ya hv) E v ix) (m':=mO (Ya<|hv++[u]) E v ix) O O λS hp=>zbi hp;exact St.grp.2 b
def zfa{S a:K->Prop}(c:∀k,S k->a k)(d:∀m∈vu e E1 hv xss,∀k,m.blk k->a k)(h:yM S (vu e E1 hv xss) w){r:K}{u:wN}{xs:N α}(h1:hv[r]? =Z u)(b:xss[r]? =Z xs):(fV (eS e) xs u).p a w:=
 nC c (λk f=>d _ (xbp<|Jd h1 b) k f) (yM.get h<|Jd h1 b)
def sV{S a:K->Prop}(hl:X hv=X xss)(b:∀k,S k->a k)(d:∀m∈vu e E1 hv xss,∀k,m.blk k->a k)(h:yM S (vu e E1 hv xss) w):∀{ix:N K}{cs:N wN},yK (Ya hv) S ix cs w->yK (eS e) a (ix.map λr=>xss.getD r []) cs w
 |[],_,h=>h
 |r::ix,cs,⟨c,q,h1,⟨u,f,l,g⟩,i⟩=>by
  have n:=(xar.1 f).1;have j:xss[r]? =Z (xss.getD r []):=by rw[FS,xab W];rfl
  exact⟨c,q,h1,⟨u,g,xT.1<|zfa b d h f j⟩,sV hl b d h i⟩
def St.mat_frz(hl:X hv=X xss)(h:St we Se (zd7 e E E1 v hv xss ix::ms) Γ w):St we Se ms (fV (eS<|eS e) (ix.map λr=>xss.getD r []) v::Γ) w:=by
 refine h.freeze (i:=0) (m:=zd7 e E E1 v hv xss ix) O λS b d c hp=> ?_;have⟨⟨⟨cs,h1,f⟩,g⟩,_⟩:=hp;have j:∀m∈vu e E1 hv xss,∀k,m.blk k->b k:=λm l k a=>c k ⟨m,UV _ l,a⟩;have n:(mO (eS e) E v<|ix.map λr=>xss.getD r []).p b w:=⟨cs,by rw[xaj];exact h1,sV hl d j g f⟩;exact nC (λk a=>a) (λk a=>c k ⟨_,H1,a⟩) n
end
def mPr(p:Prop):MF where
 blk _:=QR
 p _ _:=p
 keep h _ _:=h
 sub h _:=h
 lt _ _ a:=a.elim
def yC:wN->wN
 |.tuple us=>us.toList.headD uT
 |_=>uT
def xU:wN->N wN
 |.tuple us=>us.toList.tail
 |_=>[]
def UG(v:wN)(hv:N wN):wN:=.tuple (v::hv).toArray
def tn{α:Type}(e:zW α)(E E1:wT)(u:wN)(xss:N (N α))(ix:N K):MF:=DI (mPr (X (xU u)=X xss)::mO (Ya<|xU u) E (yC u) ix::vu e E1 (xU u) xss)
def mBo{α:Type}(e:zW α)(E a:wT)(u:wN)(xs:N α):MF:=DI [mPr<|X (xU u)=1,mP (Ya<|xU u).c a (yC u) 0,mO e E ((xU u).headD uT) xs]
def mHo(a:wT)(u:wN):MF:=DI [mPr<|X (xU u)=1,mP (Ya<|xU u).c a (yC u) 0]
end
section
def oP{α:Type}(e:zW α)(S:K->Prop):V α->N wN->wP->Prop
 |none,cs,_=>cs=[.pointer wF]
 |some y,cs,w=>∃v,cs=[v]/\(fP e y v).p S w
def eO{α:Type}(e:zW α):zW (V α)where
 n:=1
 agg:=I
 n1 _:=O
 p S x cs w:=oP e S x cs w
 len:=by
  intro S x cs w h
  cases x with
  |none=>rw[show cs=_ from h];rfl
  |some y=>obtain⟨v,rfl,_⟩:=h;rfl
 one:=by
  intro S x cs w h c hc
  cases x with
  |none=>rw[show cs=_ from h]at hc;rw[xag.1 hc];rfl
  |some y=>obtain⟨v,rfl,b,o,d,rfl,_⟩:=h;rw[xag.1 hc];rfl
 keep:=by
  intro S x cs w w' h k
  cases x with
  |none=>exact h
  |some y=>have⟨v,h1,a⟩:=h;exact⟨v,h1,(fP e y v).keep a k⟩
 sub:=by
  intro S f x cs w h k
  cases x with
  |none=>exact h
  |some y=>have⟨v,h1,a⟩:=h;exact⟨v,h1,(fP e y v).sub a k⟩
section
variable{α:Type}{e:zW α}{S:wr->Prop}{w:wP}{v:wN}
def zpd(h:(fV (eO e) wF v).p S w):v=.pointer wF:=by
 obtain⟨cs,rfl,h⟩:=h;rw[show cs=_ from h];rfl
def zoR:(fV (eO e) wF (.pointer wF)).p S w:=⟨[.pointer wF],O,O⟩
def zgX{y:α}(h:(fV (eO e) (Z y) v).p S w):(fP e y v).p S w:=by
 obtain⟨cs,rfl,v,rfl,h⟩:=h;exact h
def zo4{y:α}(h:(fP e y v).p S w):(fV (eO e) (Z y) v).p S w:=⟨[v],O,v,O,h⟩
def zne{x:V α}(h:(fV (eO e) x v).p S w):∃p,v=.pointer p/\p.isNone=x.isNone:=by
 cases x with
 |none=>exact⟨_,zpd h,O⟩
 |some y=>have⟨b,o,cs,h1,_⟩:=zgX h;exact⟨_,h1,O⟩
end
def eW{α:Type}(e:zW α):zW α where
 n:=e.n
 agg:=wL
 n1 h:=by cases h
 p:=e.p
 len:=e.len
 one:=e.one
 keep:=e.keep
 sub:=e.sub
def Sub.wrap{α:Type}(e:zW α)(x:α):Sub (eW e).c x 0 e x id:=λS w cs h=>Sub.self e x S w cs h
def b6{α:Type}(e:zW α)(off:K)(nl:α->α)(hv:N wN):ru (α×K)where
 p S z cs w:=∃u,hv[z.2]? =Z u/\u.oneCell'=wL/\cs[off]? =Z u/\e.p S (nl z.1) (cs.set off (.slice wF 0 0)) w
 keep:=λ⟨u,h1,a,b,c⟩ k=>⟨u,h1,a,b,e.keep c k⟩
 sub:=λ⟨u,h1,a,b,c⟩ k=>⟨u,h1,a,b,e.sub c k⟩
def mVr{α β:Type}(q:Prop)(e:zW α)(E off:K)(nl:α->α)(s:zW β)(E1:wT)(u:wN)(z:α)(xs:N β):MF:=DI [mPr<|X (xU u)=1/\q,mP (b6 e off nl<|xU u) E (yC u) (z,0),mO s E1 ((xU u).headD uT) xs]
def mVh{α:Type}(q:Prop)(e:zW α)(E off:K)(nl:α->α)(u:wN)(z:α):MF:=DI [mPr<|X (xU u)=1/\q,mP (b6 e off nl<|xU u) E (yC u) (z,0)]
def eRw(n:K)(ag:qR)(hn:ag=I->n=1):zW (V<|N wN)where
 n:=n
 agg:=ag
 n1:=hn
 p _ x cs _:=X cs=n/\(∀c∈cs,c.oneCell'=wL)/\∀l,x=Z l->cs=l
 len h:=h.1
 one h:=h.2.1
 keep h _:=h
 sub h _:=h
section
variable{α β γ:Type}{e:zW α}{s:zW β}{g:zW γ}{off o:wr}{nl:α->α}{hv hv':xS wN}{S:wr->Prop}{w:wP}{cs:xS wN}
def zld{z:α×K}(h:(b6 e off nl hv).p S z cs w):(eRw e.n e.agg e.n1).p S wF cs w:=by
 have⟨u,h1,d,f,b⟩:=h;have hl:=e.len b;rw[xbj]at hl;refine⟨hl,λc hc=> ?_,λl hl=>by cases hl⟩;have⟨k,a⟩:=xfJ.1 hc;by_cases e1:k=off
 ·subst e1;rw[f]at a;cases a;exact d
 ·refine e.one b c<|xfJ.2 ⟨k,?_⟩;rw[List.getElem?_set_ne<|Ne.symm e1];exact a
def zlz{x:α}{v:wN}(h:(fV e x v).p S w):(fV (eRw e.n e.agg e.n1) (Z v.cells.toList) v).p S w:=by
 have h1:=Zc h;obtain⟨cs,rfl,a⟩:=h;refine⟨cs,O,e.len a,e.one a,λl hl=> ?_⟩;cases hl;exact(e.val_cells a).symm
def zkh{z:α×K}(h:(b6 e off nl hv).p S z cs w):(b6 e off nl<|hv++hv').p S z cs w:=by
 have⟨u,h1,a⟩:=h;exact⟨u,by rw[xaX (xar.1 h1).1];exact h1,a⟩
def zoX{z:α}{r a:K}(b:hv[r]? =hv'[a]?)(h:(b6 e off nl hv).p S (z,r) cs w):(b6 e off nl hv').p S (z,a) cs w:=by
 have⟨u,h1,c⟩:=h;exact⟨u,b▸h1,c⟩
def Sub.hole{z:α}{r:K}:Sub (b6 e off nl hv) (z,r) off (Ya hv) r (λa=>(z,a)):=by
 rintro S w cs ⟨u,h1,c,d,f⟩;have⟨h,i⟩:=xar.1 d;refine⟨cs.take off,[u],cs.drop<|off+1,?_,by rw[xav];lia,⟨u,h1,c,O⟩,?_⟩
 ·rw[<-i];simp
 ·rintro w' a n k ⟨b,j,l,rfl⟩;have hl:X (cs.take off)=off:=by rw[xav];lia
  refine⟨b,j,l,?_,?_⟩
  ·rw[xad,xbr W,hl];simp
  ·have e1:(cs.take off++[b]++cs.drop (off+1)).set off (.slice wF 0 0)=cs.set off (.slice wF 0 0):=by
    have m:cs.set off (.slice wF 0 0)=cs.take off++ .slice wF 0 0::cs.drop (off+1):=by rw[xef,iq h]
    rw[m,xad,xdJ _ _ W,hl,xcD];rfl
   rw[e1];exact e.keep f k
def Sub.other{z:α}{r:K}{y:γ}{up:γ->α}(h:Sub e.c (nl z) o g y λy=>nl<|up y)(hd:o+g.n<=off\/off+1<=o):Sub (b6 e off nl hv) (z,r) o g y (λy=>(up y,r)):=by
 rintro S w cs ⟨u,h1,q,B,C⟩;have⟨a,c,b,f,t,m,v⟩:=h S w _ C;have⟨hc,D⟩:=xar.1 B;have E:=g.len m;have x:cs=(cs.set off (.slice wF 0 0)).set off u:=by rw[List.set_set,<-D,xdh]
 obtain hd|hd:=hd
 ·have F:off-X (a++c)<X b:=by
   have:X (cs.set off (.slice wF 0 0))=X cs:=xbj;rw[f,xaw]at this;rw[xaw]at this⊢;lia
  have A:X (a++c)<=off:=by rw[xaw];lia
  refine⟨a,c,b.set (off-X (a++c)) u,?_,t,m,?_⟩
  ·rw[x,f,xdJ _ _ A]
  ·intro w' y' d k j;have p:=v w' y' d k j;have G:=g.len j;have hi:X (a++d)=X (a++c):=by rw[xaw,xaw,E,G]
   refine⟨u,h1,q,?_,?_⟩
   ·rw[xbr W,hi,xdv F]
   ·have:(a++d++b.set (off-X (a++c)) u).set off (.slice wF 0 0)=a++d++b:=by
     rw[xdJ _ _ W,hi,List.set_set];have hp:b[off-X (a++c)]? =Z (.slice wF 0 0):=by
      have:=ut (λl:N wN=>l[off]?) f;simp only[xdv hc]at this;rw[xbr A]at this;exact this.symm
     have⟨_,hp⟩:=xar.1 hp;rw[<-hp,xdh]
    rw[this];exact p
 ·have i:off<X a:=W
  refine⟨a.set off u,c,b,?_,by rw[xbj];exact t,m,?_⟩
  ·rw[x,f,xad,xeW _ _ i,xad]
  ·intro w' y' d k j;have p:=v w' y' d k j;refine⟨u,h1,q,?_,?_⟩
   ·rw[xad,xaX (by rw[xbj];exact i),xdv i]
   ·have:(a.set off u++d++b).set off (.slice wF 0 0)=a++d++b:=by
     rw[xad,xeW _ _ (by rw[xbj];exact i),List.set_set];have hp:a[off]? =Z (.slice wF 0 0):=by
      have:=ut (λl:N wN=>l[off]?) f;simp only[xdv hc]at this;rw[xad,xaX i]at this;exact this.symm
     have⟨_,hp⟩:=xar.1 hp;rw[<-hp,xdh,xad]
    rw[this];exact p
end
end
section
variable{v:wN}{S:wr->Prop}{w:wP}
def eCh:zW K where
 n:=1
 agg:=I
 n1 _:=O
 p _ x cs _:=cs=[.int .u8 (x:J)]/\x<256
 len h:=by simp[h.1]
 one h:=by intro c hc;rw[h.1]at hc;simp at hc;subst hc;rfl
 keep h _:=h
 sub h _:=h
def xd(s:Wd):N K:=s.data.toList.map xfB
def eTx:zW (N K)where
 n:=1
 agg:=I
 n1 _:=O
 p _ x cs _:=∃s:Wd,cs=[.string s]/\xd s=x/\s.size<=9223372036854775807
 len:=by rintro _ _ _ _ ⟨s,rfl,_⟩;rfl
 one:=by rintro _ _ _ _ ⟨s,rfl,_⟩ c hc;simp at hc;subst hc;rfl
 keep h _:=h
 sub h _:=h
def zoN{x:K}(h:(fV eCh x v).p S w):v=.int .u8 (x:J)/\x<256:=by
 obtain⟨cs,rfl,rfl,h⟩:=h;exact⟨O,h⟩
def FQ{x:K}(h:x<256):(fV eCh x (.int .u8 (x:J))).p S w:=⟨_,O,O,h⟩
def O1{x:N K}(h:(fV eTx x v).p S w):∃s:Wd,v=.string s/\xd s=x/\s.size<=9223372036854775807:=by
 obtain⟨cs,rfl,s,rfl,h1,a⟩:=h;exact⟨s,O,h1,a⟩
def OD{s:Wd}{x:N K}(h:xd s=x)(a:s.size<=9223372036854775807):(fV eTx x (.string s)).p S w:=⟨_,O,s,O,h,a⟩
def jk(s:Wd):X (xd s)=s.size:=by simp_all [xd]
inductive Ty
 |i
 |u
 |b
 |l (t:Ty)
 |p (s t:Ty)
 |a (k:K) (t:Ty)
 |ch
 |tx
 |po (t:Ty)
 |w1 (t:Ty)
def Ty.D:Ty->Type
 |.i=>J
 |.u=>K
 |.b=>qR
 |.l t=>N t.D
 |.p s t=>s.D×t.D
 |.a _ t=>N t.D
 |.ch=>K
 |.tx=>N K
 |.po t=>V t.D
 |.w1 t=>t.D
def Ty.rep:(t:Ty)->zW t.D
 |.i=>eI
 |.u=>eU
 |.b=>Pc
 |.l t=>eS t.rep
 |.p s t=>eP s.rep t.rep
 |.a k t=>eA k t.rep
 |.ch=>eCh
 |.tx=>eTx
 |.po t=>eO t.rep
 |.w1 t=>eW t.rep
def Ty.z:(t:Ty)->t.D
 |.i=>(0:J)
 |.u=>(0:K)
 |.b=>I
 |.l t=>([]:N t.D)
 |.p s t=>(s.z,t.z)
 |.a k t=>xaa k t.z
 |.ch=>(0:K)
 |.tx=>([]:N K)
 |.po t=>(wF:V t.D)
 |.w1 t=>t.z
def Ty.n:Ty->K
 |.p s t=>s.n+t.n
 |.a k t=>k*t.n
 |.w1 t=>t.n
 |_=>1
def Ty.n_rep:∀t:Ty,t.rep.n=t.n
 |.i=>rfl
 |.u=>rfl
 |.b=>rfl
 |.l _=>rfl
 |.ch=>rfl
 |.tx=>rfl
 |.p s t=>by show s.rep.n+t.rep.n=_;rw[Ty.n_rep s,Ty.n_rep t];rfl
 |.a k t=>by show k*t.rep.n=_;rw[Ty.n_rep t];rfl
 |.po _=>rfl
 |.w1 t=>Ty.n_rep t
def Ty.same:(s t:Ty)->V (PLift<|s=t)
 |.i,.i=>Z ⟨O⟩
 |.u,.u=>Z ⟨O⟩
 |.b,.b=>Z ⟨O⟩
 |.ch,.ch=>Z ⟨O⟩
 |.tx,.tx=>Z ⟨O⟩
 |.l s,.l t=>match Ty.same s t with
  |some ⟨h⟩=>Z ⟨ut Ty.l h⟩
  |none=>wF
 |.p s t,.p c d=>match Ty.same s c,Ty.same t d with
  |some ⟨h⟩,Z ⟨e⟩=>Z ⟨h▸e▸O⟩
  |_,_=>wF
 |.a k s,.a k' t=>if f:k=k' then(match Ty.same s t with
  |some ⟨h⟩=>Z ⟨f▸h▸O⟩
  |none=>wF)else wF
 |.po s,.po t=>match Ty.same s t with
  |some ⟨h⟩=>Z ⟨ut Ty.po h⟩
  |none=>wF
 |.w1 s,.w1 t=>match Ty.same s t with
  |some ⟨h⟩=>Z ⟨ut Ty.w1 h⟩
  |none=>wF
 |_,_=>wF
def Ty.cast{R:Type}(s t:Ty)(x:s.D)(k:t.D->V R):V R:=match Ty.same s t with
 |some ⟨h⟩=>k<|h▸x
 |none=>wF
def mG:N Ty->Type
 |[]=>Z9
 |t::r=>t.D×mG r
def Hl:N Ty->Type
 |[]=>Z9
 |[t]=>t.D
 |t::s::r=>t.D×Hl (s::r)
structure Fl(α:Type)where
 off:K
 f:Ty
 get:α->f.D
 set:f.D->α->α
def Fl.self(t:Ty):Fl t.D:=⟨0,t,id,λy _=>y⟩
def Xu{α:Type}(f:V (Fl α)):K:=match f with
 |some f=>f.off
 |none=>0
def uH{α:Type}(s:Ty)(f:V (Fl α))(xs:N s.D)(z:α):α:=match f with
 |some ⟨_,.l a,_,st⟩=>(match Ty.same s a with
  |some ⟨h⟩=>st (h▸xs) z
  |none=>z)
 |_=>z
def Fl.comp{α:Type}(a:Fl α)(c:Fl a.f.D):Fl α:=⟨a.off+c.off,c.f,λz=>c.get<|a.get z,λy z=>a.set (c.set y<|a.get z) z⟩
def xl:(k:K)->(t:Ty)->(i:K)->V (Fl t.D)
 |0,.w1 t,0=>Z ⟨0,t,λz=>z,λy _=>y⟩
 |0,_,_=>wF
 |1,t,i=>bif E i 0 then Z (Fl.self t)else wF
 |k+2,.p s t,0=>Z ⟨0,s,λz=>z.1,λy z=>(y,z.2)⟩
 |k+2,.p s t,i+1=>match xl (k+1) t i with
  |some f=>Z ⟨s.n+f.off,f.f,λz=>f.get z.2,λy z=>(z.1,f.set y z.2)⟩
  |none=>wF
 |_,_,_=>wF
structure PD where
 t:Ty
 x:t.D
def RL(d:jP)(l:K){α X Y:Type}(e:zW α)(E:wT)(b:X->wN->MF)(f:Y->wN->MF)(g:N α->X->V (N α×(X⊕Y))):Prop:=
 ∀ys x a r,g ys x=Z (a,r)->∀(v u:wN) we Se F G w,St we Se (b x u::mO e E v ys::F) G w->
  YieldAt xgh 0 d l #[v] w λq w'=>q=.returned (.bool r.isLeft)/\∃c,St we Se (xfH (λx=>b x c) (λy=>f y c) r::mO e E v a::F) G w'
def lOf:wN->K
 |.int _ x=>x.toNat
 |_=>0
inductive Dv
 |d (t:Ty) (x:t.D)
 |q (t:Ty) (x:t.D)
 |kb (b:qR)
 |un
 |nil
 |ow (o:K)
 |ep (o:K) (t:Ty) (j:K) (f:Fl t.D)
 |sv (o:K) (t:Ty) (lo n:K)
 |vs (o:K) (t:Ty)
 |vp (o:K) (t:Ty) (f:Fl t.D)
 |fn (f:Z4) (c:N PD)
 |fp (dom cod:N Ty) (g:mG dom->V (Hl cod))
 |pin (v:wN)
 |mw (o:K)
 |mv (o lo n:K)
 |hp (o j:K)
 |rw(o r:K)
 |rp (o:K) (t:Ty) (r j:K) (f:Fl t.D)
 |yd (o:K)
 |np
 |vf (o:K) (t:Ty) (n i:K)
 |bm (f:Z4) (o:K) (t:Ty)
 |dz (t:Ty) (x:t.D) (n i:K)
inductive Od
 |own (t:Ty) (E:wT) (xs:N t.D)
 |var (t:Ty) (E:wT) (z:t.D)
 |mat (t:Ty) (E E1:wT) (xss:N (N t.D)) (ix:N K)
 |bo (t:Ty) (E E0:wT) (xs:N t.D)
 |ho (E0:wT)
 |vr (t:Ty) (E:wT) (s:Ty) (E1:wT) (n i:K) (z:t.D) (xs:N s.D)
 |vh (t:Ty) (E:wT) (s:Ty) (E1:wT) (n i:K) (z:t.D)
 |hid (t:Ty) (E:wT) (X Y:Type) (mX:X->wN->MF) (mY:Y->wN->MF) (g:N t.D->X->V (N t.D×(X⊕Y))) (x:X)
 |hiy (Y:Type) (mY:Y->wN->MF) (y:Y)
structure Sg where
 nx:K
 rg:N (K×K×Dv)
 ob:N (K×Od)
def ig:N (K×K×Dv)->K->K->V Dv
 |[],_,_=>wF
 |(a,b,d)::r,t,i=>bif E a t && E b i then Z d else ig r t i
def xH:N (K×Od)->K->V Od
 |[],_=>wF
 |(a,x)::r,o=>bif E a o then Z x else xH r o
def get(cx σ:Sg)(t i:K):V Dv:=match ig σ.rg t i with
 |some d=>Z d
 |none=>ig cx.rg t i
def Va(cx σ:Sg)(o:K):V Od:=match xH σ.ob o with
 |some d=>Z d
 |none=>xH cx.ob o
def lk(l:N K)(t:K):qR:=l.any<|E t
def XL(rg:N (K×K×Dv))(t:K):qR:=rg.all λe=> !E e.1 t
def zjN(rg:N (K×K×Dv))(t:K):N (K×K×Dv):=rg.filter λe=> !E e.1 t
def yw:N (K×Od)->K->N (K×Od)
 |[],_=>[]
 |(a,y)::r,o=>bif E a o then r else(a,y)::yw r o
def jY:N (K×Od)->K->Od->N (K×Od)
 |[],_,_=>[]
 |(a,y)::r,o,x=>bif E a o then(a,x)::r else(a,y)::jY r o x
def vQ(rg:N (K×K×Dv))(d:V Z5)(l:N (K×Dv)):N (K×K×Dv):=match d with
 |some t=>l.map (λe=>(t,e.1,e.2))++zjN rg t
 |none=>rg
def wQ(cx:Sg)(d:V Z5):qR:=match d with
 |some t=>XL cx.rg t
 |none=>wL
def Sg.put(σ:Sg)(d:V Z5)(l:N (K×Dv)):Sg:=⟨σ.nx,vQ σ.rg d l,σ.ob⟩
def cv:wN->V Dv
 |.int .i64 x=>if KH x then Z (.d .i x)else wF
 |.int .u64 x=>if 0<=x/\x<18446744073709551616 then Z (.d .u x.toNat)else wF
 |.bool b=>Z (.kb b)
 |.int .u8 x=>if 0<=x/\x<256 then Z (.d .ch x.toNat)else wF
 |.string s=>if s.size<=9223372036854775807 then Z (.d .tx<|xd s)else wF
 |.slice wF 0 0=>Z .nil
 |.pointer wF=>Z .np
 |.nilFunc=>Z (.pin .nilFunc)
 |_=>wF
def xD(cx σ:Sg):wW->V Dv
 |.tmp t=>get cx σ t 0
 |.const v=>cv v
 |.func f=>Z (.fn f [])
 |.global _=>wF
inductive TK
 |int (k:Xs)
 |bool
 |str
 |sl (E:wT)
 |st (k:K)
 |ar (k:K) (E:wT)
 |pt (E:wT)
structure TI where
 ty:Ty
 k:TK
 B:K
inductive AM
 |d (t:Ty)
 |q (t:Ty)
 |own (t:Ty) (E:wT)
 |fn (dom cod:N Ty)
 |var (t:Ty) (E:wT)
def AM.D:AM->Type
 |.d t=>t.D
 |.q t=>t.D
 |.own t _=>N t.D
 |.var t _=>t.D
 |.fn dom cod=>mG dom->V (Hl cod)
def fE:N AM->Type
 |[]=>Z9
 |a::r=>a.D×fE r
inductive RM
 |d (t:Ty)
 |own (t:Ty) (E:wT)
 |var (t:Ty) (E:wT)
def RM.D:RM->Type
 |.d t=>t.D
 |.own t _=>N t.D
 |.var t _=>t.D
def mH:N RM->Type
 |[]=>Z9
 |[a]=>a.D
 |a::b::r=>a.D×mH (b::r)
def RM.ty:RM->Ty
 |.d t=>t
 |.own t _=> .l t
 |.var t _=>t
inductive TF
 |d (t:Ty)
 |q (t:Ty)
 |own (t:Ty) (E:wT)
 |var (t:Ty) (E:wT)
 |mat (t:Ty) (E E1:wT)
 |matv (t:Ty) (E E1:wT)
 |row (j:K)
 |view (j:K)
 |bo (t:Ty) (E E0:wT)
 |vr (t:Ty) (E:wT) (s:Ty) (E1:wT) (n i:K)
def TF.D:TF->Type
 |.d t=>t.D
 |.q t=>t.D
 |.own t _=>N t.D
 |.var t _=>t.D
 |.mat t _ _=>N (N t.D)×N K
 |.matv t _ _=>(N (N t.D)×N K)×(K×K)
 |.row _=>K
 |.view _=>K×K
 |.bo t _ _=>N t.D
 |.vr t _ s _ _ _=>t.D×N s.D
def B3:TF->V K
 |.row j=>Z j
 |.view j=>Z j
 |_=>wF
inductive NF
 |kb (b:qR)
 |nil
 |ci (x:J)
 |cu (x:K)
 |al (s:K)
 |bm (s:K) (f:Z4)
structure Sh where
 ds:N (K×TF)
 ns:N (K×NF)
structure Sgm where
 ro:N K
 tg:N (Tg×Sh)
structure Lp where
 hd:Sh
 sg:Sgm
structure An where
 bx:N K
 jn:N (K×Sgm)
 lp:N (K×Lp)
 dz:N (K×N K)
 vw:N K
 mt:N K
 vr:N (K×K×K)
def U3{α:Type}:N (K×α)->K->V α
 |[],_=>wF
 |(k,x)::r,t=>bif E k t then Z x else U3 r t
end
end Go.Proofs.YtoegnnjcmlghhaaGreat
