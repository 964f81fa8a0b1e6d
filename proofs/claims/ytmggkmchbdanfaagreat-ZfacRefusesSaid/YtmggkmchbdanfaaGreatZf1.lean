/- What a proof needs: rules of walking, mirrors of functions and their plain laws. No condition. -/
import Derived.WalkKit
import Derived.KernelRfl
import Derived.CallsIn
import Derived.OrdersIn
import Derived.TacticsIn
import Derived.RangeFuncIn
import Derived.Laws.AppendOwn
import Derived.Laws.OwnMore
import Derived.Laws.CopyOwn
import Derived.Orders
import Derived.Laws.IdiomCopy
import Derived.Laws.CopyRow
import Derived.Scope
import Derived.Lib.BitFns
import Derived.Test.YtmggkmchbdanfaaGreatRows
import Derived.ProofKit
import Derived.OpenShut
import Derived.Laws.Pointers
import Derived.Test.YtmggkmchbdanfaaGreatProg
import Derived.RangeFuncSeq
import Derived.RangeFuncRecord
set_option linter.all false
namespace Go.Proofs.YtmggkmchbdanfaaGreat
open Bool renaming true->I,false->wL
open Go renaming Value->wN,World->wP,TypeId->wT,Operand->wW,execOp->jp,Program->jP,run_underlying->kw,Oper->ut,undef->uL,FuncId->Z3,Tmp->Z4,IntKind->Z9,resolve->Wl,Code->Wn,heap_alloc_new->Wt,maxLen->Ww,eqGuard->WD,wpListIn->WF,invoke->WN,typeInfo->WP,sizeOf->WR,run_newObj_alloc->WS,binOp->WT,ResultVar->WW,BinOp->V0,getD_set_ne->V1,wpIn_mono->V2,asIntOf->V4,grownCap->V5,Act->V6,Func->QR,results->Jp,Addr->JP,builtin->KW,Calls->Ul,MemPlace->Us,getD_set_true->Ut,size_zeroCells->UL,growslice_fits->UP,run_loadCells_list->US,grownCap_le_maxLen->UT,wpAnyIn->U8,run_storeCells_at->am,newRow->aC,zeroValue->bi,setRow_heap->bv,fenced_calm->bI,Exit->bV,asInt->cE,PanicEntry->cO,TypeInfo->cS,setRow_other->dL,madeCells->fD,loadVar->fN,grownCap_ge->ge,goInt->gS,callFunc->gT,DataW->g8
open List renaming length->X
open Nat renaming beq->F
open Option renaming some->Z,none->wF
open _root_ renaming rfl->O,List->N,Int->J,Nat->K,Option->V,List->xS,Nat->wr,Option->ww,trivial->wR,absurd->wS,Bool->v6,congrArg->kW,Array->ul,if_true->uP,if_false->uS,Unit->Z2,True->Z5,ByteArray->Xs,cond_false->XS,cond_true->Wd,congrFun->Wr,Decidable->WL,False->V3,decide_eq_true_eq->Qr,if_pos->aM,decide_eq_decide->aP,not_true_eq_false->eX
theorem W{p:Prop}(h:p:=by lia):p:=h
theorem g9{p:Prop}(h:p:=by lia):p:=h
theorem ii{p:Prop}(h:p:=by omega):p:=h
theorem iI{p:Prop}(h:p:=by decide):p:=h
theorem iP{p:Prop}(h:p:=by simp):p:=h
theorem iT{p:Prop}(h:p:=by kernel_rfl):p:=h
open Bool renaming and_eq_true->xab,false_eq_true->xar,false_or->xew,not_eq_true'->xcN,not_true->xeL,or_eq_true->xdR
open Builtin renaming append_->xbQ,copy_->xfJ,firstCells->xeD,lenOf->xfc,zeroCells->xbk
open DataW renaming TrodAll->xeM
open Deferred renaming ofValue->xcV
open Extern renaming find->xeS,findNext->xeF
open Extern.MathBitsCarry renaming m64->xbf,pair->xcq,three->xbJ
open Fence renaming wide->xfK
open Instr renaming buildSlice->xez,fill->xdB,slice->xfN,sliceAt->xcU,sliceBound->xey,sliceBounds->xem,sureAddr->xfu
open Int renaming natAbs_ediv_le_natAbs->xcc,natCast_mul->xde,toNat_natCast->xaN
open IntKind renaming i64->xcY,u64->xch,u8->xfR
open Lib renaming bitLen->xeX
open List renaming all_eq_true->xaQ,any_eq_true->xfE,append_assoc->xao,append_nil->xbB,cons_append->xbL,drop->xdI,drop_eq_getElem_cons->xcb,drop_eq_nil_of_le->xbW,drop_left'->xfM,eq_nil_of_length_eq_zero->xbe,ext_getElem?->xcy,getElem?_append_left->xbj,getElem?_append_right->xbz,getElem?_cons_zero->xbZ,getElem?_drop->xfa,getElem?_eq_getElem->xak,getElem?_eq_none->xbP,getElem?_eq_some_iff->xax,getElem?_replicate->xfb,getElem?_set_self->xdW,getElem?_take->xce,getElem?_zip_eq_some->xeO,getElem_mem->xcd,getElem_of_mem->xcW,length_append->xaq,length_cons->xaw,length_drop->xcf,length_eq_one_iff->xcR,length_map->xaZ,length_nil->xbR,length_replicate->xaT,length_set->xbt,length_take->xas,map_cons->xbU,map_nil->xer,map_toArray->xdE,mem_append->So,mem_cons->xag,mem_cons_of_mem->UV,mem_cons_self->FS,mem_iff_getElem?->xfw,mem_map->xap,mem_of_getElem?->xby,mem_of_mem_eraseIdx->xdA,mem_of_mem_take->xel,mem_range->xbd,mem_singleton->xad,nil_append->xbH,not_mem_nil->H1,pairwise_cons->xdC,range->xaY,range_succ->xdv,replicate->Nm,replicate_succ->xdQ,set_append_left->xfG,set_append_right->xfx,set_cons_succ->xfd,set_eq_take_append_cons_drop->xdY,set_getElem_self->xda,size_toArray->xfm,take->xdu,take_append_drop->xbA,take_of_length_le->xaW,take_succ_cons->xeu
open Nat renaming add_assoc->xcM,add_comm->xdO,add_mul->xaX,add_zero->xbO,ble->xfQ,blt->xcX,div_le_self->xcE,div_lt_iff_lt_mul->xaS,eq_of_beq_eq_true->xdt,le_mul_of_pos_left->xdm,le_mul_of_pos_right->xcm,le_of_ble_eq_true->xca,le_refl->IR,le_trans->xae,lt_of_le_of_lt->xaK,lt_of_lt_of_le->xaj,lt_or_ge->xbS,mod_eq_of_lt->xam,mod_lt->xaM,mul_le_mul_right->xan,one_mul->xbN,pos_of_ne_zero->xcD,strongRecOn->xdc,zero_add->xaJ,zero_le->xac,zero_mul->xcx
open Op renaming intCmp->xfO
open Oper renaming looksAt->xbm
open Option renaming getD_some->xeA
open Option.some renaming inj->xdf,injEq->xat
open Prod.mk renaming injEq->xdd
open Region renaming binds->xcs,ready->xdZ
open Result renaming andThen_ok->xal
open Sem renaming run_bind->xay,run_pure->xaO
open Sum renaming elim->xfe
open UInt8 renaming toNat->xfn
open Value renaming bool->xeB,cells->xfL,ownBlock->xej
open _root_.Array renaming getD_eq_getD_getElem?->xbG,getElem?_eq_getElem->xdq,getElem?_eq_some_iff->xbh,length_toList->xev,mem_toList_iff->xdH,range->xeR,replicate->xeE,toArray_toList->xdh,toList_append->xeT
 universe u
def zP{c:Prop}{h:WL c}{α:Type}{t e:α}(hc:c:=by lia):ite c t e=t:=aM hc
def zA{c:Prop}{h:WL c}{α:Type}{t e:α}(hc:¬c:=by lia):ite c t e=e:=if_neg hc
def iq{c:Prop}{h:WL c}(hc:c){α:Sort u}{t e:α}:ite c t e=t:=aM hc
def ir{c:Prop}{h:WL c}(hc:¬c){α:Sort u}{t e:α}:ite c t e=e:=if_neg hc
def Gv(w:wP):Prop:=Z5
def Gv.keep{w w':wP}(h:Gv w)(a:w.heap.size<=w'.heap.size)(b:∀k,k<w.heap.size->w'.heap[k]? =w.heap[k]?):Gv w':=wR
section
structure yv(S:K->Prop)(w w':wP):Prop where
 os:w'.os=w.os
 tape:w'.os=w.os
 output:w'.output=w.output
 size:w.heap.size<=w'.heap.size
 block:∀k,k<w.heap.size->S k->w'.heap[k]? =w.heap[k]?
abbrev J4(w w':wP):Prop:=yv (λ_=>Z5) w w'
theorem yv.refl(S:K->Prop)(w:wP):yv S w w:=⟨O,O,O,IR _,λ_ _ _=>O⟩
def yv.trans{S:K->Prop}{a b c:wP}(h:yv S a b)(k:yv S b c):yv S a c:=
 ⟨k.os.trans h.os,k.tape.trans h.tape,k.output.trans h.output,xae h.size k.size,
  λi hi d=>(k.block i (xaj hi h.size) d).trans<|h.block i hi d⟩
def yv.weak{S c:K->Prop}{a b:wP}(h:yv S a b)(e:∀k,k<a.heap.size->c k->S k):yv c a b:=
 ⟨h.os,h.tape,h.output,h.size,λk d f=>h.block k d<|e k d f⟩
def J4.to{S:K->Prop}{a b:wP}(h:J4 a b):yv S a b:=h.weak λ_ _ _=>wR
def J4.behind{S:K->Prop}{we a b:wP}(h:J4 we a)(k:yv S a b)(c:∀i,i<we.heap.size->S i):J4 we b:=
 ⟨k.os.trans h.os,k.tape.trans h.tape,k.output.trans h.output,xae h.size k.size,
  λi hi _=>(k.block i (xaj hi h.size)<|c i hi).trans<|h.block i hi wR⟩
def J4.alloc(w:wP)(o:Obj):J4 w (w.alloc o):=
 ⟨O,O,O,iP,λk a _=>RowKit.Below.heap_alloc w o k a⟩
def J4.drawn(w:wP)(n:K):J4 w {w with drawn:=n}:=⟨O,O,O,IR _,λ_ _ _=>O⟩
structure FF where
 p:(K->Prop)->wP->Prop
 keep:∀{S:K->Prop}{w w':wP},p S w->yv S w w'->p S w'
 sub:∀{S S':K->Prop}{w:wP},p S w->(∀k,k<w.heap.size->S k->S' k)->p S' w
structure MF where
 blk:K->Prop
 p:(K->Prop)->wP->Prop
 keep:∀{S:K->Prop}{w w':wP},p S w->yv S w w'->(∀k,blk k->w'.heap[k]? =w.heap[k]?)->p S w'
 sub:∀{S S':K->Prop}{w:wP},p S w->(∀k,k<w.heap.size->S k->S' k)->p S' w
 lt:∀{S:K->Prop}{w:wP},p S w->∀k,blk k->k<w.heap.size
def zE(S:K->Prop):N FF->wP->Prop
 |[],_=>Z5
 |f::r,w=>f.p S w/\zE S r w
def yT(S:K->Prop):N MF->wP->Prop
 |[],_=>Z5
 |f::r,w=>f.p S w/\yT S r w
def zE.keep{S:K->Prop}{w w':wP}(k:yv S w w'):∀{Γ:N FF},zE S Γ w->zE S Γ w'
 |[],_=>trivial
 |f::_,h=>⟨f.keep h.1 k,zE.keep k h.2⟩
def zE.sub{S a:K->Prop}{w:wP}(b:∀k,k<w.heap.size->S k->a k):∀{Γ:N FF},zE S Γ w->zE a Γ w
 |[],_=>trivial
 |f::_,h=>⟨f.sub h.1 b,zE.sub b h.2⟩
def zE.append{S:K->Prop}{w:wP}:∀{Γ Δ:N FF},zE S Γ w->zE S Δ w->zE S (Γ++Δ) w
 |[],_,_,h=>h
 |_::_,_,h,k=>⟨h.1,zE.append h.2 k⟩
def yT.sub{S a:K->Prop}{w:wP}(b:∀k,k<w.heap.size->S k->a k):∀{Γ:N MF},yT S Γ w->yT a Γ w
 |[],_=>trivial
 |f::_,h=>⟨f.sub h.1 b,yT.sub b h.2⟩
def yT.keep{S:K->Prop}{w w':wP}(k:yv S w w'):∀{Γ:N MF},(∀m∈Γ,∀i,m.blk i->w'.heap[i]? =w.heap[i]?)->yT S Γ w->yT S Γ w'
 |[],_,_=>trivial
 |f::_,a,h=>⟨f.keep h.1 k<|a f<|FS,yT.keep k (λm b=>a m<|UV _ b) h.2⟩
def yT.lt{S:K->Prop}{w:wP}:∀{Γ:N MF},yT S Γ w->∀m∈Γ,∀i,m.blk i->i<w.heap.size
 |_::_,h,m,hm,i,hi=>by
  obtain rfl|hm:=xag.1 hm
  ·exact m.lt h.1 i hi
  ·exact yT.lt h.2 m hm i hi
def QE:N MF->Prop
 |[]=>Z5
 |m::r=>(∀k,m.blk k->∀m'∈r,¬m'.blk k)/\QE r
structure Tl(we:wP)(Se:K->Prop):Prop where
 up:∀k,we.heap.size<=k->Se k
 gv:Gv we
def St(we:wP)(Se:K->Prop)(ms:N MF)(Γ:N FF)(w:wP):Prop:=
 J4 we w/\Tl we Se/\QE ms/\∃S:K->Prop,(∀k,S k->Se k)/\(∀k,w.heap.size<=k->S k)/\(∀m∈ms,∀k,m.blk k->¬S k/\we.heap.size<=k)/\
  yT S ms w/\zE S Γ w
def Tl.at{we w:wP}{Se S:K->Prop}(h:Tl we Se)(x:J4 we w)(a:∀k,w.heap.size<=k->S k):Tl w S:=⟨a,h.gv.keep x.size λk b=>x.block k b wR⟩
section
variable{we:wP}{Se:wr->Prop}{ms:xS MF}{Γ Δ:xS FF}{w w':wP}
def St.ext(h:St we Se ms Γ w)(x:J4 w w'):St we Se ms Γ w':=by
 have⟨h1,b,c,S,d,e,f,a,g⟩:=h
 exact⟨h1.trans x,b,c,S,d,λk j=>e k<|xae x.size j,f,
  yT.keep x.to (λm l i hi=>x.block i (yT.lt a m l i hi) wR) a,zE.keep x.to g⟩
def St.step(h:St we Se ms Γ w)(x:J4 w w')(n:∀S:K->Prop,Tl w S->zE S Γ w->zE S Δ w'):St we Se ms Δ w':=by
 have⟨h1,a,d,S,e,b,f,c,g⟩:=h
 exact⟨h1.trans x,a,d,S,e,λk j=>b k<|xae x.size j,f,
  yT.keep x.to (λm l i hi=>x.block i (yT.lt c m l i hi) wR) c,n S (a.at h1 b) g⟩
theorem St.weak(h:St we Se ms Γ w)(n:∀(S:K->Prop) (w:wP),zE S Γ w->zE S Δ w):St we Se ms Δ w:=
 h.step (yv.refl _ _) λS _=>n S w
def St.ex(h:St we Se ms Γ w):∃S:K->Prop,Tl w S/\zE S Γ w:=
 let⟨h1,a,_,S,_,b,_,_,c⟩:=h;⟨S,a.at h1 b,c⟩
def Hd:∀{ms:N MF} (i:K) (m':MF),QE ms->(∀m,ms[i]? =Z m->m'.blk=m.blk)->QE (ms.set i m')
 |[],_,_,h,_=>by simpa using h
 |m::r,0,m',h,a=>by
  have:=a m O;exact⟨λk b=>h.1 k (by rw[<-this];exact b),h.2⟩
 |m::r,i+1,m',h,a=>by
  refine⟨λk b g c=> ?_,Hd i m' h.2<|λm d=>a m<|by simpa using d⟩;obtain⟨j,f,rfl⟩:=xcW c;rw[List.getElem_set];rw[xbt]at f;split
  ·rename_i e;rw[a r[i] iP];exact h.1 k b _<|xcd _
  ·exact h.1 k b _<|xcd _
theorem yT.get{S:K->Prop}:∀{ms:N MF}{i:K}{m:MF},yT S ms w->ms[i]? =Z m->m.p S w
 |_::_,0,_,h,e=>by simp only[xbZ,xat]at e;exact e▸h.1
 |_::_,_+1,_,h,e=>yT.get h.2<|by simpa using e
def fc:∀{ms:N MF}{i:K}{m:MF},QE ms->ms[i]? =Z m->∀k,m.blk k->∀(j:K) (m':MF),j≠i->ms[j]? =Z m'->¬m'.blk k
 |m0::r,0,m,h,e,k,b,j,m',c,a=>by
  simp only[xbZ,xat]at e;subst e;obtain⟨j,rfl⟩:∃d,j=d+1:=⟨j-1,W⟩;exact h.1 k b m'<|xby<|by simpa using a
 |m0::r,i+1,m,h,e,k,b,0,m',c,a=>by
  simp only[xbZ,xat]at a;subst a;exact λhc=>h.1 k hc m (xby<|by simpa using e) b
 |m0::r,i+1,m,h,e,k,b,j+1,m',c,a=>
  fc h.2 (by simpa using e) k b j m' W (by simpa using a)
def RP{S:K->Prop}{b:K}(x:yv (λk=>k≠b) w w'):∀{ms:N MF} (i:K) (m':MF),(∀k,S k->k≠b)->m'.p S w'->
 (∀(j:K) (m:MF),j≠i->ms[j]? =Z m->¬m.blk b)->yT S ms w->yT S (ms.set i m') w'
 |[],_,_,_,_,_,_=>trivial
 |m::r,0,m',c,f,d,h=>by
  refine⟨f,yT.keep (x.weak λk _ a=>c k a) (λl g k a=> ?_) h.2⟩;obtain⟨j,n,rfl⟩:=xcW g;exact x.block k (yT.lt h.2 _ (xcd _) k a)<|λe=>d (j+1) r[j] W iP<|e▸a
 |m::r,i+1,m',c,f,d,h=>by
  refine⟨m.keep h.1 (x.weak λk _ a=>c k a)<|λk a=>x.block k (m.lt h.1 k a)<|λe=>d 0 m W O<|e▸a,?_⟩;exact RP x i m' c f (λj l n g=>d (j+1) l W<|by simpa using g) h.2
theorem St.write{i:K}{m m':MF}{b:K}(h:St we Se ms Γ w)(hi:ms[i]? =Z m)(s:m.blk=λk=> @Z K b=Z k)(hd:m'.blk=λk=> @Z K b=Z k)(x:yv (λk=>k≠b) w w')
 (n:∀S:K->Prop,(∀k,S k->k≠b)->m.p S w->zE S Γ w->m'.p S w'):St we Se (ms.set i m') Γ w':=by
 have⟨h1,f,g,S,t,u,l,o,q⟩:=h;have c:m.blk b:=by rw[s]
 have d:∀k,S k->k≠b:=λk a e=>(l m (xby hi) b c).1<|e▸a;refine⟨h1.behind x (λk a e=>by have:=(l m (xby hi) b c).2;lia),f,Hd i m' g<|λr f=> ?_,S,t,λk a=>u k<|xae x.size a,?_,?_,?_⟩
 ·simp_all
 ·grind
 ·exact RP x i m' d (n S d (yT.get o hi) q) (λj r v hc=>fc g hi b c j r v hc) o
 ·exact zE.keep (x.weak λk _ a=>d k a) q
theorem St.fresh{m:MF}(h:St we Se ms Γ w)(x:J4 w w')(g:m.blk=λk=>Z w.heap.size=Z k)(hd:w.heap.size<w'.heap.size)
 (n:∀S:K->Prop,Tl w S->zE S Γ w->m.p (λk=>S k/\k≠w.heap.size) w'):St we Se (m::ms) Γ w':=by
 have⟨h1,b,j,S,l,c,q,d,e⟩:=h;have f:∀k,k<w.heap.size->S k->S k/\k≠w.heap.size:=λk a o=>⟨o,W⟩;refine⟨h1.trans x,b,⟨λk a m' hm' hc=> ?_,j⟩,λk=>S k/\k≠w.heap.size,λk a=>l k a.1,λk a=>⟨c k W,W⟩,?_,⟨n S (b.at h1 c) e,?_⟩,?_⟩
 ·grind
 ·intro m' hm' k a;obtain rfl|hm':=xag.1 hm'
  ·rw[g]at a;cases a;exact⟨λhc=>hc.2 O,h1.size⟩
  ·grind
 ·exact yT.keep x.to (λm' hm' i hi=>x.block i (yT.lt d m' hm' i hi) wR)<|yT.sub f d
 ·exact zE.keep x.to<|zE.sub f e
def Ku:∀{ms:N MF} (i:K),QE ms->QE (ms.eraseIdx i)
 |[],_,h=>by simpa using h
 |_::_,0,h=>h.2
 |m::r,i+1,h=>⟨λk a m' b=>h.1 k a m'<|xdA b,Ku i h.2⟩
def be{S:K->Prop}:∀{ms:N MF} (i:K),yT S ms w->yT S (ms.eraseIdx i) w
 |[],_,h=>by simpa using h
 |_::_,0,h=>h.2
 |_::_,i+1,h=>⟨h.1,be i h.2⟩
def St.freeze{i:K}{m:MF}{F:FF}(h:St we Se ms Γ w)(hi:ms[i]? =Z m)
 (n:∀S a:K->Prop,(∀k,S k->a k)->(∀k,m.blk k->a k)->m.p S w->F.p a w):St we Se (ms.eraseIdx i) (F::Γ) w:=by
 have⟨h1,d,e,S,s,g,b,f,l⟩:=h;have o:=xby hi;refine⟨h1,d,Ku i e,λk=>S k\/m.blk k,?_,λk hk=> .inl<|g k hk,?_,yT.sub (λk _ hk=> .inl hk)<|be i f,n S _ (λk hk=> .inl hk) (λk hk=> .inr hk)<|yT.get f hi,zE.sub (λk _ hk=> .inl hk) l⟩
 ·rintro k (hk|hk)
  ·simp_all
  ·exact d.up k (b m o k hk).2
 ·intro m' c k hk;refine⟨?_,(b m' (xdA c) k hk).2⟩;rintro(hc|hc)
  ·exact(b m' (xdA c) k hk).1 hc
  ·have⟨j,q,r⟩:=List.mem_eraseIdx_iff_getElem?.1 c;exact fc e hi k hc j m' q r hk
def St.drop{i:K}(h:St we Se ms Γ w):St we Se (ms.eraseIdx i) Γ w:=by
 have⟨h1,a,b,S,c,d,e,f,g⟩:=h;exact⟨h1,a,Ku i b,S,c,d,λm' j=>e m'<|xdA j,be i f,g⟩
def St.nil(h:zE Se Γ we)(a:Tl we Se):St we Se [] Γ we:=
 ⟨yv.refl _ _,a,wR,Se,λ_ h=>h,a.up,λ_ h=>wS h H1,wR,h⟩
end
abbrev y4:=K->wN
def L:N (K×wN)->y4->y4
 |[],r,t=>r t
 |(k,v)::l,r,t=>bif F t k then v else L l r t
def put(env:y4):V Z4->wN->y4
 |some d,v=>L [(d,v)] env
 |none,_=>env
def yR(a:V6):y4:=λt=>a.tmps.getD t uL
def ev(env:y4):wW->wN
 |.tmp t=>env t
 |.const v=>v
 |.global g=> .pointer<|some ⟨g,0,wF⟩
 |.func f=> .func (.func f) #[] #[]
def zjy(env:y4):N (K×wN)->N wN
 |[]=>[]
 |(k,_)::l=>env k::zjy env l
def zcE:N (K×wN)->N wN
 |[]=>[]
 |(_,v)::l=>v::zcE l
def KC(env:y4)(l:N (K×wN)):Prop:=zjy env l=zcE l
def DB{env:y4}{k:K}{v:wN}{l:N (K×wN)}(h:env k=v)(a:KC env l):KC env ((k,v)::l):=by
 show env k::zjy env l=v::zcE l;rw[h,show zjy env l=zcE l from a]
def o5{env:y4}{k:K}{v:wN}{l:N (K×wN)}(h:KC env ((k,v)::l)):env k=v/\KC env l:=by
 have h1:=h;exact List.cons.inj h1
def a8{env:y4}:∀{live:N (K×wN)},KC env live->L live env=env
 |[],_=>rfl
 |(k,v)::l,h=>by
  funext t;have b:=Wr (a8 (o5 h).2) t;simp only[L];cases a:F t k
  ·simp_all
  ·simp only[Wd];rw[xdt a];exact(o5 h).1.symm
def a7(a:V6):a.eval=ev (yR a):=by funext x;cases x<;>rfl
def Wz{a:V6}{d:V Z4}{v:wN}(h:∀t,d=Z t->t<a.tmps.size):yR (a.put d v)=put (yR a) d v:=by
 cases d with
 |none=>rfl
 |some d=>
  funext t;simp only[yR,Act.put,put,L,xbG];cases b:F t d
  ·have:d≠t:=λe=>by subst e;simp at b
   grind
  ·simp_all
def UU(a:V6)(d:V Z4)(v:wN):(a.put d v).tmps.size=a.tmps.size:=by cases d<;>simp[Act.put]
def X7(a:V6)(d:V Z4)(v:wN):(a.put d v).defers=a.defers:=by cases d<;>rfl
abbrev Qs:=bV->y4->wP->Prop
structure Nd where
 n:K
 ds:N Deferred
 rd:V K
abbrev Nd.of(n:K):Nd:=⟨n,[],wF⟩
abbrev Nd.F(N:Nd):Fence:={xfK with round:=N.rd}
def zdD(N:Nd)(Q:Qs):bV->V6->wP->Prop:=λe a w=>a.tmps.size=N.n/\a.defers=N.ds/\Q e (yR a) w
def Wp(P:jP)(N:Nd)(c:Wn)(Q:Qs)(env:y4)(w:wP):Prop:=
 ∀a:V6,a.tmps.size=N.n->a.defers=N.ds->yR a=env->c.wpIn N.F 0 P (zdD N Q) a w
def zqj(K:y4->wP->Prop)(Q:Qs):Qs
 |.normal,env,w=>K env w
 |e,env,w=>Q e env w
def T(P:jP)(N:Nd)(we:wP)(Se:K->Prop)(ms:xS MF)(Γ:xS FF)(c:Wn)(Q:Qs)(env:y4):Prop:=
 ∀w,St we Se ms Γ w->Wp P N c Q env w
section
variable{P:jP}{N:Nd}{we:wP}{Se:wr->Prop}{ms:xS MF}{Γ:xS FF}{Q:Qs}{env:y4}
def VQ{x y:Wn}(h:T P N we Se ms Γ x (zqj (Wp P N y Q) Q) env):T P N we Se ms Γ (.seq x y) Q env:=by
 intro w c a h1 d f;refine wpIn_seq<|V2 (h w c a h1 d f) ?_;intro e g w' ⟨q1,q2,b⟩;cases e<;>first|exact b g q1 q2 O|exact⟨q1,q2,b⟩
def NZ(h:∀w,St we Se ms Γ w->Q .normal env w):T P N we Se ms Γ .skip Q env:=
 λw a _ h1 b c=>wpIn_skip ⟨h1,b,c▸h w a⟩
def zc0(h:∀w,St we Se ms Γ w->Q .ret env w):T P N we Se ms Γ .ret Q env:=
 λw a _ h1 b c=>wpIn_ret ⟨h1,b,c▸h w a⟩
def Kz{c:wW}{x y:Wn}(hc:ev env c=.bool I)(h:T P N we Se ms Γ x Q env):T P N we Se ms Γ (.cond c x y) Q env:=
 λw d a h1 e b=>wpIn_cond_true (by rw[a7,b];exact hc)<|h w d a h1 e b
def QP{c:wW}{x y:Wn}(hc:ev env c=.bool wL)(h:T P N we Se ms Γ y Q env):T P N we Se ms Γ (.cond c x y) Q env:=
 λw d a h1 e b=>wpIn_cond_false (by rw[a7,b];exact hc)<|h w d a h1 e b
def zmU{c:wW}{x y:Wn}(b:v6)(hc:ev env c=.bool b)(h:b=I->T P N we Se ms Γ x Q env)(a:b=wL->T P N we Se ms Γ y Q env):T P N we Se ms Γ (.cond c x y) Q env:=by
 cases b
 ·exact QP hc<|a O
 ·exact Kz hc<|h O
structure Inv where
 ms:xS MF
 Γ:xS FF
 live:xS (K×wN)
def zbe{F:Fence}{n:K}{c:Wn}{Q:bV->V6->wP->Prop}{a:V6}{w:wP}{G:Type}(H:G->V6->wP->Prop)(t:G->K)(h:G)(p:H h a w)
 (round:∀g a w,H g a w->c.wpIn F n P (Exit.then (λo w'=>∃y,H y o w'/\t y<t g) Q) a w):(Code.loop c).wpIn F n P Q a w:=by
 intro b k cs hd u v
 have x:∀n g a w,t g=n->H g a w->
  ∃e o w',Q e o w'/\ArrivesIn (Machine.fenced P F) P (lone (b.atR a (.code c::.inLoop c::k)) cs w) b k cs e o w':=by
  intro n
  induction n using xdc with
  |_ n z=>
   intro g a w hn A;have⟨e,d,f,i,j⟩:=round g a w A b (.inLoop c::k) cs hd u v
   cases e with
   |normal=>
    have⟨m,B,C⟩:=i;have⟨q,r,s,D,hc⟩:=z (t m) (hn▸C) m d f O B;exact⟨q,r,s,D,.of_steps (StepsIn.trans j (.one (bI u v O) stepR_inLoop)) hc⟩
   |exit id=>exact⟨_,d,f,i,.pass O (λ_ _=> .inl iP) j⟩
   |goto l=>exact⟨_,d,f,i,.pass O (λ_ _=> .inl iP) j⟩
   |ret=>exact⟨_,d,f,i,.pass O (λ_ _=> .inl iP) j⟩
   |panic E=>exact⟨_,d,f,i,.pass O (λ_ _=> .inl iP) j⟩
   |outgrown=>exact⟨_,d,f,i,.pass O (λ_ _=> .inl iP) j⟩
 have⟨e,o,w',i,j⟩:=x _ h a w O p;exact⟨e,o,w',i,.of_steps (.one (bI u v O) stepR_loop) j⟩
end
def FnQ{U:Type}(Se:K->Prop)(w:wP)(b:U->wN)(a:U->N FF)(ok:U->Prop):Ending->wP->Prop:=
 λe w'=>∃u,e=.returned (b u)/\ok u/\J4 w w'/\zE Se (a u) w'
def Fn{U:Type}(P:jP)(f:Z3)(args:ul wN)(Γ:N FF)(b:U->wN)(a:U->N FF)(ok:U->Prop):Prop:=
 ∀w Se,Tl w Se->zE Se Γ w->Ul P f args w (FnQ Se w b a ok)
def zmO{U:Type}(P:jP)(fn:QR)(we:wP)(Se:K->Prop)(c:U->wN)(b:U->N FF)(ok:U->Prop):Qs
 |.ret,env,w|.normal,env,w=>∃u,(∀a:V6,yR a=env->(Jp fn a.tmps).run P w=.ok (c u) w)/\ok u/\J4 we w/\zE Se (b u) w
 |_,_,_=>V3
def Dr(args:ul wN)(n:K):yR ⟨args++xeE n uL,[]⟩=λt=>args.getD t uL:=by
 funext t;simp only[yR,xbG,Array.getElem?_append];split
 ·rfl
 ·grind
def nk:∀(l:N wN) (k:K) (env:y4),(∀j,env (k+j)=l.getD j uL)->KC env ((l.zipIdx k).map λx=>(x.2,x.1))
 |[],_,_,_=>rfl
 |v::l,k,env,h=>DB (by simpa using h 0)<|nk l (k+1) env (λj=>by have:=h<|j+1;simpa[xcM,xdO 1 j]using this)
def PZ{U:Type}{P:jP}{f:Z3}{args:N wN}{Γ:N FF}{b:U->wN}{a:U->N FF}{ok:U->Prop}{fn:QR}{c:Wn}
 (m:P.funcs[f]? =Z fn) (o:fn.body=Z c) (hn:xfQ (X args) fn.ntmps=I)
 (h:∀we Se rest,T P (Nd.of fn.ntmps) we Se [] Γ c (zmO P fn we Se b a ok)<|L ((args.zipIdx 0).map λx=>(x.2,x.1)) rest):Fn P f args.toArray Γ b a ok:=by
 intro w Se p d;have hn:=xca hn;refine calls_of_wp m o<|(wpIn_wide (n:=0)).1 ?_;have hc:KC (yR ⟨args.toArray++xeE (fn.ntmps-args.toArray.size) uL,[]⟩) ((args.zipIdx 0).map λx=>(x.2,x.1)):=by
  refine nk args 0 _ λj=> ?_;rw[Dr];simp_all
 refine V2 (h w Se _ w (St.nil d p) _ (by simp;lia) O (a8 hc).symm) ?_;intro e l w' ⟨q1,q2,g⟩;cases e<;>simp only[zmO]at g
 ·have⟨u,r1,r2,i,k⟩:=g;exact⟨q2,_,r1 l O,u,O,r2,i,k⟩
 ·have⟨u,r1,r2,i,k⟩:=g;exact⟨q2,_,r1 l O,u,O,r2,i,k⟩
section
variable{P:jP}{we:wP}{Se:wr->Prop}{ms:xS MF}{Γ:xS FF}{env:y4}{U:Type}{val:U->wN}{facts:U->xS FF}{ok:U->Prop}{fn:QR}
def St.out{Δ:N FF}{w:wP}(h:St we Se ms Γ w)(n:∀(S:K->Prop) (w:wP),zE S Γ w->zE S Δ w):J4 we w/\zE Se Δ w:=by
 have⟨h1,c,d,S,a,e,f,g,b⟩:=h;exact⟨h1,zE.sub (λk _=>a k)<|n S w b⟩
def zkA{t:Z4}(u:U)(b:fn.results= #[.tmp t])(hv:env t=val u)(c:ok u)(n:∀(S:K->Prop) (w:wP),zE S Γ w->zE S (facts u) w):
 ∀w,St we Se ms Γ w->zmO P fn we Se val facts ok .ret env w:=by
 intro w d;refine⟨u,λa e=> ?_,c,d.out n⟩;rw[<-hv,<-e];simp[Jp,b,yR]
def CB(tmps:ul wN):WW->Sem wN
 |.tmp t=>pure<|tmps.getD t uL
 |.cell a t=>do fN t (<-asAddr (tmps.getD a uL))
end
end
section
structure zV(α:Type)where
 n:K
 agg:v6
 n1:agg=wL->n=1
 p:(K->Prop)->α->N wN->wP->Prop
 len:∀{S x cs w},p S x cs w->cs.length=n
 one:∀{S x cs w},p S x cs w->∀c∈cs,c.oneCell'=I
 keep:∀{S x cs w w'},p S x cs w->yv S w w'->p S x cs w'
 sub:∀{S S':K->Prop}{x cs w},p S x cs w->(∀k,k<w.heap.size->S k->S' k)->p S' x cs w
def zV.val{α:Type}(e:zV α)(cs:N wN):wN:=if e.agg then .agg cs.toArray else cs.headD uL
def zV.val_cells{α:Type}(e:zV α){S:K->Prop}{x:α}{cs:N wN}{w:wP}(h:e.p S x cs w):(e.val cs).cells.toList=cs:=by
 unfold zV.val;cases a:e.agg
 ·have hl:=e.len h;rw[e.n1 a]at hl;obtain⟨c,rfl⟩:=xcR.1 hl;have:=e.one h c iP;cases c<;>simp_all [xfL,Value.oneCell']
 ·rfl
def fV{α:Type}(e:zV α)(x:α)(v:wN):FF where
 p S w:=∃cs,v=e.val cs/\e.p S x cs w
 keep:=λ⟨cs,h1,a⟩ k=>⟨cs,h1,e.keep a k⟩
 sub:=λ⟨cs,h1,a⟩ k=>⟨cs,h1,e.sub a k⟩
def eI:zV J where
 n:=1
 agg:=wL
 n1 _:=O
 p _ x cs _:=cs=[.int .i64 x]/\ -9223372036854775808<=x/\x<=9223372036854775807
 len h:=by simp[h.1]
 one h:=by intro c hc;rw[h.1]at hc;simp at hc;subst hc;rfl
 keep h _:=h
 sub h _:=h
def eU:zV K where
 n:=1
 agg:=wL
 n1 _:=O
 p _ x cs _:=cs=[.int .u64 (x:J)]/\x<18446744073709551616
 len h:=by simp[h.1]
 one h:=by intro c hc;rw[h.1]at hc;simp at hc;subst hc;rfl
 keep h _:=h
 sub h _:=h
def R9:zV v6 where
 n:=1
 agg:=wL
 n1 _:=O
 p _ x cs _:=cs=[.bool x]
 len h:=by simp[h]
 one h:=by intro c hc;rw[h]at hc;simp at hc;subst hc;rfl
 keep h _:=h
 sub h _:=h
def uY{α:Type}{e:zV α}{S:K->Prop}{x:α}{v:wN}{w:wP}(h:(fV e x v).p S w):e.p S x v.cells.toList w:=by
 obtain⟨cs,rfl,h⟩:=h;rw[e.val_cells h];exact h
def zqt{α:Type}{e:zV α}{S:K->Prop}{x:α}{cs:N wN}{w:wP}(h:e.p S x cs w):(fV e x<|e.val cs).p S w:=⟨cs,O,h⟩
def zm0{x:J}{v:wN}{S:K->Prop}{w:wP}(h:(fV eI x v).p S w):v=.int .i64 x/\ -9223372036854775808<=x/\x<=9223372036854775807:=by
 obtain⟨cs,rfl,rfl,h⟩:=h;exact⟨O,h⟩
def zeD{x:K}{v:wN}{S:K->Prop}{w:wP}(h:(fV eU x v).p S w):v=.int .u64 (x:J)/\x<18446744073709551616:=by
 obtain⟨cs,rfl,rfl,h⟩:=h;exact⟨O,h⟩
def rN{x:v6}{v:wN}{S:K->Prop}{w:wP}(h:(fV R9 x v).p S w):v=.bool x:=by
 obtain⟨cs,rfl,rfl⟩:=h;rfl
def wB{x:J}{S:K->Prop}{w:wP}(h: -9223372036854775808<=x/\x<=9223372036854775807):(fV eI x (.int .i64 x)).p S w:=⟨_,O,O,h⟩
def jB{x:K}{S:K->Prop}{w:wP}(h:x<18446744073709551616):(fV eU x (.int .u64 (x:J))).p S w:=⟨_,O,O,h⟩
def BR{x:v6}{S:K->Prop}{w:wP}:(fV R9 x (.bool x)).p S w:=⟨_,O,O⟩
def yP{α:Type}(e:zV α)(S:K->Prop):N α->N wN->wP->Prop
 |[],cs,_=>cs=[]
 |x::xs,cs,w=>∃c r,cs=c++r/\e.p S x c w/\yP e S xs r w
section
variable{α:Type}{e:zV α}{S S':wr->Prop}{w w':wP}
def yP.len:∀{xs:N α}{cs:N wN},yP e S xs cs w->X cs=X xs*e.n
 |[],_,h=>by simp[show _=[]from h]
 |x::xs,_,⟨c,r,h,hc,a⟩=>by rw[h,xaq,e.len hc,yP.len a,xaw,xaX,xdO];simp
def yP.one:∀{xs:N α}{cs:N wN},yP e S xs cs w->∀c∈cs,c.oneCell'=I
 |[],_,h=>by simp[show _=[]from h]
 |x::xs,_,⟨c,r,h,hc,a⟩=>by
  intro d hd;rw[h]at hd;obtain hd|hd:=So.1 hd
  ·exact e.one hc d hd
  ·exact yP.one a d hd
def yP.keep(k:yv S w w'):∀{xs:N α}{cs:N wN},yP e S xs cs w->yP e S xs cs w'
 |[],_,h=>h
 |_::_,_,⟨c,r,h,hc,a⟩=>⟨c,r,h,e.keep hc k,yP.keep k a⟩
def yP.sub(k:∀k,k<w.heap.size->S k->S' k):∀{xs:N α}{cs:N wN},yP e S xs cs w->yP e S' xs cs w
 |[],_,h=>h
 |_::_,_,⟨c,r,h,hc,a⟩=>⟨c,r,h,e.sub hc k,yP.sub k a⟩
def yP.append:∀{xs ys:N α}{cs ds:N wN},yP e S xs cs w->yP e S ys ds w->yP e S (xs++ys) (cs++ds) w
 |[],_,_,_,h,k=>by rw[show _=[]from h];exact k
 |_::_,_,_,_,⟨c,r,h,hc,a⟩,k=>⟨c,r++_,by rw[h,xao],hc,yP.append a k⟩
def yP.drop:∀{xs:N α}{cs:N wN} (k:K),yP e S xs cs w->yP e S (xs.drop k) (cs.drop<|k*e.n) w
 |[],cs,k,h=>by simp[show cs=[]from h];exact O
 |x::xs,cs,0,h=>by simpa using h
 |x::xs,_,k+1,⟨c,r,h,hc,a⟩=>by
  have:=yP.drop k a;rw[List.drop_succ_cons,h,xaX,xbN,xdO,<-List.drop_drop];rwa[xfM<|e.len hc]
def yP.take:∀{xs:N α}{cs:N wN} (k:K),yP e S xs cs w->yP e S (xs.take k) (cs.take<|k*e.n) w
 |[],cs,k,h=>by simp[show cs=[]from h];exact O
 |x::xs,cs,0,h=>by simp;exact O
 |x::xs,_,k+1,⟨c,r,h,hc,a⟩=>by
  refine⟨c,r.take<|k*e.n,?_,hc,yP.take k a⟩;rw[h,xaX,List.take_append,e.len hc,xaW<|by rw[e.len hc];lia];simp_all
def yP.get{xs:N α}{cs:N wN}{i:K}{x:α}(h:yP e S xs cs w)(b:xs[i]? =Z x):
 ∃c,e.p S x c w/\∀j,j<e.n->cs[i*e.n+j]? =c[j]? :=by
 have hd:=h.drop i;obtain⟨hi,rfl⟩:=xax.1 b;rw[xcb hi]at hd;have⟨c,r,h1,a,f⟩:=hd;refine⟨c,a,λj d=> ?_⟩;rw[<-xfa,h1,xbj<|by rw[e.len a];exact d]
def yP.replicate{x:α}{c:N wN}(h:e.p S x c w):∀n,yP e S (Nm n x) (Nm n c).flatten w
 |0=>rfl
 |n+1=>⟨c,_,by simp[xdQ],h,yP.replicate h n⟩
end
def At(w:wP)(b o:K)(cs:N wN):Prop:=b<w.heap.size/\∀j v,cs[j]? =Z v->w.cell? ⟨b,o+j,wF⟩=Z v
def At.keep{S:K->Prop}{w w':wP}{b o:K}{cs:N wN}(h:At w b o cs)(a:S b)(k:yv S w w'):At w' b o cs:=
 ⟨xaj h.1 k.size,λj v hv=>by rw[World.cell?_of_block<|k.block b h.1 a];exact h.2 j v hv⟩
def At.drop{w:wP}{b o:K}{cs:N wN}(h:At w b o cs)(k:K):At w b (o+k) (cs.drop k):=
 ⟨h.1,λj v hv=>by rw[xfa]at hv;have:=h.2 _ v hv;rwa[xcM]⟩
def At.take{w:wP}{b o:K}{cs:N wN}(h:At w b o cs)(k:K):At w b o (cs.take k):=
 ⟨h.1,λj v hv=>h.2 j v<|by rw[xce]at hv;split at hv<;>simp_all⟩
def At.row{w:wP}{b:K}{cs:ul wN}{t:wT}{fr:K×K}(h:w.heap[b]? =Z (.cells cs t fr)):At w b 0 cs.toList:=
 ⟨(xbh.1 h).1,λj v hv=>by rw[cell_of_row w b (0+j) cs t fr h];simpa using hv⟩
def SlP{α:Type}(e:zV α)(S:K->Prop)(xs:N α)(v:wN)(w:wP):Prop:=
 ∃a cap,v=.slice a (X xs) cap/\X xs<=cap/\cap<=Ww/\(xs=[]\/∃b o cs,a=Z ⟨b,o,wF⟩/\S b/\At w b o cs/\yP e S xs cs w)
def eS{α:Type}(e:zV α):zV (N α)where
 n:=1
 agg:=wL
 n1 _:=O
 p S xs cs w:=∃v,cs=[v]/\SlP e S xs v w
 len:=λ⟨v,h,_⟩=>by simp[h]
 one:=λ⟨v,h,⟨a,cap,hv,_⟩⟩=>by intro c hc;rw[h]at hc;simp at hc;subst hc;rw[hv];rfl
 keep:=λ⟨v,h,⟨a,cap,h1,f,g,i⟩⟩ k=>⟨v,h,a,cap,h1,f,g,i.imp id λ⟨b,o,cs,j,d,a3,a4⟩=>⟨b,o,cs,j,d,a3.keep d k,a4.keep k⟩⟩
 sub:=λ⟨v,h,⟨a,cap,h1,f,g,i⟩⟩ k=>⟨v,h,a,cap,h1,f,g,i.imp id λ⟨b,o,cs,j,d,a3,a4⟩=>⟨b,o,cs,j,k b a3.1 d,a3,a4.sub k⟩⟩
def xC{α:Type}{e:zV α}{xs:N α}{v:wN}{S:K->Prop}{w:wP}:(fV (eS e) xs v).p S w↔SlP e S xs v w:=
 ⟨λ⟨_,h1,c,a,b⟩=>by subst a;rw[h1];exact b,λh=>⟨[v],O,v,O,h⟩⟩
def eP{α β:Type}(e:zV α)(f:zV β):zV (α×β)where
 n:=e.n+f.n
 agg:=I
 n1 h:=by cases h
 p S x cs w:=∃c d,cs=c++d/\e.p S x.1 c w/\f.p S x.2 d w
 len:=λ⟨c,d,h,hc,hd⟩=>by rw[h,xaq,e.len hc,f.len hd]
 one:=λ⟨c,d,h,hc,hd⟩ x hx=>by
  rw[h]at hx;obtain hx|hx:=So.1 hx
  ·exact e.one hc x hx
  ·exact f.one hd x hx
 keep:=λ⟨c,d,h,hc,hd⟩ k=>⟨c,d,h,e.keep hc k,f.keep hd k⟩
 sub:=λ⟨c,d,h,hc,hd⟩ k=>⟨c,d,h,e.sub hc k,f.sub hd k⟩
def eA{α:Type}(k:K)(e:zV α):zV (N α)where
 n:=k*e.n
 agg:=I
 n1 h:=by cases h
 p S xs cs w:=X xs=k/\yP e S xs cs w
 len:=λ⟨h,a⟩=>by rw[a.len,h]
 one:=λ⟨_,a⟩=>a.one
 keep:=λ⟨h,a⟩ k=>⟨h,a.keep k⟩
 sub:=λ⟨h,a⟩ k=>⟨h,a.sub k⟩
abbrev Zr:=v6×N K
def fP{α:Type}(e:zV α)(x:α)(v:wN):FF where
 p S w:=∃b o cs,v=.pointer (Z ⟨b,o,wF⟩)/\S b/\At w b o cs/\e.p S x cs w
 keep:=λ⟨b,o,cs,h1,a,c,d⟩ k=>⟨b,o,cs,h1,a,c.keep a k,e.keep d k⟩
 sub:=λ⟨b,o,cs,h1,a,c,d⟩ k=>⟨b,o,cs,h1,k b c.1 a,c,e.sub d k⟩
structure o6(α:Type)where
 p:(K->Prop)->α->N wN->wP->Prop
 keep:∀{S x cs w w'},p S x cs w->yv S w w'->p S x cs w'
 sub:∀{S S':K->Prop}{x cs w},p S x cs w->(∀k,k<w.heap.size->S k->S' k)->p S' x cs w
def zV.c{α:Type}(e:zV α):o6 α:=⟨e.p,e.keep,e.sub⟩
def zpm{α:Type}(e:zV α):o6 (N α):=⟨yP e,λh k=>h.keep k,λh k=>h.sub k⟩
def mB{α:Type}(e:o6 α)(E:wT)(b:K)(x:α):MF where
 blk k:=Z b=Z k
 p S w:=∃cs:ul wN,w.heap[b]? =Z (.cells cs E (0,0))/\e.p S x cs.toList w
 keep:=λ⟨cs,h1,a⟩ k c=>⟨cs,by rw[c b O];exact h1,e.keep a k⟩
 sub:=λ⟨cs,h1,a⟩ k=>⟨cs,h1,e.sub a k⟩
 lt:=λ⟨cs,h1,_⟩ k d=>by cases d;exact(xbh.1 h1).1
abbrev mR{α:Type}(e:zV α)(E:wT)(b:K)(xs:N α):MF:=mB (zpm e) E b xs
def mO{α:Type}(e:zV α)(E:wT)(v:wN)(xs:N α):MF where
 blk k:=v.ownBlock=Z k
 p S w:=∃cs,w.ownsRow 0 E e.n v (X xs) cs/\yP e S xs cs w
 keep:=λ⟨cs,h1,a⟩ k d=>by
  refine⟨cs,⟨h1.1,?_⟩,a.keep k⟩;obtain h|⟨g,cap,b,hv,c,f,r⟩:=h1.2
  ·exact .inl h
  ·exact .inr ⟨g,cap,b,hv,c,by rw[d g<|by rw[hv];rfl];exact f,r⟩
 sub:=λ⟨cs,h1,a⟩ k=>⟨cs,h1,a.sub k⟩
 lt:=λ⟨cs,h1,_⟩ k i=>(h1.lt k i).2
section
variable{α:Type}{e:zV α}{E:wT}{S S':wr->Prop}{w:wP}
def SlP.of_at{xs:N α}{b o n cap:K}{cs:N wN}(a:S b)(c:At w b o cs)(d:yP e S xs cs w)(hn:n=X xs)(hc:X xs<=cap)(f:cap<=Ww):
 SlP e S xs (.slice (Z ⟨b,o,wF⟩) n cap) w:=⟨_,cap,by rw[hn],hc,f,.inr ⟨b,o,cs,O,a,c,d⟩⟩
def SlP.nil:SlP e S [] (.slice wF 0 0) w:=⟨wF,0,O,IR _,xac _,.inl O⟩
def zm8{x:α}{b:K}(a:∀k,S k->S' k)(d:S' b)(h:(mB e.c E b x).p S w):(fP e x (.pointer<|some ⟨b,0,wF⟩)).p S' w:=by
 have⟨cs,h1,f⟩:=h;exact⟨b,0,cs.toList,O,d,At.row h1,e.sub f λk _=>a k⟩
def rI{xs:N α}{v:wN}(a:∀k,S k->S' k)(b:∀k,v.ownBlock=Z k->S' k)(h:(mO e E v xs).p S w):(fV (eS e) xs v).p S' w:=by
 have⟨cs,h1,c⟩:=h;refine xC.2 ?_;rcases h1.2 with⟨rfl,h0⟩|⟨g,cap,d,rfl,hd,f,i,j,l,hc⟩
 ·have:xs=[]:=xbe h0;subst this;exact SlP.nil
 ·refine SlP.of_at (b g O) ((At.row f).take<|X xs*e.n) ?_ O i j;rw[hc];exact c.sub λk _=>a k
end
end
section
def ur(P:jP)(o:ut)(env:y4)(w:wP)(K:wN->wP->Prop):Prop:=
 match(jp (ev env) o).run P w with
 |.ok (.value v) w'=>K v w'
 |.ok .skip w'=>K uL w'
 |.ok (.enter f args) w'=>Ul P f args w' (λe b=>∃v,e=.returned v/\K v b)
 |.ok (.round l f ts a c) w'=>RoundIn xfK 0 P l f ts a c w' (λe b=>∃v,e=.returned v/\K v b)
 |_=>V3
def zmx{ro:V K}{a:wW->wN}{o:ut}{P:jP}{w:wP}(h:∀d w',(jp a o).run P w≠ .ok (.defer d) w')(e:∀r w',(jp a o).run P w≠ .halt r w'):(o.semAt ro a).run P w=(jp a o).run P w:=by
 by_cases hd:∃c,o.op=.defer c
 ·have⟨c,hc⟩:=hd;exfalso
  cases b:(jp a o).run P w with
  |halt r w'=>exact e r w' b
  |ok x w'=>
   unfold jp at b;rw[hc]at b;simp only[xay]at b
   cases f:(Wl a c o.type).run P w with
   |halt r w1=>rw[f]at b;simp at b
   |ok d w1=>
    refine h d w' ?_;unfold jp;simp_all
 ·rw[Oper.semAt_eq _ _ _ λc hc=>hd ⟨c,hc⟩]
def ur.wp{P:jP}{o:ut}{a:V6}{w:wP}{K:wN->wP->Prop}{j:V6->wP->Prop}{Q:bV->V6->wP->Prop}{N:Nd}
 (h:ur P o (yR a) w K) (b:∀v w',K v w'->j (a.put o.dst v) w'):o.wpIn N.F 0 P a w j Q:=by
 unfold ur at h;refine⟨λ_ _=>wR,?_⟩;have k:=zmx (ro:=N.rd) (λd w' e=>by rw[e]at h;exact h) (λr w' e=>by rw[e]at h;exact h);rw[a7];rw[k];generalize(jp (ev<|yR a) o).run P w=r at*
 cases r with
 |ok n w'=>
  cases n<;>simp only at h<;>simp only[Oper.uponIn]
  case value v=>exact b _ _ h
  case skip=>exact b _ _ h
  case enter f args=>exact⟨λe=>by simp[xfK]at e,CallsIn.mono (callsIn_wide.2 h) λe g ⟨v,i,hv⟩=>by subst i;exact b _ _ hv⟩
  case round l f ts s c=>exact⟨λe=>by simp[xfK]at e,RoundIn.mono h λe g ⟨v,i,hv⟩=>by subst i;exact b _ _ hv⟩
 |halt x w'=>exact h.elim
def ur.mono{P:jP}{o:ut}{env:y4}{w:wP}{K g:wN->wP->Prop}(h:ur P o env w K)(a:∀v w',K v w'->g v w'):ur P o env w g:=by
 unfold ur at*
 generalize(jp (ev env) o).run P w=r at*
 cases r with
 |ok n w'=>
  cases n<;>simp only at h⊢
  case value v=>exact a _ _ h
  case skip=>exact a _ _ h
  case enter f args=>exact h.mono λe b ⟨v,d,hv⟩=>⟨v,d,a _ _ hv⟩
  case round l f ts s c=>exact h.mono λe b ⟨v,d,hv⟩=>⟨v,d,a _ _ hv⟩
 |halt x w'=>exact h.elim
def ur.of_value{P:jP}{o:ut}{env:y4}{w w':wP}{v:wN}{K:wN->wP->Prop}(h:(jp (ev env) o).run P w=.ok (.value v) w')(a:K v w'):ur P o env w K:=by
 unfold ur;rw[h];exact a
def ur.of_skip{P:jP}{o:ut}{env:y4}{w w':wP}{K:wN->wP->Prop}(h:(jp (ev env) o).run P w=.ok .skip w')(a:K uL w'):ur P o env w K:=by
 unfold ur;rw[h];exact a
def gd(a:ul ut)(env:y4)(j:K):V v6:=
 match(a[j]?).bind (·.dst)with
 |some d=>match env d with
  |.bool b=>Z b
  |_=>wF
 |none=>wF
def yV(b:ul ut)(env:y4)(o:ut):v6:=
 match o.guard with
 |none=>I
 |some (j,a)=>gd b env j==Z a
theorem TZ(b:ul ut)(a:V6)(j:K):yielded b a.tmps j=gd b (yR a) j:=by
 unfold yielded gd yR
 cases(b[j]?).bind (·.dst)with
 |none=>rfl
 |some d=>
  simp only[Option.bind_some,xbG]
  cases a.tmps[d]? with
  |none=>rfl
  |some v=>cases v<;>rfl
def Wy(b:ul ut)(a:V6)(o:ut):Region.wanted o (yielded b a.tmps)=yV b (yR a) o:=by grind [Region.wanted,yV,TZ]
def jL(N:K):V Z4->v6
 |some d=>xcX d N
 |none=>I
def aa{N:K}{d:V Z4}(h:jL N d=I):∀t,d=Z t->t<N:=by
 rintro t rfl;simpa[jL]using h
def WpL(P:jP)(N:Nd)(b:ul ut)(l:xS ut)(Q:Qs)(env:y4)(w:wP):Prop:=
 ∀a:V6,a.tmps.size=N.n->a.defers=N.ds->yR a=env->WF N.F 0 P b (zdD N Q) l a w
def TL(P:jP)(N:Nd)(we:wP)(Se:K->Prop)(ms:xS MF)(Γ:xS FF)(a:ul ut)(l:xS ut)(Q:Qs)(env:y4):Prop:=
 ∀w,St we Se ms Γ w->WpL P N a l Q env w
def MJ{U:Type}(P:jP)(o:ut)(env:y4)(ms:N MF)(Γ:N FF)(b:U->wN)(a:U->N FF)(ok:U->Prop):Prop:=
 ∀w (S:K->Prop),Tl w S->yT S ms w->zE S Γ w->ur P o env w (λv w'=>∃u,v=b u/\ok u/\J4 w w'/\zE S (a u) w')
section
variable{P:jP}{N:Nd}{we:wP}{Se:wr->Prop}{ms:xS MF}{Γ:xS FF}{Q:Qs}{env:y4}{ops:ul ut}{o:ut}{rest:xS ut}
def vU{id:K}{l:xS ut}(h:TL P N we Se ms Γ l.toArray l Q env):T P N we Se ms Γ (.region id l.toArray wL) Q env:=
 λw b a h1 c d=>wpIn_region_lit<|h w b a h1 c d
def kP(h:∀w,St we Se ms Γ w->Q .normal env w):TL P N we Se ms Γ ops [] Q env:=
 λw a _ h1 b c=>wpListIn_nil ⟨h1,b,c▸h w a⟩
def zgv(live:xS (K×wN)){l:xS ut}(h:KC env live)(k:∀rest,TL P N we Se ms Γ ops l Q<|L live rest):TL P N we Se ms Γ ops l Q env:=by
 have:=k env;rwa[a8 h]at this
def zqE{p:Prop}{l:xS ut}(hp:∀(S:K->Prop) (w:wP),zE S Γ w->p)(k:p->TL P N we Se ms Γ ops l Q env):TL P N we Se ms Γ ops l Q env:=
 λw a=>let⟨S,_,h⟩:=a.ex;k (hp S w h) w a
def zhw{p:Prop}{c:Wn}(hp:∀(S:K->Prop) (w:wP),zE S Γ w->p)(k:p->T P N we Se ms Γ c Q env):T P N we Se ms Γ c Q env:=
 λw a=>let⟨S,_,h⟩:=a.ex;k (hp S w h) w a
def zhO(b:yV ops env o=I)(hd:jL N.n o.dst=I)
 (h:∀w,St we Se ms Γ w->ur P o env w (λv w'=>WpL P N ops rest Q (put env o.dst v) w')):TL P N we Se ms Γ ops (o::rest) Q env:=by
 intro w c a h1 d e;subst e;unfold WF;rw[iq<|by rw[Wy];exact b];refine(h w c).wp λv w' f=> ?_;exact f _ (by rw[UU];exact h1) (by rw[X7];exact d)<|Wz<|by rw[h1];exact aa hd
def zlZ(b:yV ops env o=wL)(hd:jL N.n o.dst=I)(k:TL P N we Se ms Γ ops rest Q (put env o.dst uL)):TL P N we Se ms Γ ops (o::rest) Q env:=by
 intro w c a h1 d e;subst e;unfold WF;rw[ir<|by rw[Wy,b];exact Bool.false_ne_true];exact⟨λ_ _=>wR,k w c _ (by rw[UU];exact h1) (by rw[X7];exact d)<|Wz<|by rw[h1];exact aa hd⟩
def ziT{U:Type}{b:U->wN}{a:U->xS FF}{ok:U->Prop}(g:yV ops env o=I)(hd:jL N.n o.dst=I)
 (h:MJ P o env ms Γ b a ok) (k:∀u,ok u->TL P N we Se ms (a u++Γ) ops rest Q (put env o.dst<|b u)):TL P N we Se ms Γ ops (o::rest) Q env:=by
 refine zhO g hd λw j=> ?_;have⟨h1,d,l,S,p,e,q,c,f⟩:=j;refine(h w S (d.at h1 e) c f).mono ?_;rintro v w' ⟨u,rfl,r,x,s⟩
 exact k u r w' ⟨h1.trans x,d,l,S,p,λk t=>e k<|xae x.size t,q,
  yT.keep x.to (λm y i hi=>x.block i (yT.lt c m y i hi) wR) c,zE.append s<|zE.keep x.to f⟩
def ZW{v:wN}(a:yV ops env o=I)(hd:jL N.n o.dst=I)(h:∀w,(jp (ev env) o).run P w=.ok (.value v) w)
 (k:TL P N we Se ms Γ ops rest Q (put env o.dst v)):TL P N we Se ms Γ ops (o::rest) Q env:=
 zhO a hd λw b=>ur.of_value (h w)<|k w b
end
def OG{ι:Type}(P:jP)(o:ut)(env:y4)(we:wP)(Se:K->Prop)(ms:N MF)(Γ:N FF)(a:ι->wN)(b:ι->N MF)(c:ι->N FF)(ok:ι->Prop):Prop:=
 ∀w,St we Se ms Γ w->ur P o env w (λv w'=>∃i,v=a i/\ok i/\St we Se (b i) (c i) w')
section
variable{P:jP}{N:Nd}{we:wP}{Se:wr->Prop}{ms:xS MF}{Γ:xS FF}{Q:Qs}{env:y4}{ops:ul ut}{o:ut}{rest:xS ut}
def zlo{ι:Type}{a:ι->wN}{b:ι->xS MF}{c:ι->xS FF}{ok:ι->Prop}(d:yV ops env o=I)(hd:jL N.n o.dst=I)(h:OG P o env we Se ms Γ a b c ok)
 (k:∀i,ok i->TL P N we Se (b i) (c i) ops rest Q (put env o.dst<|a i)):TL P N we Se ms Γ ops (o::rest) Q env:=
 zhO d hd λw f=>(h w f).mono λv w' ⟨i,e,hi,g⟩=>e▸k i hi w' g
def O0{U:Type}{b:U->wN}{a:U->xS FF}{ok:U->Prop}(h:MJ P o env ms Γ b a ok):OG P o env we Se ms Γ b (λ_=>ms) (λu=>a u++Γ) ok:=by
 intro w ⟨h1,d,j,S,l,f,n,c,g⟩;refine(h w S (d.at h1 f) c g).mono ?_;rintro v w' ⟨u,e,p,x,q⟩
 exact⟨u,e,p,h1.trans x,d,j,S,l,λk r=>f k<|xae x.size r,n,
  yT.keep x.to (λm s i hi=>x.block i (yT.lt c m s i hi) wR) c,zE.append q<|zE.keep x.to g⟩
end
def pv(o:ut)(env:y4):V wN:=
 match o.op with
 |.move x|.assign x=>Z<|ev env x
 |.extract t i=>match ev env t with
  |.tuple vs=>vs[i]?
  |_=>wF
 |.pick c a b=>match ev env c with
  |.bool t=>Z<|bif t then ev env a else ev env b
  |_=>wF
 |.unOp .not _ x=>match ev env x with
  |.bool t=>Z (.bool !t)
  |_=>wF
 |.makeFunc f first d=>Z (.func f (first.map<|ev env)<|d.map<|ev env)
 |_=>wF
def du{P:jP}{o:ut}{env:y4}{v:wN}(h:pv o env=Z v)(w:wP):(jp (ev env) o).run P w=.ok (.value v) w:=by
 unfold pv at h;unfold jp;split at h
 ·simp_all
 ·simp_all
 ·next t i e=>
  simp only[e];split at h
  ·next vs hv=>simp[hv,Instr.extract,h]
  ·cases h
 ·next c a b e=>
  simp only[e];split at h
  ·next t d=>cases h;cases t<;>simp[d,asBool]
  ·cases h
 ·next ty x e=>
  simp only[e];split at h
  ·next t d=>cases h;simp[d,Op.unary]
  ·cases h
 ·next f a b e=>cases h;simp[e,Instr.makeFunc]
 ·cases h
def AD(N:K)(a:ul ut):xS ut->y4->V y4
 |[],env=>Z env
 |o::r,env=>bif jL N o.dst then(bif yV a env o then(match pv o env with
  |some v=>AD N a r<|put env o.dst v
  |none=>wF)else(match o.guard with
  |some (j,b)=>bif gd a env j==Z (!b)then AD N a r (put env o.dst uL)else wF
  |none=>wF))else wF
section
variable{P:jP}{N:Nd}{we:wP}{Se:wr->Prop}{ms:xS MF}{Γ:xS FF}{Q:Qs}{ops:ul ut}
def bE:∀(l:xS ut) (b:xS ut) (env a:y4),AD N.n ops l env=Z a->TL P N we Se ms Γ ops b Q a->TL P N we Se ms Γ ops (l++b) Q env
 |[],_,env,a,h,k=>by cases h;exact k
 |o::r,b,env,a,h,k=>by
  unfold AD at h;cases hd:jL N.n o.dst
  ·simp_all
  ·rw[hd]at h;cases d:yV ops env o
   ·rw[d]at h;simp only[XS]at h;split at h
    ·next j c f=>
     cases e:(gd ops env j==Z (!c))
     ·simp_all
     ·rw[e]at h;exact zlZ d hd<|bE r b _ _ h k
    ·cases h
   ·rw[d]at h
    cases hp:pv o env with
    |none=>rw[hp]at h;cases h
    |some v=>rw[hp]at h;exact ZW d hd (λw=>du hp w)<|bE r b _ _ h k
def chk(env:V y4)(live:xS (K×wN)):Prop:=match env with
 |some env=>KC env live
 |none=>V3
def Hf(n:K)(live:xS (K×wN)){l:xS ut}{env:y4}(h:chk (AD N.n ops (l.take n) env) live)(k:∀rest,TL P N we Se ms Γ ops (l.drop n) Q<|L live rest):TL P N we Se ms Γ ops l Q env:=by
 rw[<-xbA n l]
 cases hp:AD N.n ops (l.take n) env with
 |none=>rw[hp]at h;exact h.elim
 |some a=>
  rw[hp]at h;refine bE _ _ _ _ hp ?_;exact zgv live h k
end
structure Ja(P:jP)(t:wT)(agg:v6)(size bytes:K)(zero:wN):Prop where
 und:∃d,P.underlying t=Z d/\(match d with|.struct _|.array _ _=>I|_=>wL)=agg
 info:∃i,P.info? t=Z i/\i.size=size/\i.bytes=bytes/\i.zero=Z zero
def tyB(P:jP)(t:wT):V (v6×K×K×V wN):=
 match P.underlying t,P.info? t with
 |some d,Z i=>Z ((match d with|.struct _|.array _ _=>I|_=>wL),i.size,i.bytes,i.zero)
 |_,_=>wF
def Ja.of{P:jP}{t:wT}{agg:v6}{size bytes:K}{a:wN}(h:tyB P t=Z (agg,size,bytes,Z a)):Ja P t agg size bytes a:=by
 unfold tyB at h;split at h
 ·next d i hd hi=>
  simp only[xat,xdd]at h;exact⟨⟨d,hd,h.1⟩,i,hi,h.2.1,h.2.2.1,h.2.2.2⟩
 ·cases h
def jq(b o j:K):(⟨b,o,wF⟩:JP).add j=⟨b,o+j,wF⟩:=by unfold Addr.add;split<;>simp_all
def H7{P:jP}{t:wT}{agg:v6}{size bytes:K}{a:wN}(b:Ja P t agg size bytes a)(w:wP):(isAgg t).run P w=.ok agg w:=by
 have⟨⟨d,hd,c⟩,_⟩:=b;unfold isAgg;simp only[xay,kw hd];cases d<;>simp_all
def wo{P:jP}{t:wT}{agg:v6}{size bytes:K}{a:wN}(b:Ja P t agg size bytes a)(w:wP):(WR t).run P w=.ok size w:=by
 have⟨_,i,hi,h1,_⟩:=b;simp[WR,WP,hi,h1]
def uo{P:jP}{t:wT}{agg:v6}{size bytes:K}{a:wN}(b:Ja P t agg size bytes a)(w:wP):(bi t).run P w=.ok a w:=by
 have⟨_,i,hi,_,_,h1⟩:=b;simp[bi,WP,hi,h1]
def MA{P:jP}{α:Type}{e:zV α}{t:wT}{bytes:K}{a:wN}(f:Ja P t e.agg e.n bytes a){w w0:wP}{b o:K}{cs:N wN}{S:K->Prop}{x:α}
 (hp:e.p S x cs w0) (g:At w b o cs):(fN t ⟨b,o,wF⟩).run P w=.ok (e.val cs) w:=by
 unfold fN;rw[xay,H7 f];cases d:e.agg
 ·have hl:=e.len hp;rw[e.n1 d]at hl;obtain⟨c,rfl⟩:=xcR.1 hl;have:=g.2 0 c O;simp only[xbO]at this;simp[this,zV.val,d]
 ·have hl:=e.len hp;have hc:=US (P:=P) w ⟨b,o,wF⟩ cs (λj v hv=>by rw[jq];exact g.2 j v hv);rw[hl]at hc;simp[wo f,hc,zV.val,d]
def gw{P:jP}{α:Type}{e:zV α}{t:wT}{bytes:K}{a:wN}(c:Ja P t e.agg e.n bytes a){w:wP}{b o:K}{cs:N wN}{S:K->Prop}{x:α}
 (hp:e.p S x cs w) (d:At w b o cs):(fN t ⟨b,o,wF⟩).run P w=.ok (e.val cs) w:=MA c hp d
section
variable{P:jP}{env:y4}{ms:xS MF}{Γ:xS FF}{d:ww Z4}{ty:wT}{pos:String}{aft:ul Edge}{g:ww (wr×v6)}
def znk{α:Type}{e:zV α}{xs:N α}{v:wN}{x:wW}{a c:wT}(f:P.underlying a=Z (.slice c))(h:ev env x=v)(i:∀(S:K->Prop) (w:wP),zE S Γ w->(fV (eS e) xs v).p S w):
 MJ P ⟨d,.call ⟨.builtin .len,#[x],#[a]⟩,ty,pos,aft,g⟩ env ms Γ (λ_:Z2=> .int .i64 (X xs:J)) (λ_=>[]) (λ_=>X xs<=9223372036854775807):=by
 intro w S _ _ b;have⟨k,cap,hv,hc,j,_⟩:=xC.1<|i S w b;refine ur.of_value ?_ ⟨(),O,xae hc j,yv.refl _ _,wR⟩;simp[jp,Wl,WN,KW,h,hv,Builtin.len_,gS,kw f]
def Px{α:Type}{e:zV α}{t c:wT}{bytes:K}{a:wN}(f:P.underlying t=Z (.slice c))(h:Ja P c e.agg e.n bytes a){w:wP}{b o n cap k:K}
 (i:k<n) (ik:Z9):(Instr.indexAt t (.slice (Z ⟨b,o,wF⟩) n cap) (.int ik (k:J))).run P w=.ok (.pointer<|some ⟨b,o+k*e.n,wF⟩) w:=by
 unfold Instr.indexAt;have:(0:J)<=k/\(k:J)<n:=W
 simp only[V4,kw f,xay,xaO,xal,iq this,wo h,jq,xaN]
theorem zeN{α:Type}{e:zV α}{xs:N α}{v:wN}{x i:wW}{t h:wT}{bytes:K}{a:wN}{k:K}{y:α}{ik:Z9}(q:ev env x=v)(hi:ev env i=.int ik (k:J))
 (r:P.underlying t=Z (.slice h)) (s:Ja P h e.agg e.n bytes a) (l:xs[k]? =Z y) (u:∀(S:K->Prop) (w:wP),zE S Γ w->(fV (eS e) xs v).p S w):
 MJ P ⟨d,.indexAddr t x i,ty,pos,aft,g⟩ env ms Γ (λp:wN=>p) (λp=>[fP e y p]) (λ_=>Z5):=by
 intro w S _ _ f;have⟨E,cap,hv,h1,F,z⟩:=xC.1<|u S w f;have A:=(xax.1 l).1;obtain rfl|⟨b,o,cs,rfl,B,m,C⟩:=z
 ·grind
 ·refine ur.of_value (v:=.pointer<|some ⟨b,o+k*e.n,wF⟩) ?_ ⟨_,O,wR,yv.refl _ _,⟨⟨b,o+k*e.n,?_⟩,wR⟩⟩
  ·simp[jp,q,hi,hv,Px r s A]
  ·have⟨c,hc,D⟩:=C.get l;refine⟨c,O,B,⟨m.1,λj v hv=> ?_⟩,hc⟩;have hd:j<e.n:=by rw[<-e.len hc];exact(xax.1 hv).1
   rw[xcM];exact m.2 _ v<|by rw[D j hd];exact hv
def zi7{α:Type}{e:zV α}{y:α}{p:wN}{x:wW}{t:wT}{bytes:K}{a:wN}(h:ev env x=p)(i:Ja P t e.agg e.n bytes a)
 (j:∀(S:K->Prop) (w:wP),zE S Γ w->(fP e y p).p S w):
 MJ P ⟨d,.load t x,ty,pos,aft,g⟩ env ms Γ (λv:wN=>v) (λv=>[fV e y v]) (λ_=>Z5):=by
 intro w S _ _ c;obtain⟨b,o,cs,rfl,l,k,f⟩:=j S w c;refine ur.of_value ?_ ⟨_,O,wR,yv.refl _ _,⟨⟨cs,O,f⟩,wR⟩⟩;simp[jp,h,Instr.loadAt,xfu,gw i f k]
def O9{α:Type}{e:zV α}{xs:N α}{v:wN}{x:wW}{lo hi:V wW}{t j:wT}{bytes:K}{a:wN}{l h:K}(q:ev env x=v)
 (k:P.underlying t=Z (.slice j)) (r:Ja P j e.agg e.n bytes a) (hl:(lo.map<|ev env)=Z (.int .i64 (l:J))\/(lo=wF/\l=0)) (c:(hi.map<|ev env)=Z (.int .i64 (h:J))\/(hi=wF/\h=X xs))
 (B:l<=h) (C:h<=X xs) (s:∀(S:K->Prop) (w:wP),zE S Γ w->(fV (eS e) xs v).p S w):
 MJ P ⟨d,.slice t x lo hi wF,ty,pos,aft,g⟩ env ms Γ (λp:wN=>p) (λp=>[fV (eS e) ((xs.drop l).take<|h-l) p]) (λ_=>Z5):=by
 intro w S _ _ i;have⟨f,cap,hv,h1,D,u⟩:=xC.1<|s S w i;have b1:(0:J)<=(l:J)/\(l:J)<=(h:J):=W
 have b2:(0:J)<=(h:J)/\(h:J)<=(cap:J):=W
 have hd:(xcU t v (lo.map<|ev env) (hi.map<|ev env) wF).run P w=.ok (.slice (if cap=l then f else f.map (·.add (l*e.n))) (h-l)<|cap-l) w:=by
  unfold xcU;rw[hv];simp only[xay,kw k,xal];unfold xfN;simp only[xay,kw k,xal];unfold xem
  obtain hl|⟨hl,rfl⟩:=hl<;>obtain c|⟨c,rfl⟩:=c<;>
   simp only[hl,c,xey,V4,Option.map_none,xay,xaO,xal,iq b1,iq b2,wo r,xaN]
 refine ur.of_value (w':=w) (v:=.slice (if cap=l then f else f.map (·.add (l*e.n))) (h-l)<|cap-l) ?_ ⟨_,O,wR,yv.refl _ _,⟨?_,wR⟩⟩
 ·simp[jp,q,hd]
 ·have m:X ((xs.drop l).take<|h-l)=h-l:=by simp;lia
  refine xC.2 ⟨_,cap-l,by rw[m],by rw[m];lia,W,?_⟩;obtain rfl|⟨b,o,cs,rfl,y,z,A⟩:=u
  ·left;simp
  ·by_cases hc:cap=l
   ·left;have:h-l=0:=W
    simp[this]
   ·right;refine⟨b,o+l*e.n,(cs.drop<|l*e.n).take<|(h-l)*e.n,by simp[hc,jq],y,(z.drop _).take _,(A.drop l).take<|h-l⟩
end
end
section
section
variable{P:jP}{env:y4}{Γ:xS FF}{d:ww Z4}{ty yt t:wT}{pos:String}{aft:ul Edge}{g:ww (wr×v6)}{x y:wW}
def w64{x:J}(h: -9223372036854775808<=x/\x<=9223372036854775807):xcY.wrap x=x:=IntWalk.i64_in x h
def zq4(n:K):xch.wrap (n:J)=((n%18446744073709551616:K):J):=by
 rfl
theorem ib{n:K}(h:n<18446744073709551616):xch.wrap (n:J)=(n:J):=by rw[zq4,xam h]
def CG(x:J):xch.wrap x=x%18446744073709551616:=by
 rfl
def py{c:V0}{k:Z9}{a b:J}{v:wN}(e:ev env x=.int k a)(f:ev env y=.int k b)(hv:∀w,(WT c t (.int k a) (.int k b)).run P w=.ok v w)(w:wP):
 (jp (ev env) ⟨d,.binOp c t x y yt,ty,pos,aft,g⟩).run P w=.ok (.value v) w:=by
 have:(WD c t x y (.int k a) (.int k b)).run P w=.ok () w:=by
  unfold WD;simp_all
 simp only[jp,e,f,xay,this,xal,hv,xaO]
def Ev{k:Z9}{a b c:J}(e:ev env x=.int k a)(f:ev env y=.int k b)(hc:k.wrap (a+b)=c)(w:wP):
 (jp (ev env) ⟨d,.binOp .add t x y yt,ty,pos,aft,g⟩).run P w=.ok (.value (.int k c)) w:=
 py e f (λw=>by simp[WT,Op.intArith,hc]) w
def zfg{k:Z9}{a b c:J}(e:ev env x=.int k a)(f:ev env y=.int k b)(hc:k.wrap (a-b)=c)(w:wP):
 (jp (ev env) ⟨d,.binOp .sub t x y yt,ty,pos,aft,g⟩).run P w=.ok (.value (.int k c)) w:=
 py e f (λw=>by simp[WT,Op.intArith,hc]) w
def zla{k:Z9}{a b c:J}(e:ev env x=.int k a)(f:ev env y=.int k b)(hc:k.wrap (a*b)=c)(w:wP):
 (jp (ev env) ⟨d,.binOp .mul t x y yt,ty,pos,aft,g⟩).run P w=.ok (.value (.int k c)) w:=
 py e f (λw=>by simp[WT,Op.intArith,hc]) w
def zlM{k:Z9}{a b c:J}(e:ev env x=.int k a)(f:ev env y=.int k b)(h0:b≠0)(hc:k.wrap (a.tdiv b)=c)(w:wP):
 (jp (ev env) ⟨d,.binOp .quo t x y yt,ty,pos,aft,g⟩).run P w=.ok (.value (.int k c)) w:=
 py e f (λw=>by simp[WT,Op.intDiv,h0,hc]) w
def zle{k:Z9}{a b c:J}(e:ev env x=.int k a)(f:ev env y=.int k b)(h0:b≠0)(hc:a.tmod b=c)(w:wP):
 (jp (ev env) ⟨d,.binOp .rem t x y yt,ty,pos,aft,g⟩).run P w=.ok (.value (.int k c)) w:=
 py e f (λw=>by simp[WT,Op.intDiv,h0,hc]) w
def ED{k e:Z9}{a b c:J}(f:ev env x=.int k a)(h:ev env y=.int e b)(h0:0<=b)(hc:a.fdiv (2^(min b.toNat k.bits))=c)(w:wP):
 (jp (ev env) ⟨d,.binOp .shr t x y yt,ty,pos,aft,g⟩).run P w=.ok (.value (.int k c)) w:=by
 have:¬b<0:=W
 simp[jp,f,h,WD,WT,Op.shift,this,hc]
def zct{k e:Z9}{a b c:J}(f:ev env x=.int k a)(h:ev env y=.int e b)(h0:0<=b)(hc:k.wrap (a*2^(min b.toNat k.bits))=c)(w:wP):
 (jp (ev env) ⟨d,.binOp .shl t x y yt,ty,pos,aft,g⟩).run P w=.ok (.value (.int k c)) w:=by
 have:¬b<0:=W
 simp[jp,f,h,WD,WT,Op.shift,this,hc]
def zlx{k:Z9}{a b c:J}(e:ev env x=.int k a)(f:ev env y=.int k b)(hc:k.wrap (((a%2^k.bits).toNat &&& (b%2^k.bits).toNat:K):J)=c)(w:wP):
 (jp (ev env) ⟨d,.binOp .and t x y yt,ty,pos,aft,g⟩).run P w=.ok (.value (.int k c)) w:=
 py e f (λw=>by simp[WT,Op.intBits,hc]) w
def zp8{k:Z9}{a b c:J}(e:ev env x=.int k a)(f:ev env y=.int k b)(hc:k.wrap (((a%2^k.bits).toNat|||(b%2^k.bits).toNat:K):J)=c)(w:wP):
 (jp (ev env) ⟨d,.binOp .or t x y yt,ty,pos,aft,g⟩).run P w=.ok (.value (.int k c)) w:=
 py e f (λw=>by simp[WT,Op.intBits,hc]) w
def zoF{k:Z9}{a b c:J}(e:ev env x=.int k a)(f:ev env y=.int k b)(hc:k.wrap (((a%2^k.bits).toNat^^^(b%2^k.bits).toNat:K):J)=c)(w:wP):
 (jp (ev env) ⟨d,.binOp .xor t x y yt,ty,pos,aft,g⟩).run P w=.ok (.value (.int k c)) w:=
 py e f (λw=>by simp[WT,Op.intBits,hc]) w
def zlp{k:Z9}{a c:J}(b:ev env x=.int k a)(hc:k.wrap (0-a)=c)(w:wP):
 (jp (ev env) ⟨d,.unOp .neg t x,ty,pos,aft,g⟩).run P w=.ok (.value (.int k c)) w:=by
 simp only[jp,b,Op.unary,Op.intArith,hc,xay,xaO,xal]
def V8{k e:Z9}{src b:wT}{f:TypeDesc}{a c:J}(h:P.underlying src=Z f)(hd:P.underlying b=Z (.int e))(i:ev env x=.int k a)(hc:e.wrap a=c)(w:wP):
 (jp (ev env) ⟨d,.convert src b x,ty,pos,aft,g⟩).run P w=.ok (.value (.int e c)) w:=by
 simp[jp,i,convert,kw h,kw hd,Conv.intToInt,hc]
def zo0{a b:J}{ts:ul wT}(c:ev env x=.int .i64 a)(f:ev env y=.int .i64 b)(w:wP):
 (jp (ev env) ⟨d,.call ⟨.builtin .max,#[x,y],ts⟩,ty,pos,aft,g⟩).run P w=.ok (.value (.int .i64<|max a b)) w:=by
 have e:(if b>a then b else a)=max a b:=W
 simp only[jp,Wl,WN,KW,xdE,xbU,xer,c,f,Builtin.max_,Builtin.max2,xay,xaO,xal,List.foldlM_cons,List.foldlM_nil,e]
def zoD{a b:J}{ts:ul wT}(c:ev env x=.int .i64 a)(f:ev env y=.int .i64 b)(w:wP):
 (jp (ev env) ⟨d,.call ⟨.builtin .min,#[x,y],ts⟩,ty,pos,aft,g⟩).run P w=.ok (.value (.int .i64<|min a b)) w:=by
 have e:(if b<a then b else a)=min a b:=W
 simp only[jp,Wl,WN,KW,xdE,xbU,xer,c,f,Builtin.min_,Builtin.min2,xay,xaO,xal,List.foldlM_cons,List.foldlM_nil,e]
end
end
section
def Sw{α:Type}(l:N α){n:K}(h:X l<=n):l.drop n=[]:=xbW h
section
variable{P:jP}{N:Nd}{we:wP}{Se:wr->Prop}{ms:xS MF}{Γ:xS FF}{Q:Qs}{env:y4}{ops:ul ut}{rest:xS ut}
 {d:ww Z4}{ty yt t:wT}{pos:String}{aft:ul Edge}{g:ww (wr×v6)}{x y:wW}
def AG{e:V0}{k:Z9}{a b:J}{c:v6}(f:ev env x=.int k a)(h:ev env y=.int k b)
 (hc:∀w,(WT e t (.int k a) (.int k b)).run P w=.ok (.bool c) w) (w:wP):(jp (ev env) ⟨d,.binOp e t x y yt,ty,pos,aft,g⟩).run P w=.ok (.value (.bool c)) w:=py f h hc w
def zbg{k:Z9}{a b:J}(c:yV ops env ⟨d,.binOp .geq t x y yt,ty,pos,aft,g⟩=I)(hd:jL N.n d=I)(e:ev env x=.int k a)(f:ev env y=.int k b)
 (k1:b<=a->TL P N we Se ms Γ ops rest Q (put env d (.bool I))) (k2:¬b<=a->TL P N we Se ms Γ ops rest Q (put env d (.bool wL))):
 TL P N we Se ms Γ ops (⟨d,.binOp .geq t x y yt,ty,pos,aft,g⟩::rest) Q env:=by
 by_cases h:b<=a
 ·exact ZW c hd (AG e f λw=>by simp[WT,xfO,h])<|k1 h
 ·exact ZW c hd (AG e f λw=>by simp[WT,xfO,h])<|k2 h
def zhs{k:Z9}{a b:J}(c:ev env x=.int k a)(e:ev env y=.int k b)(w:wP):(jp (ev env) ⟨d,.binOp .lss t x y yt,ty,pos,aft,g⟩).run P w=.ok (.value (.bool<|decide<|a<b)) w:=
 AG c e (λw=>by simp[WT,xfO]) w
def zfJ{k:Z9}{a b:J}(c:ev env x=.int k a)(e:ev env y=.int k b)(w:wP):(jp (ev env) ⟨d,.binOp .leq t x y yt,ty,pos,aft,g⟩).run P w=.ok (.value (.bool<|decide<|a<=b)) w:=
 AG c e (λw=>by simp[WT,xfO]) w
def zfI{k:Z9}{a b:J}(c:ev env x=.int k a)(e:ev env y=.int k b)(w:wP):(jp (ev env) ⟨d,.binOp .gtr t x y yt,ty,pos,aft,g⟩).run P w=.ok (.value (.bool<|decide<|b<a)) w:=
 AG c e (λw=>by simp[WT,xfO]) w
def zga{k:Z9}{a b:J}(c:ev env x=.int k a)(e:ev env y=.int k b)(w:wP):(jp (ev env) ⟨d,.binOp .geq t x y yt,ty,pos,aft,g⟩).run P w=.ok (.value (.bool<|decide<|b<=a)) w:=
 AG c e (λw=>by simp[WT,xfO]) w
def ziq{k:Z9}{a b:J}(c:ev env x=.int k a)(e:ev env y=.int k b)(w:wP):(jp (ev env) ⟨d,.binOp .eql t x y yt,ty,pos,aft,g⟩).run P w=.ok (.value (.bool<|decide<|a=b)) w:=
 AG c e (λw=>by simp[WT,xfO];by_cases h:a=b<;>simp[h]) w
def zh9{k:Z9}{a b:J}(c:ev env x=.int k a)(e:ev env y=.int k b)(w:wP):(jp (ev env) ⟨d,.binOp .neq t x y yt,ty,pos,aft,g⟩).run P w=.ok (.value (.bool (!decide (a=b)))) w:=
 AG c e (λw=>by simp[WT,xfO];by_cases h:a=b<;>simp[h]) w
def dc{a b:v6}(c:P.underlying t=Z .bool)(w:wP):(Op.equal t (.bool a) (.bool b)).run P w=.ok (a==b) w:=by
 show(Op.equalIn (9999+1) t (.bool a) (.bool b)).run P w=_;unfold Op.equalIn;simp only[xay,kw c,xal,xaO]
def zqv{a b:v6}(c:P.underlying t=Z .bool)(e:ev env x=.bool a)(f:ev env y=.bool b)(w:wP):
 (jp (ev env) ⟨d,.binOp .eql t x y yt,ty,pos,aft,g⟩).run P w=.ok (.value (.bool<|a==b)) w:=by
 have h:(WD .eql t x y (.bool a) (.bool b)).run P w=.ok () w:=by simp[WD]
 have i:(WT .eql t (.bool a) (.bool b)).run P w=.ok (.bool<|a==b) w:=by simp only[WT,xay,dc c,xal,xaO]
 simp only[jp,e,f,xay,h,i,xal,xaO]
def zpt{a b:v6}(c:P.underlying t=Z .bool)(e:ev env x=.bool a)(f:ev env y=.bool b)(w:wP):
 (jp (ev env) ⟨d,.binOp .neq t x y yt,ty,pos,aft,g⟩).run P w=.ok (.value (.bool (!(a==b)))) w:=by
 have h:(WD .neq t x y (.bool a) (.bool b)).run P w=.ok () w:=by simp[WD]
 have i:(WT .neq t (.bool a) (.bool b)).run P w=.ok (.bool (!(a==b))) w:=by simp only[WT,xay,dc c,xal,xaO]
 simp only[jp,e,f,xay,h,i,xal,xaO]
def BS(P:jP)(f:Z3):v6:=match P.funcs[f]? with
 |some fn=> !(fn.name== "runtime.NumGoroutine") && fn.body.isSome
 |none=>wL
def qd{f:Z3}(h:BS P f=I)(args:ul wN)(w:wP):(gT f args).run P w=.ok (.enter f args) w:=by
 unfold BS at h;unfold gT;split at h
 ·next fn a=>
  simp only[xab,xcN]at h;have b:fn.body.isNone=wL:=by simpa using h.2
  simp only[xay,run_program,xal,a,h.1,b,xar,uS,xaO]
 ·cases h
def zqB{U:Type}{b:U->wN}{a:U->xS FF}{ok:U->Prop}{c:xS FF}{f:Z3}{aas:xS wW}{ts:ul wT}{args:xS wN}(i:BS P f=I)
 (j:Fn P f args.toArray c b a ok) (k:aas.map (ev env)=args) (l:∀(S:K->Prop) (w:wP),zE S Γ w->zE S c w):
 MJ P ⟨d,.call ⟨.value (.func f),aas.toArray,ts⟩,ty,pos,aft,g⟩ env ms Γ b a ok:=by
 intro w S m _ h;unfold ur;have:(jp (ev env) ⟨d,.call ⟨.value (.func f),aas.toArray,ts⟩,ty,pos,aft,g⟩).run P w=.ok (.enter f args.toArray) w:=by simp[jp,Wl,ev,xcV,WN,qd i,k]
 rw[this];exact(j w S m<|l S w h).mono λe w' ⟨u,n,o,p,hc⟩=>⟨b u,n,u,O,o,p,hc⟩
def rF{U:Type}{b:U->wN}{a:U->xS FF}{ok:U->Prop}{c:xS FF}{f:Z3}{aas:xS wW}{ts:ul wT}{args aA:xS wN}{x:wW}(j:BS P f=I)
 (h:ev env x=.func (.func f) #[] aA.toArray) (k:Fn P f (args++aA).toArray c b a ok) (l:aas.map (ev env)=args) (m:∀(S:K->Prop) (w:wP),zE S Γ w->zE S c w):
 MJ P ⟨d,.call ⟨.value x,aas.toArray,ts⟩,ty,pos,aft,g⟩ env ms Γ b a ok:=by
 intro w S n _ i;unfold ur;have:(jp (ev env) ⟨d,.call ⟨.value x,aas.toArray,ts⟩,ty,pos,aft,g⟩).run P w=.ok (.enter f (args++aA).toArray) w:=by simp[jp,Wl,h,xcV,WN,qd j,l]
 rw[this];exact(k w S n<|m S w i).mono λe w' ⟨u,o,p,h,hc⟩=>⟨b u,o,u,O,p,h,hc⟩
def td(off:K):∀(c:xS wN) (k:K) (a:ul wN),off+k+X c<=a.size->
 ((c.zipIdx k).foldl (λcs (x:wN×K)=>cs.setIfInBounds (off+x.2) x.1) a).toList=a.toList.take (off+k)++c++a.toList.drop (off+k+X c)
 |[],k,a,h=>by simp
 |v::c,k,a,h=>by
  simp only[xaw]at h;rw[List.zipIdx_cons,List.foldl_cons];have:=td off c (k+1) (a.setIfInBounds (off+k) v) (by simp;lia);rw[this];simp only[Array.toList_setIfInBounds,xaw];have b:off+k<X a.toList:=by simp;lia
  rw[(W:off+(k+1)=off+k+1),xdY,iq b];have e1:X (a.toList.take<|off+k)=off+k:=by simp;lia
  rw[List.take_append,List.drop_append,e1];simp only[(W:off+k+1-(off+k)=1),xeu,List.take_zero,(W:off+k+1+X c-(off+k)=X c+1),List.drop_succ_cons];rw[xaW (by rw[e1];lia),Sw (xdu (off+k) a.toList) (by rw[e1];lia),List.drop_drop];simp only[xbH,xao,xbL,xbH];congr 3;congr 1;lia
def jN(parts:xS (K×wN)):xS wN:=parts.flatMap λx=>x.2.cells.toList
def aX(a:K->V (K×K)):xS (K×wN)->K->Prop
 |[],_=>Z5
 |(i,v)::r,off=>a i=Z (off,v.cells.size)/\aX a r (off+v.cells.size)
def r7{c:K->V (K×K)}:∀(parts:xS (K×wN)) (b z:xS wN),aX c parts (X b)->X (jN parts)<=X z->
 xdB c (b++z).toArray parts=Z (b++jN parts++z.drop (X (jN parts))).toArray
 |[],b,z,_,_=>by simp[xdB,jN]
 |(i,v)::r,b,z,⟨h1,e⟩,hl=>by
  simp only[jN,List.flatMap_cons,xaq,xev]at hl;have f:¬(X b+v.cells.size>(b++z).toArray.size):=by simp;lia
  have h:v.cells.zipIdx.foldl (λcs (x:wN×K)=>cs.setIfInBounds (X b+x.2) x.1) (b++z).toArray=((b++v.cells.toList)++z.drop v.cells.size).toArray:=by
   apply Array.ext';rw[<-Array.foldl_toList,Array.toList_zipIdx,td (X b) v.cells.toList 0 _<|by simp;lia];simp
  unfold xdB;simp only[h1];rw[ir<|by simp only[ne_eq,eX,decide_false,xew,Qr];exact f];have:=r7 r (b++v.cells.toList) (z.drop v.cells.size) (by simpa using e) (by simp[jN]at*;lia);refine(kW (λa=>xdB c a r) h).trans<|this.trans ?_;simp[jN]
def zc3(i:K)(v:wN)(r:xS (K×wN)):jN ((i,v)::r)=v.cells.toList++jN r:=by simp[jN]
def R4{α:Type}{e:zV α}{z:α}{bytes:K}{a:wN}{parts:xS (K×wW)}{vs:xS (K×wN)}(o:Ja P t I e.n bytes a)(s:e.agg=I)(u:a.cells.size=e.n)
 (hv:parts.map (λx=>(x.1,ev env x.2))=vs)
 (hc:(∃fs,P.underlying t=Z (.struct fs)/\∃pl:ul (K×K),(∀w,(fs.mapM (λf=>do pure (f.offset,<-WR f.type)):Sem (ul<|K×K)).run P w=.ok pl w)/\(∀(S:K->Prop) (w:wP),zE S Γ w->aX (pl[·]?) vs 0))\/
  (∃k l n b2 z2 j,P.underlying t=Z (.array k l)/\Ja P l j n b2 z2/\(∀(S:K->Prop) (w:wP),zE S Γ w->aX (λi=>Z (i*n,n)) vs 0)))
 (hp:∀(S:K->Prop) (w:wP),zE S Γ w->e.p S z (jN vs) w):
 MJ P ⟨d,.build t parts.toArray,ty,pos,aft,g⟩ env ms Γ (λv:wN=>v) (λv=>[fV e z v]) (λ_=>Z5):=by
 intro w S _ _ c;have q:=hp S w c;have hl:=e.len q;have A:X a.cells.toList=e.n:=by simpa using u
 refine ur.of_value (w':=w) (v:=.agg (jN vs).toArray) ?_ ⟨_,O,wR,yv.refl _ _,⟨⟨jN vs,by simp[zV.val,s],q⟩,wR⟩⟩;have r:∀b,aX b vs 0->xdB b a.cells vs=Z (jN vs).toArray:=by
  intro b h;have:=r7 vs [] a.cells.toList h (by rw[hl,A];exact IR _);simp_all
 have hi:parts.toArray.map (λx=>(x.1,ev env x.2))=vs.toArray:=by rw[<-hv];simp
 simp only[jp,xay];have B:(Instr.build t<|parts.toArray.map λx=>(x.1,ev env x.2)).run P w=.ok (.agg (jN vs).toArray) w:=by
  rw[hi];unfold Instr.build;rcases hc with⟨fs,m,pl,hc,hd⟩|⟨k,l,n,b2,z2,j,m,C,hd⟩
  ·simp only[xay,uo o,xal,kw m,hc,r _<|hd S w c,xaO]
  ·simp only[xay,uo o,xal,kw m,wo C,r _<|hd S w c,xaO]
 rw[B];rfl
def zcg{α:Type}{e:zV α}{y:α}{v:wN}{S:K->Prop}{w:wP}(h:(fV e y v).p S w):v.cells.size=e.n:=by
 have:=e.len<|uY h;simpa using this
def GL{α:Type}{e:zV α}{c:wT}{zs:xS α}{len bytes:K}{a:wN}{parts:xS (K×wW)}{vs:xS (K×wN)}(m:P.underlying t=Z (.slice c))(j:Ja P c e.agg e.n bytes a)
 (hn:0<e.n) (hd:X zs=len) (u:len*e.n<=16777216) (hv:parts.map (λx=>(x.1,ev env x.2))=vs)
 (o:∀(S:K->Prop) (w:wP),zE S Γ w->aX (λi=>Z (i*e.n,e.n)) vs 0) (hp:∀(S:K->Prop) (w:wP),zE S Γ w->yP e S zs (jN vs) w):
 MJ P ⟨d,.buildSlice t len parts.toArray,ty,pos,aft,g⟩ env ms Γ (λv:wN=>v) (λv=>[fV (eS e) zs v]) (λ_=>Z5):=by
 intro w S p _ h;have k:=hp S w h;have hl:X (jN vs)=len*e.n:=by rw[k.len,hd]
 have x:=J4.alloc w (.cells (jN vs).toArray c);refine ur.of_value (w':=w.alloc (.cells (jN vs).toArray c)) (v:=.slice (Z ⟨w.heap.size,0,wF⟩) len len) ?_ ⟨_,O,wR,x,⟨xC.2 ?_,wR⟩⟩
 ·have hi:parts.toArray.map (λx=>(x.1,ev env x.2))=vs.toArray:=by rw[<-hv];simp
  have hc:xdB (λi=>Z (i*e.n,e.n)) ((xeR<|len*e.n).map (a.cells[·%a.cells.size]!)) vs=Z (jN vs).toArray:=by
   have:=r7 vs [] ((xeR<|len*e.n).map (a.cells[·%a.cells.size]!)).toList (o S w h) (by simp[hl]);rw[xbH,xdh,xbH,xbW (by simp[hl]),xbB]at this;lia
  have q:(xez t len<|parts.toArray.map λx=>(x.1,ev env x.2)).run P w=.ok (.slice (Z ⟨w.heap.size,0,wF⟩) len len) (w.alloc (.cells (jN vs).toArray c)):=by
   rw[hi];unfold xez;simp only[xay,kw m,xal,wo j,ir (W:¬len*e.n>2^24),aC];by_cases h0:len*e.n=0
   ·have z:jN vs=[]:=xbe (by rw[hl,h0]);have r:xdB (λi=>Z (i*e.n,e.n)) ((xeR 0).map ((#[]:ul wN)[·%(#[]:ul wN).size]!)) vs=Z (jN vs).toArray:=by
     have l:∀f:K->wN,(xeR 0).map f= #[]:=λf=>by simp
     rw[<-hc,h0,l,l]
    simp only[h0,uP];simp only[r,xay,WS,xal,xaO]
   ·simp only[ir h0,xay,uo j,xal,xaO,hc,WS]
  simp only[jp,xay,q,xal,xaO]
 ·have s:At (w.alloc (.cells (jN vs).toArray c)) w.heap.size 0 (jN vs):=by
   have:=At.row (b:=w.heap.size) (cs:=(jN vs).toArray) (t:=c) (fr:=(0,0))<|Wt w _;simpa using this
  refine SlP.of_at (p.up _<|IR _) s (k.keep x.to) hd.symm W ?_;have:len<=len*e.n:=xcm _ hn;unfold Ww;lia
def zn7{α:Type}{e:zV α}{E:wT}{z:α}{v:wN}(c:ev env x=v)(f:∀(S:K->Prop) (w:wP),zE S Γ w->(fV e z v).p S w):
 MJ P ⟨d,.box E x,ty,pos,aft,g⟩ env ms Γ (λv:wN=>v) (λp=>[fP e z p]) (λ_=>Z5):=by
 intro w S i _ a;have h:=uY<|f S w a;have b:=J4.alloc w (.cells v.cells E);refine ur.of_value ?_ ⟨_,O,wR,b,⟨⟨w.heap.size,0,v.cells.toList,O,i.up _<|IR _,At.row<|Wt w _,e.keep h b.to⟩,wR⟩⟩;simp[jp,c,Instr.box,newVar,aC]
end
end
section
def Sub{α β:Type}(e:o6 α)(x:α)(o:K)(d:zV β)(g:β)(up:β->α):Prop:=
 ∀(S:K->Prop) (w:wP) (cs:N wN),e.p S x cs w->∃b c a,cs=b++c++a/\X b=o/\d.p S g c w/\∀(w':wP) y f,yv S w w'->d.p S y f w'->e.p S (up y) (b++f++a) w'
def Sub.self{α:Type}(e:zV α)(x:α):Sub e.c x 0 e x id:=
 λ_ _ cs h=>⟨[],cs,[],iP,O,h,λ_ y b _ a=>by simpa[zV.c]using a⟩
def Sub.fst{α β:Type}(e:zV α)(f:zV β)(x:α×β):Sub (eP e f).c x 0 e x.1 (λy=>(y,x.2)):=by
 rintro S w cs ⟨c,d,rfl,hc,hd⟩;exact⟨[],c,d,iP,O,hc,λw' y a k b=>⟨a,d,iP,b,f.keep hd k⟩⟩
def Sub.snd{α β:Type}(e:zV α)(f:zV β)(x:α×β):Sub (eP e f).c x e.n f x.2 (λy=>(x.1,y)):=by
 rintro S w cs ⟨c,d,rfl,hc,hd⟩;exact⟨c,d,[],iP,e.len hc,hd,λw' y a k b=>⟨c,a,iP,e.keep hc k,b⟩⟩
def Sub.nth{α:Type}(k:K)(e:zV α)(xs:N α)(i:K)(x:α)(d:xs[i]? =Z x):Sub (eA k e).c xs (i*e.n) e x (λy=>xs.set i y):=by
 rintro S w cs ⟨hl,a⟩;obtain⟨hi,rfl⟩:=xax.1 d;have hd:=a.drop i;rw[xcb hi]at hd;have⟨c,r,h1,f,g⟩:=hd;have l:i*e.n<=X cs:=by rw[a.len];exact xan _ W
 refine⟨cs.take<|i*e.n,c,r,?_,by simp;lia,f,λw' y h b j=>⟨by simpa using hl,?_⟩⟩
 ·rw[xao,<-h1,xbA]
 ·show yP e S (xs.set i y) _ w';rw[xdY,iq hi,xao];exact((a.keep b).take i).append ⟨h,r,O,j,g.keep b⟩
def Sub.row{α:Type}(e:zV α)(xs:N α)(i:K)(x:α)(d:xs[i]? =Z x):Sub (zpm e) xs (i*e.n) e x (λy=>xs.set i y):=by
 intro S w cs f;have⟨b,c,a,h1,g,h,j⟩:=Sub.nth (X xs) e xs i x d S w cs ⟨O,f⟩;exact⟨b,c,a,h1,g,h,λw' y k l m=>(j w' y k l m).2⟩
def Sub.comp{α β γ:Type}{e:o6 α}{x:α}{o m:K}{f:zV β}{y:β}{g:zV γ}{z:γ}{up:β->α}{b:γ->β}(h:Sub e x o f y up)(n:Sub f.c y m g z b):
 Sub e x (o+m) g z (λt=>up<|b t):=by
 intro S w cs p;obtain⟨j,c,d,rfl,h1,q,r⟩:=h S w cs p;obtain⟨i,s,a,rfl,u,v,hd⟩:=n S w c q;refine⟨j++i,s,a++d,iP,by simp[h1,u],v,λw' t l k hc=> ?_⟩;have:=r w' _ _ k<|hd w' t l k hc;simp_all
section
variable{P:jP}{N:Nd}{we:wP}{Se:wr->Prop}{ms:xS MF}{Γ:xS FF}{Q:Qs}{env:y4}{ops:ul ut}{rest:xS ut}
 {d:ww Z4}{ty yt t:wT}{pos:String}{aft:ul Edge}{g:ww (wr×v6)}{x y:wW}
def Ca{c:wT}{ag:v6}{e bytes:K}{a:wN}{b o n cap k:K}{ik:Z9}(f:P.underlying t=Z (.slice c))(h:Ja P c ag e bytes a)
 (i:ev env x=.slice (Z ⟨b,o,wF⟩) n cap) (hi:ev env y=.int ik (k:J)) (j:k<n) (w:wP):
 (jp (ev env) ⟨d,.indexAddr t x y,ty,pos,aft,g⟩).run P w=.ok (.value (.pointer<|some ⟨b,o+k*e,wF⟩)) w:=by
 have:(0:J)<=k/\(k:J)<n:=W
 simp only[jp,i,hi,Instr.indexAt,V4,kw f,xay,xaO,xal,iq this,wo h,jq,xaN]
def PR{c:wT}{ag:v6}{e bytes:K}{a:wN}{b o n k:K}{ik:Z9}(f:P.underlying t=Z (.array n c))(h:Ja P c ag e bytes a)
 (i:ev env x=.pointer (Z ⟨b,o,wF⟩)) (hi:ev env y=.int ik (k:J)) (j:k<n) (w:wP):
 (jp (ev env) ⟨d,.indexAddr t x y,ty,pos,aft,g⟩).run P w=.ok (.value (.pointer<|some ⟨b,o+k*e,wF⟩)) w:=by
 have:(0:J)<=k/\(k:J)<n:=W
 simp only[jp,i,hi,Instr.indexAt,xfu,V4,kw f,xay,xaO,xal,iq this,wo h,jq,xaN]
theorem zea{α β:Type}{e:zV α}{f:zV β}{z:α}{z':β}{up:β->α}{p:wN}{l:wT}{ag:v6}{h bytes:K}{a:wN}{n k:K}{ik:Z9}(r:P.underlying t=Z (.array n l))(hc:Ja P l ag h bytes a)
 (s:ev env x=p) (hi:ev env y=.int ik (k:J)) (u:k<n) (A:Sub e.c z (k*h) f z' up) (B:∀(S:K->Prop) (w:wP),zE S Γ w->(fP e z p).p S w):
 MJ P ⟨d,.indexAddr t x y,ty,pos,aft,g⟩ env ms Γ (λp:wN=>p) (λp=>[fP f z' p]) (λ_=>Z5):=by
 intro w S _ _ i;obtain⟨b,o,cs,rfl,C,m,D⟩:=B S w i;obtain⟨E,c,q,rfl,h1,F,_⟩:=A S w cs D;refine ur.of_value (PR r hc s hi u w) ⟨_,O,wR,yv.refl _ _,⟨⟨b,o+k*h,c,O,C,⟨m.1,λj v hv=> ?_⟩,F⟩,wR⟩⟩;rw[xcM];refine m.2 _ v ?_;grind
def TA(P:jP)(t:wT)(i:K):V K:=match P.underlying t with
 |some (.struct fs)=>match fs[i]? with
  |some f=>match P.info? f.type with
   |some a=>if a.size=0 then wF else Z f.offset
   |none=>wF
  |none=>wF
 |_=>wF
def Sp{i off b o:K}(h:TA P t i=Z off)(w:wP):(Instr.fieldAt t (.pointer<|some ⟨b,o,wF⟩) i).run P w=.ok (.pointer<|some ⟨b,o+off,wF⟩) w:=by
 unfold TA at h;split at h
 ·next fs a=>
  split at h
  ·next f c=>
   split at h
   ·next e hi=>
    split at h
    ·cases h
    ·next j=>
     cases h;simp only[Instr.fieldAt,xay,kw a,xal,c,xfu,xaO,fieldPlace,WR,WP,run_program,hi,ir j,jq]
   ·cases h
  ·cases h
 ·cases h
def oD{i off b o:K}(h:TA P t i=Z off)(a:ev env x=.pointer (Z ⟨b,o,wF⟩))(w:wP):
 (jp (ev env) ⟨d,.fieldAddr t x i,ty,pos,aft,g⟩).run P w=.ok (.value (.pointer<|some ⟨b,o+off,wF⟩)) w:=by
 simp only[jp,a,xay,Sp h,xal,xaO]
theorem zf0{α β:Type}{e:zV α}{f:zV β}{z:α}{z':β}{up:β->α}{p:wN}{i off:K}(h:TA P t i=Z off)(m:ev env x=p)(n:Sub e.c z off f z' up)
 (q:∀(S:K->Prop) (w:wP),zE S Γ w->(fP e z p).p S w):MJ P ⟨d,.fieldAddr t x i,ty,pos,aft,g⟩ env ms Γ (λp:wN=>p) (λp=>[fP f z' p]) (λ_=>Z5):=by
 intro w S _ _ a;obtain⟨b,o,cs,rfl,r,k,s⟩:=q S w a;obtain⟨u,c,l,rfl,h1,A,_⟩:=n S w cs s;refine ur.of_value (oD h m w) ⟨_,O,wR,yv.refl _ _,⟨⟨b,o+off,c,O,r,⟨k.1,λj v hv=> ?_⟩,A⟩,wR⟩⟩;rw[xcM];refine k.2 _ v ?_;grind
theorem St.muts{i:K}{m:MF}{w:wP}(h:St we Se ms Γ w)(hi:ms[i]? =Z m):∃S:K->Prop,m.p S w/\yT S ms w/\zE S Γ w:=by
 have⟨h1,c,e,S,f,j,k,a,b⟩:=h;exact⟨S,yT.get a hi,a,b⟩
def St.mut{i:K}{m:MF}{w:wP}(h:St we Se ms Γ w)(hi:ms[i]? =Z m):∃S:K->Prop,Tl w S/\m.p S w/\zE S Γ w/\∀(Δ:xS FF),zE S Δ w->St we Se ms Δ w:=by
 have⟨h1,b,f,S,j,c,k,e,l⟩:=h;exact⟨S,b.at h1 c,yT.get e hi,l,λΔ a=>⟨h1,b,f,S,j,c,k,e,a⟩⟩
def At.mid{w:wP}{b:K}{cs:ul wN}{E:wT}{a c e:xS wN}(h:w.heap[b]? =Z (.cells cs E (0,0)))(f:cs.toList=a++c++e):At w b (X a) c:=by
 have:=((At.row h).drop (X a)).take (X c);simp_all
def XG{α β:Type}{e:o6 α}{E b:K}{z:α}{f:zV β}{o:K}{z':β}{up:β->α}{bytes:K}{a:wN}(i:K)
 (k:ms[i]? =Z (mB e E b z)) (l:ev env x=.pointer (Z ⟨b,o,wF⟩)) (m:Sub e z o f z' up) (p:Ja P t f.agg f.n bytes a):
 MJ P ⟨d,.load t x,ty,pos,aft,g⟩ env ms Γ (λv:wN=>v) (λv=>[fV f z' v]) (λ_=>Z5):=by
 intro w S _ q r;have⟨cs,s,hp⟩:=yT.get q k;have⟨u,c,h,hc,h1,j,_⟩:=m S w cs.toList hp;have A:=h1▸At.mid s hc;refine ur.of_value ?_ ⟨_,O,wR,yv.refl _ _,zqt j,wR⟩;simp[jp,l,Instr.loadAt,xfu,gw p j A]
def Q1(w:wP)(b:K)(cs:ul wN):yv (λk=>k≠b) w (w.setRow b cs):=
 ⟨O,O,O,iP,λk _ a=>dL w b k cs a⟩
def Mz{ag:v6}{n bytes:K}{f:wN}(j:Ja P t ag n bytes f){w:wP}{b:K}{cs:ul wN}{E:wT}{a c e:xS wN}{v:wN}
 (h:w.heap[b]? =Z (.cells cs E (0,0))) (i:cs.toList=a++c++e) (hc:X c=n) (hv:X v.cells.toList=n) (h1:∀u∈v.cells.toList,u.oneCell'=I):
 (storeVar t ⟨b,X a,wF⟩ v).run P w=.ok () (w.setRow b (a++v.cells.toList++e).toArray):=by
 unfold storeVar;have k:cs.size=X (a++c++e):=by rw[<-i];simp
 have l:=am P b (X a) E v.cells.toList 0 cs w h (by rw[k,hv];simp;lia) h1;have hd:v.cells.size=n:=by simpa using hv
 simp only[xay,wo j,xal,hd,ne_eq,eX,uS];refine l.trans ?_;congr 2;rw[i,hv,xbO];congr 2
 ·rw[xao,List.take_left' O]
 ·rw[<-hc,<-xaq,xfM O]
theorem uk{α β:Type}{e:o6 α}{E b:K}{z:α}{f:zV β}{o:K}{z' y':β}{up:β->α}{bytes:K}{q v:wN}(i:K)(r:ms[i]? =Z (mB e E b z))(H:ev env x=.pointer (Z ⟨b,o,wF⟩))(J:ev env y=v)(s:Sub e z o f z' up)(L:Ja P t f.agg f.n bytes q)
 (hv:∀(S:K->Prop) (w:wP),zE S Γ w->(fV f y' v).p S w):OG P ⟨wF,.store t x y,ty,pos,aft,g⟩ env we Se ms Γ (λ_:Z2=>uL) (λ_=>(ms.set i<|mB e E b<|up y')) (λ_=>Γ) (λ_=>Z5):=by
 intro w u;have⟨S0,_,⟨h,hd,M⟩,R,_⟩:=u.mut r;have⟨l,c0,a,A,B,hi,_⟩:=s S0 w h.toList M;have C:=uY<|hv S0 w R;have hn:(jp (ev env) ⟨wF,.store t x y,ty,pos,aft,g⟩).run P w=.ok .skip (w.setRow b (l++v.cells.toList++a).toArray):=by
  have:=Mz L hd A (f.len hi) (f.len C)<|f.one C;rw[B]at this;simp only[jp,H,J,Instr.storeAt,xfu,xay,xaO,xal,this]
 refine ur.of_skip hn ⟨(),O,wR,u.write r O O (Q1 w b _) ?_⟩;rintro S T ⟨cs,D,hp⟩ U;rw[hd]at D;cases D;have⟨m,c,j,F,hl,hc,V⟩:=s S w h.toList hp;have e1:m=l:=by
  have h1:m=h.toList.take o:=by rw[F,xao,<-hl,List.take_left' O]
  grind
 have Y:j=a:=by
  have h1:j=h.toList.drop (o+f.n):=by rw[F,<-hl,<-f.len hc,<-xaq,xfM O]
  have h2:a=h.toList.drop (o+f.n):=by rw[A,<-B,<-f.len hi,<-xaq,xfM O]
  rw[h1,h2]
 subst e1 Y;have G:yv S w (w.setRow b (m++v.cells.toList++j).toArray):=(Q1 w b _).weak λk _ hk=>T k hk;exact⟨_,bv w b h _ E (0,0) hd,by simpa using V _ y' _ G (f.keep (uY<|hv S w U) G)⟩
def zbU{α:Type}{e:zV α}{c:wT}{z:α}{n bytes:K}{zero:wN}{q:wW}{r s:Z9}(u:P.underlying t=Z (.slice c))(A:Ja P c e.agg e.n bytes zero)(B:ev env x=.int r (n:J))(C:ev env q=.int s (n:J))(D:bytes*n<=281474976710656)(hn:n<=9223372036854775807)
 (f:∀(S:K->Prop) (w:wP),e.p S z zero.cells.toList w):OG P ⟨d,.makeSlice t x q,ty,pos,aft,g⟩ env we Se ms Γ (λb=>(.slice (Z ⟨b,0,wF⟩) n n)) (λb=>(mR e c b (Nm n z)::ms)) (λ_=>Γ) (λ_=>Z5):=by
 intro w E;have⟨i,hi,h1,F,G⟩:=A.info;have H:=run_make (P:=P) w t c i zero u hi G r s (n:J) (n:J) W W (by rw[F,<-xde];exact Int.ofNat_le.2 D) W;have hd:X zero.cells.toList=e.n:=e.len<|f (λ_=>Z5) w;have hc:(fD zero.cells<|n*i.size).toList=(Nm n zero.cells.toList).flatten:=by
  rw[h1];apply xcy;intro j;have L:zero.cells.size=e.n:=by simpa using hd
  by_cases a:j<n*e.n
  ·have k:0<e.n:=xcD λh0=>by rw[h0]at a;simp at a
   have e1:(fD zero.cells<|n*e.n).toList[j]? =zero.cells.toList[j%e.n]? :=by
    have o:=xaM j k;simp[fD,a,L,o]
   have M:((Nm n zero.cells.toList).flatten)[j]? =zero.cells.toList[j%e.n]? :=by
    have:=(yP.replicate (f (λ_=>Z5) w) n).get (i:=j/e.n) (x:=z) (by rw[xfb,iq<|(xaS k).2 a]);exact flatten_get zero.cells.toList e.n hd k n j a
   rw[e1,M]
  ·rw[xbP (by simp[size_madeCells];lia),xbP<|by simp[hd];lia]
 refine ur.of_value (w':=w.alloc (.cells (fD zero.cells<|n*i.size) c)) (v:=.slice (Z ⟨w.heap.size,0,wF⟩) n n) ?_ ⟨_,O,wR,E.fresh (J4.alloc w _) O iP ?_⟩
 ·simp only[jp,B,C,xay,H,xal,xaO,xaN]
 ·intro S _ _;refine⟨_,Wt w _,?_⟩;rw[hc];exact yP.replicate (f _ _) n
 where
 flatten_get (l:xS wN) (m:K) (hl:X l=m) (o:0<m):∀(n j:K),j<n*m->((Nm n l).flatten)[j]? =l[j%m]?
  |0,j,h=>by simp at h
  |n+1,j,h=>by
   rw[xdQ,List.flatten_cons];by_cases a:j<m
   ·rw[xbj W,xam a]
   ·rw[xbz W,hl,flatten_get l m hl o n (j-m) (by rw[xaX]at h;lia),<-Nat.mod_eq_sub_mod W]
end
end
section
section
variable{we:wP}{Se:wr->Prop}{ms:xS MF}{Γ Δ:xS FF}{w w':wP}
theorem St.growM{i:K}{m m':MF}(h:St we Se ms Γ w)(hi:ms[i]? =Z m)(x:yv (λk=>¬m.blk k) w w')(s:∀k,m'.blk k->m.blk k\/w.heap.size<=k)
 (n:∀S:K->Prop,(∀k,S k->¬m.blk k)->yT S ms w->zE S Γ w->m'.p S w'):St we Se (ms.set i m') Γ w':=by
 have⟨h1,C,u,S,D,E,q,t,v⟩:=h;have o:=xby hi;have F:∀k,S k->¬m.blk k:=λk a e=>(q m o k e).1 a;have hd:∀k,k<w.heap.size->S k->S k/\¬m'.blk k:=λk a G=>⟨G,λe=>by
  obtain h|h:=s k e
  ·simp_all
  ·lia⟩
 have y:∀k,(S k/\¬m'.blk k)->¬m.blk k:=λk a=>F k a.1;have z:yv (λk=>S k/\¬m'.blk k) w w':=x.weak λk _ a=>y k a;have A:=λb f=>yT.lt t b f;have other:∀(j:K) (b:MF),j≠i->ms[j]? =Z b->∀k,b.blk k->¬m.blk k/\¬m'.blk k:=λj b g f k a=>by
  have h1:¬m.blk k:=λe=>fc u hi k e j b g f a;refine⟨h1,λe=> ?_⟩;obtain h|h:=s k e
  ·exact h1 h
  ·have:=A b (xby f) k a;lia
 have B:=n _ y (yT.sub hd t)<|zE.sub hd v;refine⟨h1.behind x (λk a e=>by have:=(q m o k e).2;lia),C,?_,λk=>S k/\¬m'.blk k,λk a=>D k a.1,?_,?_,?_,?_⟩
 ·exact c i m' u<|λj b g f k a=>(other j b g f k a).2
 ·exact λk a=>⟨E k<|xae x.size a,λe=>by have:=m'.lt B k e;lia⟩
 ·intro b f k a;obtain⟨j,g,rfl⟩:=xcW f;rw[List.getElem_set]at a;rw[xbt]at g;split at a
  ·refine⟨λhc=>hc.2 a,?_⟩;obtain h|h:=s k a
   ·exact(q m o k h).2
   ·have:=h1.size;lia
  ·exact⟨λhc=>(q _ (xcd g) k a).1 hc.1,(q _ (xcd g) k a).2⟩
 ·exact d i m' z B (λj b g f k a=>x.block k (A b (xby f) k a) (other j b g f k a).1)<|yT.sub hd t
 ·exact zE.keep z<|zE.sub hd v
 where
 c:∀{ms:N MF} (i:K) (m':MF),QE ms->(∀(j:K) (b:MF),j≠i->ms[j]? =Z b->∀k,b.blk k->¬m'.blk k)->QE (ms.set i m')
  |[],_,_,h,_=>by simpa using h
  |m::r,0,m',h,l=>⟨λk a b f hc=>by
   obtain⟨j,g,rfl⟩:=xcW f;exact l (j+1) r[j] W (by simp[g]) k hc a,h.2⟩
  |m::r,i+1,m',h,l=>by
   refine⟨λk a b f=> ?_,c i m' h.2<|λj b g f=>l (j+1) b W<|by simpa using f⟩;obtain⟨j,g,rfl⟩:=xcW f;rw[List.getElem_set];split
   ·exact l 0 m W O k a
   ·exact h.1 k a _<|xcd _
 d {S:K->Prop}:∀{ms:N MF} (i:K) (m':MF),yv S w w'->m'.p S w'->(∀(j:K) (b:MF),j≠i->ms[j]? =Z b->∀k,b.blk k->w'.heap[k]? =w.heap[k]?)->yT S ms w->yT S (ms.set i m') w'
  |[],_,_,_,_,_,_=>trivial
  |m::r,0,m',x,o,l,h=>⟨o,yT.keep x (λb f k a=>by
   obtain⟨j,g,rfl⟩:=xcW f;exact l (j+1) r[j] W (by simp[g]) k a) h.2⟩
  |m::r,i+1,m',x,o,l,h=>⟨m.keep h.1 x<|λk a=>l 0 m W O k a,d i m' x o (λj b g f=>l (j+1) b W<|by simpa using f) h.2⟩
theorem St.grow{i:K}{m m':MF}(h:St we Se ms Γ w)(hi:ms[i]? =Z m)(x:yv (λk=>¬m.blk k) w w')(a:∀k,m'.blk k->m.blk k\/w.heap.size<=k)
 (n:∀S:K->Prop,(∀k,S k->¬m.blk k)->m.p S w->zE S Γ w->m'.p S w'):St we Se (ms.set i m') Γ w':=by grind [St.growM,yT.get]
theorem St.conv{i:K}{m m':MF}(h:St we Se ms Γ w)(hi:ms[i]? =Z m)(a:m'.blk=m.blk)(n:∀S:K->Prop,m.p S w->m'.p S w):St we Se (ms.set i m') Γ w:=by grind [St.grow,yv.refl]
theorem St.nilO{α:Type}{e:zV α}{E:wT}(h:St we Se ms Γ w):St we Se (mO e E (.slice wF 0 0) []::ms) Γ w:=by
 have⟨h1,b,c,S,d,f,j,g,i⟩:=h;refine⟨h1,b,⟨(λ_ a=>by cases a),c⟩,S,d,f,?_,⟨⟨[],World.ownsRow_nil _ _ _ _,O⟩,g⟩,i⟩;intro m hm k a;obtain rfl|hm:=xag.1 hm
 ·cases a
 ·grind
end
section
variable{P:jP}{N:Nd}{we:wP}{Se:wr->Prop}{ms:xS MF}{Γ:xS FF}{Q:Qs}{env:y4}{ops:ul ut}{rest:xS ut}
 {d:ww Z4}{ty yt t:wT}{pos:String}{aft:ul Edge}{g:ww (wr×v6)}{x y:wW}
def tQ{α:Type}{e:o6 α}{z:α}{ag:v6}{c bytes:K}{a:wN}{E:wT}(f:Ja P E ag c bytes a)
 (h:∀(S:K->Prop) (w:wP),e.p S z a.cells.toList w):OG P ⟨d,.alloc E,ty,pos,aft,g⟩ env we Se ms Γ (λb=>(.pointer<|some ⟨b,0,wF⟩)) (λb=>(mB e E b z::ms)) (λ_=>Γ) (λ_=>Z5):=by
 intro w i;refine ur.of_value ?_ ⟨_,O,wR,i.fresh (J4.alloc w _) O iP λS _ _=>⟨_,Wt w _,h _ _⟩⟩;simp only[jp,Instr.alloc,xay,uo f,xal,newVar,aC,WS,xaO]
def zkm{α:Type}{e:zV α}{z:α}{v:wN}{E:wT}(f:ev env x=v)
 (h:∀(S:K->Prop) (w:wP),zE S Γ w->(fV e z v).p S w):OG P ⟨d,.box E x,ty,pos,aft,g⟩ env we Se ms Γ (λb=>(.pointer<|some ⟨b,0,wF⟩)) (λb=>(mB e.c E b z::ms)) (λ_=>Γ) (λ_=>Z5):=by
 intro w i;refine ur.of_value (w':=w.alloc (.cells v.cells E)) ?_ ⟨_,O,wR,i.fresh (J4.alloc w _) O iP λS l a=>⟨_,Wt w _,?_⟩⟩
 ·simp only[jp,f,Instr.box,newVar,aC,xay,WS,xal,xaO]
 ·exact e.keep (e.sub (uY<|h S w a) λk m j=>⟨j,W⟩) (J4.alloc w _).to
def gh(w:wP)(t ty e:wT)(i:cS)(z:wN)(size bytes:K)(l:P.underlying t=Z (.slice e))(hi:P.info? e=Z i)(s:i.zero=Z z)
 (A:i.size=size) (hn:i.bytes=bytes) (C:z.cells.size=size) (hv:0<size)
 (v:wN) (n:K) (xs:xS wN) (hd:w.ownsRow 0 e size v n xs)
 (a:JP) (m c:K) (b:xS wN) (hl:X b=m*size) (r:∀j u,b[j]? =Z u->w.cell? (a.add j)=Z u) (h1:∀u∈b,u.oneCell'=I)
 (hp:n+m<=Ww) (hc:(n+m)*bytes<=140737488355328):
 ∃p w',(xbQ #[t,t] ty #[v,.slice (Z a) m c]).run P w=.ok p w'/\w'.ownsRow 0 e size p (n+m) (xs++b)/\w.grownBy w' v.ownBlock/\
  ∀k,p.ownBlock=Z k->v.ownBlock=Z k\/w.heap.size<=k:=by
 have⟨p,w',h,D,E,_⟩:=run_append_own (P:=P) w 0 t ty e i z size bytes l hi s A hn C hv v n xs hd a m c b hl r h1 hp hc<|xac _;refine⟨p,w',h,D,E,?_⟩;subst A hn;have R:n+m<=9223372036854775807:=by simp only[Ww]at hp;lia
 rcases hd.2 with⟨rfl,rfl⟩|⟨g,cap,q,rfl,S,F,T,U,G,V⟩
 ·by_cases H:m=0
  ·subst H;have:=f (w:=w) t ty e i l hi a c;rw[this]at h;cases h;exact λk o=>by cases o
  ·have:=run_append_nil (P:=P) w t ty e i z l hi s a m c b hl r W W (by have J:=hc;simp only[xaJ]at J;lia);rw[this]at h;cases h;exact λk o=> .inr<|by cases o;exact IR _
 ·by_cases B:n+m<=cap
  ·have L:n*i.size+X b<=q.size:=by rw[hl,G,<-xaX];exact xan _ B
   have:=run_append_room (P:=P) w t ty e i l hi g n cap q F a m c b hl r h1 B L;rw[this]at h;cases h;exact λk o=> .inl o
  ·have M:∀j u,xs[j]? =Z u->w.cell? ((⟨g,0,wF⟩:JP).add j)=Z u:=hd.cells (g:=g) O;have:=run_append_grow (P:=P) w t ty e i z l hi s ⟨g,0,wF⟩ n cap xs hd.1 M a m c b hl r W W<|UP W hc;rw[this]at h;cases h;exact λk o=> .inr<|by cases o;exact IR _
 where
 f {w:wP} (t ty e:wT) (i:cS) (l:P.underlying t=Z (.slice e)) (hi:P.info? e=Z i) (a:JP) (c:K):
  (xbQ #[t,t] ty #[.slice wF 0 0,.slice (Z a) 0 c]).run P w=.ok (.slice wF 0 0) w:=by
  simp[xbQ,kw l,WR,WP,hi,xfc,xeD,loadCells,loadCellsFrom]
def SlQ{α:Type}(e:zV α)(S:K->Prop)(xs:xS α)(v:wN)(w:wP):Prop:=
 ∃a cap,v=.slice a (X xs) cap/\X xs<=cap/\cap<=Ww/\(xs=[]\/∃b o cs,a=Z ⟨b,o,wF⟩/\At w b o cs/\yP e S xs cs w)
theorem SlQ.of{α:Type}{e:zV α}{S:K->Prop}{xs:xS α}{v:wN}{w:wP}(h:(fV (eS e) xs v).p S w):SlQ e S xs v w:=by
 have⟨c,cap,h1,f,i,a⟩:=xC.1 h;refine⟨c,cap,h1,f,i,?_⟩;obtain a|⟨b,o,cs,j,k,a3,a4⟩:=a
 ·simp_all
 ·grind
def aO{α:Type}{e:zV α}{z:wT}{xs ys:xS α}{v u:wN}{bytes:K}{zero:wN}(i:K)(D:P.underlying t=Z (.slice z))(hK:Ja P z e.agg e.n bytes zero)(hD:zero.cells.size=e.n)(hn:0<e.n)
 (L:ms[i]? =Z (mO e z v xs)) (hx:ev env x=v) (hy:ev env y=u) (hf:∀(S:K->Prop) (w:wP),yT S ms w->zE S Γ w->SlQ e S ys u w)
 (h4:X xs+X ys<=9223372036854775807) (hb:(X xs+X ys)*bytes<=140737488355328):OG P ⟨d,.call ⟨.builtin .append,#[x,y],#[t,t]⟩,ty,pos,aft,g⟩ env we Se ms Γ (λq=>q) (λq=>(ms.set i<|mO e z q<|xs++ys)) (λ_=>Γ) (λ_=>Z5):=by
 intro w hE;have⟨S,⟨cs,E,he⟩,h7,h8⟩:=hE.muts L;have⟨ao,cap,M,h1,h2,h3⟩:=hf S w h7 h8;have⟨T,hi,i1,i2,i3⟩:=hK.info;have hL:∀q w',(xbQ #[t,t] ty #[v,u]).run P w=.ok q w'->(jp (ev env) ⟨d,.call ⟨.builtin .append,#[x,y],#[t,t]⟩,ty,pos,aft,g⟩).run P w=.ok (.value q) w':=λq w' B=>by simp only[jp,Wl,WN,KW,xdE,xbU,xer,hx,hy,xay,B,xaO,xal]
 have hz:X xs+X ys<=Ww:=by unfold Ww;lia
 have F:∃q w',(xbQ #[t,t] ty #[v,u]).run P w=.ok q w'/\w.grownBy w' v.ownBlock/\(∀k,q.ownBlock=Z k->v.ownBlock=Z k\/w.heap.size<=k)/\
  ∀S:K->Prop,(∀k,S k->v.ownBlock≠Z k)->yT S ms w->zE S Γ w->(mO e z q<|xs++ys).p S w':=by
  have G:∀(w':wP) (q:wN) (m:xS wN),w.grownBy w' v.ownBlock->w'.ownsRow 0 z e.n q (X xs+X ys) (cs++m)->
   (∀S:K->Prop,yT S ms w->zE S Γ w->yP e S ys m w)->∀S:K->Prop,(∀k,S k->v.ownBlock≠Z k)->yT S ms w->zE S Γ w->(mO e z q<|xs++ys).p S w':=by
   intro w' q m s hd hB S hS hM U;have⟨C,hF,hN⟩:=yT.get hM L;have hO:C=cs:=by
    rcases E.2 with⟨rfl,h0⟩|⟨g,cap,V,rfl,_,hP,_,_,_,hQ⟩
    ·have a1:=E.1;have a2:=hF.1;rw[h0]at a1 a2;have c1:cs=[]:=xbe (by simpa using a1);have c2:C=[]:=xbe (by simpa using a2);rw[c1,c2]
    ·rcases hF.2 with⟨hc,_⟩|⟨g',a0,a3,hR,_,hA,_,_,_,hG⟩
     ·cases hc
     ·cases hR;rw[hP]at hA;cases hA;rw[<-hQ,<-hG]
   subst hO;have kk:yv S w w':=⟨s.os,s.os,s.output,s.size,λk Y hs=>s.block k Y<|λe=>hS k hs e.symm⟩;exact⟨C++m,by rw[xaq];exact hd,(hN.keep kk).append<|(hB S hM U).keep kk⟩
  have A:ys=[]->(ao=wF->u=.slice wF 0 cap)->∃q w',(xbQ #[t,t] ty #[v,u]).run P w=.ok q w'/\w.grownBy w' v.ownBlock/\(∀k,q.ownBlock=Z k->v.ownBlock=Z k\/w.heap.size<=k)/\
   ∀S:K->Prop,(∀k,S k->v.ownBlock≠Z k)->yT S ms w->zE S Γ w->(mO e z q<|xs++ys).p S w':=by
   intro R hC
   subst R
   cases ao with
   |none=>
    have hT:=hC O
    have B:=f (w:=w) t ty z T e.n D hi v (X xs) cs E cap
    rw[<-hT]at B
    exact⟨v,w,B,⟨O,O,O,IR _,λ_ _ _=>O⟩,λk Y=> .inl Y,λS _ hp _=>by simpa using yT.get hp L⟩
   |some a=>
    have⟨q,w',B,hd,s,hl⟩:=gh w t ty z T zero e.n bytes D hi i3 i1 i2 hD hn v (X xs) cs E a 0 cap [] iP iP iP (by simpa using hz)<|by simpa using hb
    exact⟨q,w',by rw[M];exact B,s,hl,G w' q [] s (by simpa using hd)<|λ_ _ _=>O⟩
  obtain R|⟨b,o,m,rfl,ha,H⟩:=h3
  ·exact A R<|λh=>by rw[M,h,R];rfl
  ·have⟨q,w',B,hd,s,hl⟩:=gh w t ty z T zero e.n bytes D hi i3 i1 i2 hD hn v (X xs) cs E ⟨b,o,wF⟩ (X ys) cap m H.len
    (λj c hc=>by rw[jq];exact ha.2 j c hc) H.one hz hb
   refine⟨q,w',by rw[M];exact B,s,hl,G w' q m s hd λS2 hU hV=> ?_⟩;have⟨a5,a4,hH,_,_,hW⟩:=hf S2 w hU hV;rw[M]at hH;cases hH;obtain rfl|⟨b2,o2,r,hX,hY,hv⟩:=hW
   ·have:=H.len;rw[xbR,xcx]at this;rw[xbe this];rfl
   ·cases hX;have:r=m:=by
     apply xcy;intro j;by_cases J:j<X m
     ·have e1:=ha.2 j m[j] (by simp[J]);have hI:j<X r:=by rw[hv.len,<-H.len];exact J
      have e2:=hY.2 j r[j] (by simp[hI]);rw[e1]at e2;rw[xak J,xak hI,e2]
     ·have h5:X r=X m:=by rw[hv.len,<-H.len]
      rw[xbP (l:=m) W,xbP (l:=r) W]
    rw[<-this];exact hv
 have⟨q,w',B,s,hl,hp⟩:=F;exact ur.of_value (hL q w' B) ⟨q,O,wR,hE.growM L ⟨s.os,s.os,s.output,s.size,λj J hs=>s.block j J<|λe=>hs e.symm⟩ hl hp⟩
 where
 f {w:wP} (t ty e:wT) (i:cS) (size:K) (D:P.underlying t=Z (.slice e)) (hi:P.info? e=Z i)
  (v:wN) (n:K) (xs:xS wN) (hJ:w.ownsRow 0 e size v n xs) (c:K):
  (xbQ #[t,t] ty #[v,.slice wF 0 c]).run P w=.ok v w:=by
  rcases hJ.2 with⟨rfl,rfl⟩|⟨g,cap,V,rfl,_,_,hZ,_⟩
  ·simp[xbQ,kw D,WR,WP,hi,xfc,xeD]
  ·simp[xbQ,kw D,WR,WP,hi,xfc,xeD,hZ,storeCells]
def zaQ{α:Type}{e:zV α}{b:wT}{xs ys:xS α}{v u:wN}{bytes:K}{a:wN}(i:K)(f:yV ops env ⟨d,.call ⟨.builtin .append,#[x,y],#[t,t]⟩,ty,pos,aft,g⟩=I)(hd:jL N.n d=I)
 (h:P.underlying t=Z (.slice b)) (j:Ja P b e.agg e.n bytes a) (hc:a.cells.size=e.n) (hn:0<e.n)
 (l:ms[i]? =Z (mO e b v xs)) (m:ev env x=v) (o:ev env y=u) (p:∀(S:K->Prop) (w:wP),yT S ms w->zE S Γ w->SlQ e S ys u w)
 (q:X xs+X ys<=9223372036854775807) (r:(X xs+X ys)*bytes<=140737488355328)
 (k:∀c,TL P N we Se (ms.set i<|mO e b c<|xs++ys) Γ ops rest Q<|put env d c):TL P N we Se ms Γ ops (⟨d,.call ⟨.builtin .append,#[x,y],#[t,t]⟩,ty,pos,aft,g⟩::rest) Q env:=
 zlo f hd (aO i h j hc hn l m o p q r) λc _=>k c
def zc2{α:Type}{e:zV α}{b:wT}{xs ys:xS α}{v u:wN}{bytes:K}{a:wN}(i:K)(f:yV ops env ⟨d,.call ⟨.builtin .append,#[x,y],#[t,t]⟩,ty,pos,aft,g⟩=I)(hd:jL N.n d=I)
 (j:P.underlying t=Z (.slice b)) (l:Ja P b e.agg e.n bytes a) (hc:a.cells.size=e.n) (hn:0<e.n)
 (m:ms[i]? =Z (mO e b v xs)) (o:ev env x=v) (q:ev env y=u) (r:∀(S:K->Prop) (w:wP),zE S Γ w->(fV (eS e) ys u).p S w)
 (s:X xs+X ys<=9223372036854775807) (z:(X xs+X ys)*bytes<=140737488355328)
 (k:∀c,TL P N we Se (ms.set i<|mO e b c<|xs++ys) Γ ops rest Q<|put env d c):TL P N we Se ms Γ ops (⟨d,.call ⟨.builtin .append,#[x,y],#[t,t]⟩,ty,pos,aft,g⟩::rest) Q env:=
 zaQ i f hd j l hc hn m o q (λS w _ h=>SlQ.of<|r S w h) s z k
def zl3{α:Type}{e:zV α}{E b:K}{z:α}{w:wP}(i:K)(h:St we Se ms Γ w)(a:ms[i]? =Z (mB e.c E b z)):
 St we Se (ms.eraseIdx i) (fP e z (.pointer<|some ⟨b,0,wF⟩)::Γ) w:=
 h.freeze a λS k f j hp=>zm8 f (j b O) hp
def Nh{α:Type}{e:zV α}{E:K}{v:wN}{xs:xS α}{w:wP}(i:K)(h:St we Se ms Γ w)(a:ms[i]? =Z (mO e E v xs)):
 St we Se (ms.eraseIdx i) (fV (eS e) xs v::Γ) w:=
 h.freeze a λS f b c hp=>rI b c hp
def zjQ{α:Type}{e:zV α}{E b:K}{xs:xS α}{n:K}{w:wP}(i:K)(h:St we Se ms Γ w)(c:ms[i]? =Z (mR e E b xs))(hn:n=X xs)(j:X xs<=9223372036854775807):
 St we Se (ms.set i<|mO e E (.slice (Z ⟨b,0,wF⟩) n n) xs) Γ w:=
 h.conv c O λS ⟨cs,f,a⟩=>by
  subst hn;have hl:cs.size=X xs*e.n:=by have:=yP.len a;simpa using this
  refine⟨cs.toList,⟨by simpa using hl,.inr ⟨b,X xs,cs,O,xac _,f,IR _,by unfold Ww;lia,hl,?_⟩⟩,a⟩;rw[xaW<|by simp[hl]]
end
end
section
def YG{a b:K}(h:a≠b):F a b=wL:=by grind [xdt]
def Fm{a b:K}(h:b<=a):xcX a b=wL:=by
 cases c:xcX a b
 ·rfl
 ·have:=xca c;omega
structure Pr where
 p:(K->Prop)->wN->wP->Prop
 keepS:∀{S:K->Prop}{v:wN}{w w':wP},p S v w->yv S w w'->p S v w'
 sub:∀{S S':K->Prop}{v:wN}{w:wP},p S v w->(∀k,k<w.heap.size->S k->S' k)->p S' v w
def Pr.keep(a:Pr){S:K->Prop}{v:wN}{w w':wP}(h:a.p S v w)(x:J4 w w'):a.p S v w':=a.keepS h x.to
def prV(v:wN):Pr where
 p _ u _:=u=v
 keepS h _:=h
 sub h _:=h
def iQ(d:V Z4)(a:Pr)(K:N (Z4×Pr)):N (Z4×Pr):=match d with
 |some d=>(d,a)::K
 |none=>K
def Y4(K:N (Z4×Pr))(env0 env:y4)(S:wr->Prop)(w:wP)(t:Z4):Prop:=match K.find? (λx=>F x.1 t)with
 |some x=>x.2.p S (env t) w
 |none=>env t=env0 t
def Vk(K:N (Z4×Pr))(env0 env:y4)(S:wr->Prop)(w:wP):N Z4->Prop
 |[]=>Z5
 |t::ts=>Y4 K env0 env S w t/\Vk K env0 env S w ts
def Ob(P:jP)(a:ul ut)(ms:N MF)(Γ:N FF)(env0:y4)(K:N (Z4×Pr))(o:ut)(b:Pr):Prop:=
 ∀(S:wr->Prop) (w:wP) (env:y4),Tl w S->yT S ms w->zE S Γ w->Vk K env0 env S w (o.looksAt a)->
  (yV a env o=I->ur P o env w (λv w'=>J4 w w'/\b.p S v w'))/\(yV a env o=wL->b.p S uL w)
def Obs(P:jP)(a:ul ut)(ms:N MF)(Γ:N FF)(env0:y4):N (ut×Pr)->N (Z4×Pr)->Prop
 |[],_=>Z5
 |(o,b)::r,K=>Ob P a ms Γ env0 K o b/\Obs P a ms Γ env0 r (iQ o.dst b K)
def SJ:N (ut×Pr)->N (Z4×Pr)->N (Z4×Pr)
 |[],K=>K
 |(o,a)::r,K=>SJ r<|iQ o.dst a K
def QF(o:ut)(i:K):v6:=o.after.toList.any λe=>xcs .any e && F e.on i
def zW(l:N ut)(i:K):ut:=l.getD i default
def za7(l:N ut)(m:K):v6:=xfQ m (X l) && (xaY (X l)).all λj=>
 ((zW l j).after.toList.all λe=> !xcs .any e||xcX e.on j) &&
 (bif xcX j m then(xaY m).all λi=>F i j||(match(zW l i).dst with
  |some t=> !((xbm l.toArray<|zW l j).contains t||(zW l j).dst==Z t)||(bif xcX i j then QF (zW l j) i else QF (zW l i) j)
  |none=>I)
  else(xaY j).all λk=>QF (zW l j) k)
def vS(l:N ut):K->K->K->v6
 |0,i,k=>QF (zW l i) k
 |f+1,i,k=>QF (zW l i) k||(zW l i).after.toList.any λe=>xcs .any e && vS l f e.on k
def W0(l:N ut)(m:K):v6:=xfQ m (X l) && (xaY (X l)).all λj=>
 ((zW l j).after.toList.all λe=> !xcs .any e||xcX e.on j) &&
 (bif xcX j m then(xaY m).all λi=>F i j||(match(zW l i).dst with
  |some t=> !((xbm l.toArray<|zW l j).contains t||(zW l j).dst==Z t)||(bif xcX i j then QF (zW l j) i else QF (zW l i) j)
  |none=>I)
  else bif F j m then(xaY m).all λk=>vS l 16 m k else QF (zW l j) (j-1))
section
variable{l:xS ut}{m:wr}
def uK{o:ut}{i:K}(h:QF o i=I):∃e∈o.after,xcs .any e=I/\e.on=i:=by
 unfold QF at h;rw[xfE]at h;simp_all
def TQ(h:za7 l m=I):m<=X l/\
 (∀j,j<X l->∀e∈(zW l j).after,xcs .any e=I->e.on<j)/\
 (∀j i t,j<m->i<m->i≠j->(zW l i).dst=Z t->(t∈xbm l.toArray (zW l j)\/(zW l j).dst=Z t)->(i<j->QF (zW l j) i=I)/\(j<i->QF (zW l i) j=I))/\
 (∀j,m<=j->j<X l->∀k,k<j->QF (zW l j) k=I):=by
 unfold za7 at h;rw[xab,xaQ]at h;have⟨h0,h1⟩:=h;have d:=xca h0;refine⟨d,λj a e f g=> ?_,λj i t a hi hc n hl=> ?_,λj hd a k o=> ?_⟩
 ·have:=h1 j<|xbd.2 a;rw[xab,xaQ]at this;have:=this.1 e<|xdH.2 f;rw[g]at this;simpa using this
 ·have:=h1 j (xbd.2 ii);rw[xab]at this;have b:=this.2;rw[show xcX j m=I by simpa using a,Wd,xaQ]at b;have c:=b i<|xbd.2 hi;rw[YG hc,xew,n]at c;have p:((xbm l.toArray<|zW l j).contains t||(zW l j).dst==Z t)=I:=by
   rw[xdR];obtain hl|hl:=hl
   ·left;simpa using hl
   ·right;simp[hl]
  simp only[p,xeL,xew]at c;constructor
  ·intro q;rwa[show xcX i j=I by simpa using q,Wd]at c
  ·intro r;rwa[Fm ii,XS]at c
 ·have:=h1 j<|xbd.2 a;rw[xab]at this;have b:=this.2;rw[Fm hd,XS,xaQ]at b;exact b k<|xbd.2 o
def Zf(h:W0 l m=I):m<=X l/\
 (∀j,j<X l->∀e∈(zW l j).after,xcs .any e=I->e.on<j)/\
 (∀j i t,j<m->i<m->i≠j->(zW l i).dst=Z t->(t∈xbm l.toArray (zW l j)\/(zW l j).dst=Z t)->(i<j->QF (zW l j) i=I)/\(j<i->QF (zW l i) j=I))/\
 (∀j,m<j->j<X l->QF (zW l j) (j-1)=I)/\(m<X l->∀k,k<m->vS l 16 m k=I):=by
 unfold W0 at h;rw[xab,xaQ]at h;have⟨h0,h1⟩:=h;have d:=xca h0;refine⟨d,λj b e f g=> ?_,λj i t b hi hc n hl=> ?_,λj r b=> ?_,λo k p=> ?_⟩
 ·have:=h1 j<|xbd.2 b;rw[xab,xaQ]at this;have:=this.1 e<|xdH.2 f;rw[g]at this;simpa using this
 ·have:=h1 j (xbd.2 ii);rw[xab]at this;have a:=this.2;rw[show xcX j m=I by simpa using b,Wd,xaQ]at a;have c:=a i<|xbd.2 hi;rw[YG hc,xew,n]at c;have q:((xbm l.toArray<|zW l j).contains t||(zW l j).dst==Z t)=I:=by
   rw[xdR];obtain hl|hl:=hl
   ·left;simpa using hl
   ·right;simp[hl]
  simp only[q,xeL,xew]at c;constructor
  ·intro hd;rwa[show xcX i j=I by simpa using hd,Wd]at c
  ·intro s;rwa[Fm ii,XS]at c
 ·have:=h1 j<|xbd.2 b;rw[xab]at this;have a:=this.2;rw[Fm ii,XS,YG ii,XS]at a;exact a
 ·have:=h1 m<|xbd.2 o;rw[xab]at this;have a:=this.2;rw[Fm<|IR m,XS,Nat.beq_refl,Wd,xaQ]at a;exact a k<|xbd.2 p
theorem a6{a:ul v6}(d:∀i,i<X l->a.getD i wL=I->∀e∈(zW l i).after,xcs .any e=I->a.getD e.on wL=I)
 (h1:∀j,j<X l->∀e∈(zW l j).after,xcs .any e=I->e.on<j):∀(f i k:K),i<X l->(∀e∈(zW l i).after,xcs .any e=I->a.getD e.on wL=I)->vS l f i k=I->a.getD k wL=I
 |0,i,k,hi,hd,h=>by
  have⟨e,c,g,n⟩:=uK h;grind
 |f+1,i,k,hi,hd,h=>by
  unfold vS at h;rw[xdR]at h;obtain h|h:=h
  ·have⟨e,c,g,n⟩:=uK h;grind
  ·rw[xfE]at h;have⟨e,c,b⟩:=h;rw[xab]at b;have hc:=xdH.1 c;have o:=h1 i hi e hc b.1;exact a6 d h1 f e.on k ii (d e.on ii<|hd e hc b.1) b.2
def Yt{i:K}(h:i<X l):l.toArray[i]? =Z (zW l i):=by
 simp[zW,h]
end
def cvt{α:Type}{e:zV α}{x y:α}{v:wN}{S:K->Prop}{w:wP}(h:x=y)(hp:(fV e x v).p S w):(fV e y v).p S w:=h▸hp
def zfl{α:Type}{e:zV α}{S:K->Prop}{w:wP}:(fV (eS e) [] (.slice wF 0 0)).p S w:=xC.2 SlP.nil
def getD_some{α:Type}{l:N α}{k:K}(z:α)(h:k<X l):l[k]? =Z (l.getD k z):=by grind
def znV{α:Type}{e:zV α}{xs:N α}{v:wN}{S:K->Prop}{w:wP}(h:(fV (eS e) xs v).p S w):X xs<=9223372036854775807:=by
 have⟨b,cap,hv,hc,a,_⟩:=xC.1 h;exact xae hc a
def yP.all_u{S:K->Prop}{w:wP}:∀{xs:N K}{cs:N wN},yP eU S xs cs w->∀x∈xs,x<18446744073709551616
 |[],_,_=>λx hx=>wS hx H1
 |y::ys,_,⟨c,r,_,hc,a⟩=>λx hx=>by
  obtain rfl|hx:=xag.1 hx
  ·exact hc.2
  ·exact yP.all_u a x hx
def zm(l:N K):Prop:=∀x∈l,x<18446744073709551616
def zfk{xs:N K}{v:wN}{S:K->Prop}{w:wP}(h:(fV (eS eU) xs v).p S w):zm xs:=by
 have⟨e,cap,hv,hc,f,a⟩:=xC.1 h;obtain rfl|⟨b,o,cs,_,_,_,c⟩:=a
 ·exact λx d=>wS d H1
 ·exact c.all_u
def pA(t:Z4):∀(r:N (ut×Pr)) (K:N (Z4×Pr)),
 (∃(i:wr) (x:ut×Pr),r[i]? =Z x/\x.1.dst=Z t/\(∀(a:wr) (b:ut×Pr),r[a]? =Z b->b.1.dst=Z t->a<=i)/\(SJ r K).find? (λy=>F y.1 t)=Z (t,x.2))\/
 ((∀(i:wr) (x:ut×Pr),r[i]? =Z x->x.1.dst≠Z t)/\(SJ r K).find? (λy=>F y.1 t)=K.find? (λy=>F y.1 t))
 |[],K=> .inr ⟨λi x h=>by simp at h,O⟩
 |(o,c)::r,K=>by
  rcases pA t r (iQ o.dst c K)with⟨i,x,h1,f,j,k⟩|⟨h1,f⟩
  ·refine .inl ⟨i+1,x,by simpa using h1,f,λa b g hd=> ?_,k⟩
   cases a with
   |zero=>omega
   |succ a=>have:=j a b (by simpa using g) hd;omega
  ·by_cases hd:o.dst=Z t
   ·refine .inl ⟨0,(o,c),O,hd,λa b g hc=> ?_,?_⟩
    ·grind
    ·show(SJ r<|iQ o.dst c K).find? _=_;rw[f,hd];simp[iQ]
   ·refine .inr ⟨λi x m=> ?_,?_⟩
    ·grind
    ·show(SJ r<|iQ o.dst c K).find? _=_;rw[f]
     cases l:o.dst with
     |none=>rfl
     |some d=>
      have:F d t=wL:=YG λe=>hd (by rw[l,e]);simp[iQ,this]
def zbz{P:jP}{a:ul ut}{ms:N MF}{Γ:N FF}{env0:y4}:∀(r:N (ut×Pr)) (K:N (Z4×Pr)) (i:wr) (x:ut×Pr),Obs P a ms Γ env0 r K->r[i]? =Z x->Ob P a ms Γ env0 (SJ (r.take i) K) x.1 x.2
 |[],_,_,_,_,h=>by simp at h
 |(o,c)::r,K,0,x,h,b=>by simp at b;subst b;exact h.1
 |(o,c)::r,K,i+1,x,h,b=>by
  have:=zbz r (iQ o.dst c K) i x h.2 (by simpa using b);simpa[SJ]using this
def UK{K:N (Z4×Pr)}{env0 env:y4}{S:wr->Prop}{w:wP}:∀(ts:N Z4),(∀t∈ts,Y4 K env0 env S w t)->Vk K env0 env S w ts
 |[],_=>trivial
 |t::ts,h=>⟨h t<|FS,UK ts λu a=>h u<|UV _ a⟩
def sL{a:ul v6}{i:K}(hi:i<a.size)(b:a.getD i I=wL):∀(r:N K),
 (r.countP λk=> !(a.setIfInBounds i I).getD k I)<=(r.countP λk=> !a.getD k I)/\
 (i∈r->(r.countP λk=> !(a.setIfInBounds i I).getD k I)<(r.countP λk=> !a.getD k I))
 |[]=>⟨IR _,λh=>by cases h⟩
 |k::r=>by
  have d:=sL hi b r;rw[List.countP_cons,List.countP_cons];by_cases c:i=k
  ·subst c;have e1:(a.setIfInBounds i I).getD i I=I:=by simp[hi]
   grind
  ·simp_all
section
variable{P:jP}{N:Nd}{we:wP}{Se:wr->Prop}{ms:xS MF}{Γ:xS FF}{Q:Qs}{env0:y4}{l:xS ut}{m:wr}
def zpY(hc:za7 l m=I){q:bV->V6->wP->Prop}:∀(c j:K) (b:ul v6) (a:V6) (w:wP),m<=j->j<=X l->X l-j<=c->b.size=X l->
 (∀k,k<X l->b.getD k I=decide (k<j))->WF N.F 0 P l.toArray q (l.drop j) a w->U8 N.F 0 P .any l.toArray q c b a w:=by
 have⟨h0,h1,S,A⟩:=TQ hc;have hd:∀(j:K) (b:ul v6),m<=j->j<=X l->b.size=X l->(∀k,k<X l->b.getD k I=decide (k<j))->∀i,i∈xdZ .any l.toArray b->i=j:=by
  intro j b hn hp p d i hi;have⟨s,o,n,B⟩:=mem_ready.1 hi;have t:i<X l:=by simpa using(xbh.1 n).1
  rw[d i t]at s;have T:j<=i:=by simpa using s
  rw[Yt t]at n;cases n;obtain g|hge:=xbS j i
  ·have⟨e,u,v,C⟩:=uK<|A i ii t j g;have hl:=B e u v;rw[C]at hl;have x:=d j ii;have D:j<b.size:=ii
   simp only[xbG,xdq D,xeA]at hl x;rw[hl]at x;simp at x
  ·omega
 intro c
 induction c with
 |zero=>
  intro j b a w hn hp E p d f;have:j=X l:=ii
  subst this;refine⟨?_,by simpa[WF]using f⟩
  cases G:xdZ .any l.toArray b with
  |nil=>rfl
  |cons i r=>
   have hi:i∈xdZ .any l.toArray b:=by rw[G];exact FS
   have H:=hd _ b hn hp p d i hi;have⟨s,o,n,_⟩:=mem_ready.1 hi;have:=(xbh.1 n).1;simp at this;omega
 |succ c J=>
  intro j b a w hn hp E p d f;rcases xbS j (X l) with g|hge
  ·have hv:j∈xdZ .any l.toArray b:=by
    refine mem_ready.2 ⟨by rw[d j g];simp,zW l j,Yt g,λe u v=> ?_⟩;have:=h1 j g e u v;have hl:=d e.on ii;have L:e.on<b.size:=ii
    simp only[xbG,xdq L,xeA]at hl⊢;rw[hl];simpa using this
   refine⟨λh=>(by rw[h]at hv;cases hv),λi hi=> ?_⟩;have:=hd j b hn hp p d i hi;subst this;rw[xcb g]at f;have M:l[i]=zW l i:=by simp[zW,g]
   unfold WF at f;unfold wpOpIn;rw[Yt g];simp only[<-M];have next:∀a w,WF N.F 0 P l.toArray q (l.drop<|i+1) a w->U8 N.F 0 P .any l.toArray q c (b.setIfInBounds i true) a w:=λa w h=>
    J (i+1) _ a w ii ii ii (by simpa using p) (λk R=>by
     by_cases z:i=k
     ·subst z;have:i<b.size:=ii
      simp[this]
     ·rw[V1 I z,d k R];simp only[aP];omega) h
   split
   ·rename_i y;rw[iq y]at f;exact Oper.wpIn_mono next f
   ·rename_i y;rw[ir y]at f;exact⟨f.1,next _ _ f.2⟩
  ·have:j=X l:=ii
   subst this;refine⟨λ_=>by simpa[WF]using f,λi hi=> ?_⟩;have H:=hd _ b hn hp p d i hi;have⟨s,o,n,_⟩:=mem_ready.1 hi;have:=(xbh.1 n).1;simp at this;omega
def iE(hc:W0 l m=I){q:bV->V6->wP->Prop}:∀(c j:K) (b:ul v6) (a:V6) (w:wP),m<=j->j<=X l->X l-j<=c->b.size=X l->
 (∀k,k<X l->b.getD k I=decide (k<j))->WF N.F 0 P l.toArray q (l.drop j) a w->U8 N.F 0 P .any l.toArray q c b a w:=by
 have⟨h0,h1,S,A,_⟩:=Zf hc;have hd:∀(j:K) (b:ul v6),m<=j->j<=X l->b.size=X l->(∀k,k<X l->b.getD k I=decide (k<j))->∀i,i∈xdZ .any l.toArray b->i=j:=by
  intro j b hn hp p d i hi;have⟨s,o,g,B⟩:=mem_ready.1 hi;have t:i<X l:=by simpa using(xbh.1 g).1
  rw[d i t]at s;have T:j<=i:=by simpa using s
  rw[Yt t]at g;cases g;obtain n|hge:=xbS j i
  ·have⟨e,u,v,C⟩:=uK<|A i ii t;have hl:=B e u v;rw[C]at hl;have x:=d (i-1) ii;have D:i-1<b.size:=ii
   simp only[xbG,xdq D,xeA]at hl x;rw[hl]at x;simp at x;omega
  ·omega
 intro c
 induction c with
 |zero=>
  intro j b a w hn hp E p d f;have:j=X l:=ii
  subst this;refine⟨?_,by simpa[WF]using f⟩
  cases G:xdZ .any l.toArray b with
  |nil=>rfl
  |cons i r=>
   have hi:i∈xdZ .any l.toArray b:=by rw[G];exact FS
   have H:=hd _ b hn hp p d i hi;have⟨s,o,g,_⟩:=mem_ready.1 hi;have:=(xbh.1 g).1;simp at this;omega
 |succ c J=>
  intro j b a w hn hp E p d f;rcases xbS j (X l) with n|hge
  ·have hv:j∈xdZ .any l.toArray b:=by
    refine mem_ready.2 ⟨by rw[d j n];simp,zW l j,Yt n,λe u v=> ?_⟩;have:=h1 j n e u v;have hl:=d e.on ii;have L:e.on<b.size:=ii
    simp only[xbG,xdq L,xeA]at hl⊢;rw[hl];simpa using this
   refine⟨λh=>(by rw[h]at hv;cases hv),λi hi=> ?_⟩;have:=hd j b hn hp p d i hi;subst this;rw[xcb n]at f;have M:l[i]=zW l i:=by simp[zW,n]
   unfold WF at f;unfold wpOpIn;rw[Yt n];simp only[<-M];have next:∀a w,WF N.F 0 P l.toArray q (l.drop<|i+1) a w->U8 N.F 0 P .any l.toArray q c (b.setIfInBounds i true) a w:=λa w h=>
    J (i+1) _ a w ii ii ii (by simpa using p) (λk R=>by
     by_cases z:i=k
     ·subst z;have:i<b.size:=ii
      simp[this]
     ·rw[V1 I z,d k R];simp only[aP];omega) h
   split
   ·rename_i y;rw[iq y]at f;exact Oper.wpIn_mono next f
   ·rename_i y;rw[ir y]at f;exact⟨f.1,next _ _ f.2⟩
  ·have:j=X l:=ii
   subst this;refine⟨λ_=>by simpa[WF]using f,λi hi=> ?_⟩;have H:=hd _ b hn hp p d i hi;have⟨s,o,g,_⟩:=mem_ready.1 hi;have:=(xbh.1 g).1;simp at this;omega
def zbl{id:K}(m:K)(d:xS Pr)(ts:xS Z4)(hm:P.follows .mixedOrders=I)(hc:W0 l m=I)(hl:X d=m)(hd:(l.all λo=>jL N.n o.dst)=I)
 (hX:Obs P l.toArray ms Γ env0 ((l.take m).zip d) [])
 (a3:∀(S:K->Prop) (w:wP) (env:y4),Tl w S->zE S Γ w->Vk (SJ ((l.take m).zip d) []) env0 env S w ts->
  ∃s live,zE S s w/\KC env live/\∀rest,TL P N we Se ms s l.toArray (l.drop m) Q<|L live rest):
 T P N we Se ms Γ (.region id l.toArray I) Q env0:=by
 intro w0 b3 a0 b4 c0 c1;have⟨h0,h1,h2,h3,c2⟩:=Zf hc;have⟨s1,s2,s3,S,s4,s5,s6,s7,s8⟩:=b3;have mk:∀w' Δ,J4 w0 w'->zE S Δ w'->St we Se ms Δ w':=λw' Δ x c3=>
  ⟨s1.trans x,s2,s3,S,s4,λk f=>s5 k<|xae x.size f,s6,yT.keep x.to (λm hm i hi=>x.block i (yT.lt s7 m hm i hi) wR) s7,c3⟩
 have e2:X ((l.take m).zip d)=m:=by simp;omega
 have hC:∀i,i<m->∃u,((l.take m).zip d)[i]? =Z (zW l i,u):=λi hi=>by
  have hn:i<X l:=ii
  refine⟨d[i]'ii,?_⟩;rw[xeO];refine⟨?_,iP⟩;rw[xce,iq hi];simp[zW,hn]
 have hp:∀i x,((l.take m).zip d)[i]? =Z x->i<m/\x.1=zW l i:=λi x hx=>by
  have hi:i<m:=by have:=(xax.1 hx).1;omega
  have⟨u,h⟩:=hC i hi;rw[h]at hx;cases hx;exact⟨hi,O⟩
 refine wpIn_region_any hm ?_
 have c4:∀(g:K) (b:ul v6) (a:V6) (w:wP),(xaY (X l)).countP (λk=> !b.getD k I)<=g->b.size=X l->a.tmps.size=N.n->a.defers=N.ds->J4 w0 w->
  (∀i,m<=i->i<X l->b.getD i I=wL)->
  (∀i,i<X l->b.getD i wL=I->∀e∈(zW l i).after,xcs .any e=I->b.getD e.on wL=I)->
  (∀t,((∀i,i<m->b.getD i wL=I->(zW l i).dst≠Z t)/\yR a t=env0 t)\/
   ∃i u,i<m/\b.getD i wL=I/\((l.take m).zip d)[i]? =Z (zW l i,u)/\(zW l i).dst=Z t/\(∀M,M<m->b.getD M wL=I->(zW l M).dst=Z t->M<=i)/\u.p S (yR a t) w)->
  U8 N.F 0 P .any l.toArray (zdD N Q) g b a w:=by
  intro g
  induction g with
  |zero=>
   intro b a w hM hL b1 b2 x hq hw R;have H:∀k,k<X l->b.getD k I=I:=λk f=>by
    have hz:(xaY (X l)).countP (λk=> !b.getD k I)=0:=ii
    rw[List.countP_eq_zero]at hz;have:=hz k<|xbd.2 f;simpa using this
   have e3:m=X l:=by
    rcases xbS m (X l) with U|hge
    ·have h5:=hq m (IR _) U;rw[H m U]at h5;cases h5
    ·omega
   have hI:=zE.keep x.to s8;have⟨s,live,f1,f2,f3⟩:=a3 S w (yR a) (s2.at (s1.trans x) λk f=>s5 k<|xae x.size f) hI (UK ts λt _=>hJ hC hp R (λi hi=>by
    have B:=H i ii;rwa[c (by omega:i<b.size)]at B))
   refine iE hc 0 m b a w (IR _) h0 ii hL (λk f=>by rw[H k f];simp;omega) ?_;exact f3 (yR a) w (mk w s x f1) a b1 b2 (a8 f2).symm
  |succ g ih=>
   intro b a w hM hL b1 b2 x hq hw R;by_cases H:∀k,k<m->b.getD k I=I
   ·have hI:=zE.keep x.to s8;have⟨s,live,f1,f2,f3⟩:=a3 S w (yR a) (s2.at (s1.trans x) λk f=>s5 k<|xae x.size f) hI (UK ts λt _=>hJ hC hp R (λi hi=>by
     have B:=H i hi;rwa[c (by omega:i<b.size)]at B))
    have hY:∀k,k<X l->b.getD k I=decide (k<m):=λk f=>by
     by_cases hQ:k<m
     ·rw[H k hQ];simp[hQ]
     ·rw[hq k ii f];simp[hQ]
    refine iE hc (g+1) m b a w (IR _) h0 (xae ?_ hM) hL hY ?_
    ·rw[show(xaY (X l)).countP (λk=> !b.getD k I)=(xaY (X l)).countP (λk=> !decide (k<m))from List.countP_congr λk f=>by rw[hY k<|xbd.1 f]];exact count_ge m (X l)
    ·exact f3 (yR a) w (mk w s x f1) a b1 b2 (a8 f2).symm
   ·have hZ:∃k,k<m/\b.getD k I=wL:=by
     by_cases hh:∃k,k<m/\b.getD k I=wL
     ·exact hh
     ·exact wS (λk f=>by
       cases r:b.getD k I
       ·exact wS ⟨k,f,r⟩ hh
       ·rfl) H
    refine⟨λhr=> ?_,λi hi=> ?_⟩
    ·exfalso;have⟨k,f,hR,h4⟩:=first_un hZ;have:k∈xdZ .any l.toArray b:=mem_ready.2 ⟨hR,zW l k,Yt ii,λe J r=>by
      have h5:=h1 k ii e J r;have B:=h4 e.on h5;rwa[c (by omega:e.on<b.size)]at B⟩
     rw[hr]at this;cases this
    ·have⟨hu,o,ho,hA⟩:=mem_ready.1 hi;have hn:i<X l:=by simpa using(xbh.1 ho).1
     rw[Yt hn]at ho;cases ho;have hS:i<m:=by
      obtain h|h:=xbS i m
      ·exact h
      ·exfalso;by_cases h9:m=i
       ·subst h9;have⟨k,f,hR⟩:=hZ;have B:=a6 hw h1 16 m k hn hA<|c2 hn k f;rw[<-c (by omega:k<b.size),hR]at B;cases B
       ·have⟨e,J,r,hK⟩:=uK<|h3 i ii hn;have B:=hA e J r;rw[hK,<-c (by omega:i-1<b.size),hq (i-1) ii ii]at B;cases B
     have⟨u,a4⟩:=hC i hS;have c5:=zbz _ [] i _ hX a4;have hB:∀t,(t∈xbm l.toArray (zW l i)\/(zW l i).dst=Z t)->∀j,j<m->(zW l j).dst=Z t->j≠i->(b.getD j wL=I↔j<i):=by
      intro t ht j C hF hT;have h7:=h2 i j t hS C hT hF ht;constructor
      ·intro z;obtain h|h:=xbS j i
       ·exact h
       ·exfalso;have⟨e,J,r,hK⟩:=uK (h7.2 ii);have h8:=hw j ii z e J r;rw[hK,<-c (by omega:i<b.size),hu]at h8;cases h8
      ·intro D;have⟨e,J,r,hK⟩:=uK<|h7.1 D;have h8:=hA e J r;rwa[hK]at h8
     have h':b.getD i wL=wL:=by rw[<-c (by omega:i<b.size)];exact hu
     have hU:Vk (SJ (((l.take m).zip d).take i) []) env0 (yR a) S w (xbm l.toArray<|zW l i):=by
      refine UK _ λt ht=> ?_;have tk:∀(j:K) (y:ut×Pr),(((l.take m).zip d).take i)[j]? =Z y->j<i/\((l.take m).zip d)[j]? =Z y:=λj y V=>by
       rw[xce]at V;split at V
       ·exact⟨by assumption,V⟩
       ·cases V
      unfold Y4;rcases pA t (((l.take m).zip d).take i) []with⟨j,y,g1,A,g3,g4⟩|⟨g1,A⟩
      ·rw[g4];have⟨D,V⟩:=tk j y g1;have⟨Y,hV⟩:=hp j y V;rw[hV]at A;have z:=(hB t (.inl ht) j Y A ii).2 D;rcases R t with⟨f1,_⟩|⟨k,q,k1,k2,E,G,k5,k6⟩
       ·exact wS A<|f1 j Y z
       ·have hW:k=j:=by
         have a1:=k5 j Y z A;have hG:k<i:=(hB t (.inl ht) k k1 G<|λe=>by subst e;rw[h']at k2;cases k2).1 k2;have a2:=g3 k (zW l k,q) (by rw[xce,iq hG];exact E) G;omega
        subst hW;rw[E]at V;cases V;exact k6
      ·rw[A];simp only[List.find?_nil];rcases R t with⟨_,f2⟩|⟨k,q,k1,k2,E,G,k5,k6⟩
       ·exact f2
       ·exfalso;have hG:k<i:=(hB t (.inl ht) k k1 G<|λe=>by subst e;rw[h']at k2;cases k2).1 k2;exact g1 k (zW l k,q) (by rw[xce,iq hG];exact E) G
     have hI:=zE.keep x.to s8;have hN:=c5 S w (yR a) (s2.at (s1.trans x) λk f=>s5 k<|xae x.size f) (yT.keep x.to (λm hm i hi=>x.block i (yT.lt s7 m hm i hi) wR) s7) hI hU;have c6:jL N.n (zW l i).dst=I:=by
      rw[xaQ]at hd;refine hd _ ?_;have:zW l i=l[i]:=by simp[zW,hn]
      rw[this];exact xcd _
     have next:∀v w',J4 w w'->u.p S v w'->U8 N.F 0 P .any l.toArray (zdD N Q) g (b.setIfInBounds i true) (a.put (zW l i).dst v) w':=by
      intro v w' x' hv;have hO:i<b.size:=ii
      refine ih _ _ w' ?_ (by simpa using hL) (by rw[UU];exact b1) (by rw[X7];exact b2) (x.trans x') (λk c7 f=> ?_) (λk f a5 e J r=> ?_)<|λt=> ?_
      ·have:=(sL hO hu<|xaY (X l)).2<|xbd.2 hn;omega
      ·rw[V1 I ii];exact hq k c7 f
      ·by_cases hG:i=k
       ·subst hG;exact Ut<|hA e J r
       ·rw[V1 wL hG]at a5;exact Ut<|hw k f a5 e J r
      ·rw[Wz<|by rw[b1];exact aa c6];by_cases hH:(zW l i).dst=Z t
       ·right;refine⟨i,u,hS,by simp[hO],a4,hH,λj C z hF=> ?_,?_⟩
        ·by_cases D:i=j
         ·omega
         ·rw[V1 wL D]at z;have:=(hB t (.inr hH) j C hF ii).1 z;omega
        ·rw[hH];simpa[put,L]using hv
       ·have a9:put (yR a) (zW l i).dst v t=yR a t:=by
         cases e0:(zW l i).dst with
         |none=>rfl
         |some dd=>
          have hT:¬t=dd:=λe=>hH (by rw[e0,e]);have:F t dd=wL:=YG hT;simp[put,L,this]
        rw[a9];rcases R t with⟨f1,f2⟩|⟨k,q,k1,k2,E,G,k5,k6⟩
        ·refine .inl ⟨λj C z=> ?_,f2⟩;by_cases D:i=j
         ·subst D;exact hH
         ·rw[V1 wL D]at z;exact f1 j C z
        ·refine .inr ⟨k,q,k1,Ut k2,E,G,λj C z hF=> ?_,q.keep k6 x'⟩;by_cases D:i=j
         ·subst D;exact wS hF hH
         ·rw[V1 wL D]at z;exact k5 j C z hF
     unfold wpOpIn;rw[Yt hn];simp only[Wy];cases hP:yV l.toArray (yR a) (zW l i)
     ·simp only[xar,uS];exact⟨λ_ _=>wR,next undef w (yv.refl _ _) (hN.2 hP)⟩
     ·simp only[uP];exact(hN.1 hP).wp λv w' b0=>next v w' b0.1 b0.2
 refine c4 l.toArray.size _ a0 _ ?_ iP b4 c0 (J4.drawn w0 _) (λi h9 hi=>by simp[hi]) (λi hi U=> ?_)<|λt=> .inl ⟨λi hi U=> ?_,by rw[c1]⟩
 ·exact xae (List.countP_le_length) iP
 ·have:i<(xeE l.toArray.size wL).size:=by simpa using hi
  rw[<-c this]at U;simp[hi]at U
 ·have hn:i<X l:=ii
  have:i<(xeE l.toArray.size wL).size:=by simpa using hn
  rw[<-c this]at U;simp[hn]at U
 where
 c {b:ul v6}{i:K} (h:i<b.size):b.getD i I=b.getD i wL:=by simp[xbG,xdq h]
 first_un {m:K}{b:ul v6} (h:∃k,k<m/\b.getD k I=wL):∃k,k<m/\b.getD k I=wL/\∀j,j<k->b.getD j I=I:=by
  have⟨k,f,hu⟩:=h
  induction k using xdc with
  |_ k ih=>
   by_cases hh:∃j,j<k/\b.getD j I=wL
   ·have⟨j,C,e1⟩:=hh;exact ih j C ii e1
   ·refine⟨k,f,hu,λj C=> ?_⟩;cases r:b.getD j I
    ·exact wS ⟨j,C,r⟩ hh
    ·rfl
 count_ge (m:K):∀n,n-m<=(xaY n).countP (λk=> !decide (k<m))
  |0=>by simp
  |n+1=>by
   have:=count_ge m n;rw[xdv,List.countP_append];by_cases h:n<m
   ·omega
   ·simp[h];omega
 hJ {d:xS Pr}{b:ul v6}{a:V6}{w:wP}{S:K->Prop}{l:xS ut}{m:K}{env0:y4} (hC:∀i,i<m->∃u,((l.take m).zip d)[i]? =Z (zW l i,u)) (hp:∀i x,((l.take m).zip d)[i]? =Z x->i<m/\x.1=zW l i)
  (R:∀t,((∀i,i<m->b.getD i wL=I->(zW l i).dst≠Z t)/\yR a t=env0 t)\/
   ∃i u,i<m/\b.getD i wL=I/\((l.take m).zip d)[i]? =Z (zW l i,u)/\(zW l i).dst=Z t/\(∀M,M<m->b.getD M wL=I->(zW l M).dst=Z t->M<=i)/\u.p S (yR a t) w)
  (H:∀i,i<m->b.getD i wL=I) {t:Z4}:Y4 (SJ ((l.take m).zip d) []) env0 (yR a) S w t:=by
  unfold Y4;rcases pA t ((l.take m).zip d) []with⟨j,y,g1,A,g3,g4⟩|⟨g1,A⟩
  ·rw[g4];have⟨Y,hV⟩:=hp j y g1;rw[hV]at A;rcases R t with⟨f1,_⟩|⟨k,q,k1,k2,E,G,k5,k6⟩
   ·exact wS A<|f1 j Y<|H j Y
   ·have hW:k=j:=by
     have a1:=k5 j Y (H j Y) A;have a2:=g3 k (zW l k,q) E G;omega
    subst hW;rw[E]at g1;cases g1;exact k6
  ·rw[A];simp only[List.find?_nil];rcases R t with⟨_,f2⟩|⟨k,q,k1,k2,E,G,k5,k6⟩
   ·exact f2
   ·exact wS G<|g1 k (zW l k,q) E
end
end
section
def zc6{we:wP}{Se:K->Prop}{ms a:N MF}{Γ b:N FF}{R:wP->Prop}(c:∀w,St we Se ms Γ w->St we Se a b w)(k:∀w,St we Se a b w->R w):∀w,St we Se ms Γ w->R w:=
 λw h=>k w<|c w h
def ziM{a b:K}:xch.wrap ((a:J)+(b:J))=(((a+b)%18446744073709551616:K):J):=by
 rfl
def zja{a b:K}:xch.wrap ((a:J)*(b:J))=(((a*b)%18446744073709551616:K):J):=by
 rfl
def ziV{a b:K}(h:b<=18446744073709551616):xch.wrap ((a:J)-(b:J))=(((a+18446744073709551616-b)%18446744073709551616:K):J):=by
 rw[CG];lia
def znv{a:K}(h:a<18446744073709551616):xch.wrap (0-(a:J))=(((18446744073709551616-a)%18446744073709551616:K):J):=by
 rw[CG];lia
def zdN{a b:K}(h:a<18446744073709551616):xch.wrap ((a:J).tdiv (b:J))=((a/b:K):J):=by
 exact ib<|xaK (xcE _ _) h
def zpE{a b:K}:(a:J).tmod (b:J)=((a%b:K):J):=(Int.ofNat_tmod a b).symm
section
variable{P:jP}{N:Nd}{we:wP}{Se:wr->Prop}{ms:xS MF}{Γ:xS FF}{Q:Qs}{env:y4}{ops:ul ut}{rest:xS ut}
 {d:ww Z4}{ty yt t:wT}{pos:String}{aft:ul Edge}{g:ww (wr×v6)}{x y:wW}
def RI{a n cap:K}{b:V JP}(c:P.underlying t=Z (.slice a))(e:ev env x=.slice b n cap)(w:wP):
 (jp (ev env) ⟨d,.call ⟨.builtin .len,#[x],#[t]⟩,ty,pos,aft,g⟩).run P w=.ok (.value (.int .i64 (n:J))) w:=by
 simp[jp,Wl,WN,KW,e,Builtin.len_,gS,kw c]
def B6{α:Type}{e:zV α}{E c:K}{v:wN}{xs:xS α}(i:K)(f:ms[i]? =Z (mO e E v xs))(a:P.underlying t=Z (.slice c))(b:ev env x=v):
 MJ P ⟨d,.call ⟨.builtin .len,#[x],#[t]⟩,ty,pos,aft,g⟩ env ms Γ (λ_:Z2=> .int .i64 (X xs:J)) (λ_=>[]) (λ_=>X xs<=9223372036854775807):=by
 intro w S _ h _;have⟨cs,h1,l⟩:=yT.get h f;rcases h1.2 with⟨rfl,h0⟩|⟨m,cap,j,rfl,n,o,hc,k,_⟩
 ·refine ur.of_value (RI a b w) ⟨(),by rw[h0],W,yv.refl _ _,wR⟩
 ·exact ur.of_value (RI a b w) ⟨(),O,by unfold Ww at k;lia,yv.refl _ _,wR⟩
end
end
section
def zkK{P:jP}{f:Z3}{fn:QR}{e:ul wN->Sem wN}{args:ul wN}{w:wP}{v:wN}(a:P.funcs[f]? =Z fn)(hn:(fn.name== "runtime.NumGoroutine")=wL)(b:fn.body=wF)
 (h1:(xeF fn).isNone=I) (c:xeS fn=Z e) (d:(e args).run P w=.ok v w):(gT f args).run P w=.ok (.value v) w:=by simp_all [gT]
section
variable{P:jP}{env:y4}{d:ww Z4}{ty:wT}{pos:String}{aft:ul Edge}{g:ww (wr×v6)}
def zlA{f:Z3}{fn:QR}{e:ul wN->Sem wN}{aas:N wW}{ts:ul wT}{args:N wN}{v:wN}(a:P.funcs[f]? =Z fn)(hn:(fn.name== "runtime.NumGoroutine")=wL)(b:fn.body=wF)
 (h1:(xeF fn).isNone=I) (c:xeS fn=Z e) (h:aas.map (ev env)=args) (i:∀w,(e args.toArray).run P w=.ok v w) (w:wP):
 (jp (ev env) ⟨d,.call ⟨.value (.func f),aas.toArray,ts⟩,ty,pos,aft,g⟩).run P w=.ok (.value v) w:=by
 have:=zkK a hn b h1 c<|i w;simp[jp,Wl,ev,xcV,WN,h,this]
def zfy(s:String)(x y c:wN):∃z:String,xbJ s #[x,y,c]=(do
 let c:=(<-cE c).toNat
 if c>1 then unsupported (.noEntry z)
 pure ((<-cE x).toNat,(<-cE y).toNat,c)):=⟨_,O⟩
def HP(s:String){x y c:K}(hc:c<=1)(w:wP):(xbJ s #[.int .u64 (x:J),.int .u64 (y:J),.int .u64 (c:J)]).run P w=.ok (x,y,c) w:=by
 have:¬c>1:=W
 have⟨z,a⟩:=zfy s (.int .u64 x) (.int .u64 y) (.int .u64 c);rw[a];simp only[cE,V4,xay,xaO,xal,xaN,this,uS]
def zec{x y c:K}(hc:c<=1)(w:wP):((do
 let(x,y,c)<-xbJ "Add64" #[.int .u64 (x:J),.int .u64 (y:J),.int .u64 (c:J)]
 pure (xcq ((x+y+c)%xbf)<|(x+y+c)/xbf):Sem wN)).run P w=
  .ok (.tuple #[.int .u64 (((x+y+c)%18446744073709551616:K):J),.int .u64 (((x+y+c)/18446744073709551616:K):J)]) w:=by
 rw[xay,HP _ hc];rfl
def zdV{x y c:K}(hc:c<=1)(w:wP):((do
 let(x,y,b)<-xbJ "Sub64" #[.int .u64 (x:J),.int .u64 (y:J),.int .u64 (c:J)]
 pure (xcq ((x+xbf-y-b)%xbf) (if x<y+b then 1 else 0)):Sem wN)).run P w=
  .ok (.tuple #[.int .u64 (((x+18446744073709551616-y-c)%18446744073709551616:K):J),.int .u64 ((if x<y+c then 1 else 0:K):J)]) w:=by
 rw[xay,HP _ hc];rfl
def zkf{f:Z3}{fn:QR}{a b c:wW}{ts:ul wT}{x y z:K}(e:P.funcs[f]? =Z fn)(hn:(fn.name== "runtime.NumGoroutine")=wL)(h:fn.body=wF)
 (h1:(xeF fn).isNone=I) (i:xeS fn=Z (λargs=>do
  let(x,y,c)<-xbJ "Add64" args
  pure (xcq ((x+y+c)%xbf)<|(x+y+c)/xbf)))
 (j:ev env a=.int .u64 (x:J)) (hc:ev env b=.int .u64 (y:J)) (hd:ev env c=.int .u64 (z:J)) (k:z<=1) (w:wP):
 (jp (ev env) ⟨d,.call ⟨.value (.func f),#[a,b,c],ts⟩,ty,pos,aft,g⟩).run P w=
  .ok (.value (.tuple #[.int .u64 (((x+y+z)%18446744073709551616:K):J),.int .u64 (((x+y+z)/18446744073709551616:K):J)])) w:=
 zlA e hn h h1 i (by simp[j,hc,hd]) (λw=>zec k w) w
def zkN{f:Z3}{fn:QR}{a b c:wW}{ts:ul wT}{x y z:K}(e:P.funcs[f]? =Z fn)(hn:(fn.name== "runtime.NumGoroutine")=wL)(h:fn.body=wF)
 (h1:(xeF fn).isNone=I) (i:xeS fn=Z (λargs=>do
  let(x,y,b)<-xbJ "Sub64" args
  pure (xcq ((x+xbf-y-b)%xbf) (if x<y+b then 1 else 0))))
 (j:ev env a=.int .u64 (x:J)) (hc:ev env b=.int .u64 (y:J)) (hd:ev env c=.int .u64 (z:J)) (k:z<=1) (w:wP):
 (jp (ev env) ⟨d,.call ⟨.value (.func f),#[a,b,c],ts⟩,ty,pos,aft,g⟩).run P w=
  .ok (.value (.tuple #[.int .u64 (((x+18446744073709551616-y-z)%18446744073709551616:K):J),.int .u64 ((if x<y+z then 1 else 0:K):J)])) w:=
 zlA e hn h h1 i (by simp[j,hc,hd]) (λw=>zdV k w) w
end
def zjG(P:jP)(w:wP)(env:y4):WW->wN->Prop
 |.tmp t,v=>env t=v
 |.cell a t,v=>∃b,env a=.pointer (Z b)/\(fN t b).run P w=.ok v w
def fh(P:jP)(w:wP)(env:y4):N WW->N wN->Prop
 |[],[]=>Z5
 |r::rs,v::vs=>zjG P w env r v/\fh P w env rs vs
 |_,_=>V3
def Oh(P:jP)(w:wP)(a:V6):∀(rs:N WW) (vs:N wN),fh P w (yR a) rs vs->(rs.mapM<|CB a.tmps).run P w=Result.ok vs w
 |[],[],_=>by simp
 |r::rs,v::vs,⟨h1,c⟩=>by
  have f:=Oh P w a rs vs c;have h:(CB a.tmps r).run P w=.ok v w:=by
   cases r with
   |tmp t=>simp only[zjG]at h1;simp[CB,<-h1,yR]
   |cell x t=>
    have⟨d,e1,e⟩:=h1;have b:a.tmps.getD x uL=.pointer (Z d):=e1;simp only[CB,b,xay,asAddr,xaO,xal,e]
  simp_all
 |[],_::_,h=>h.elim
 |_::_,[],h=>h.elim
def X3:N wN->wN
 |[v]=>v
 |vs=> .tuple vs.toArray
def VI{P:jP}{fn:QR}{rs:N WW}{vs:N wN}{w:wP}{a:V6}(b:fn.results=rs.toArray)(h:fh P w (yR a) rs vs):(Jp fn a.tmps).run P w=.ok (X3 vs) w:=by
 have e:Jp fn a.tmps=(do let vs<-fn.results.mapM (CB a.tmps);pure (if h:vs.size=1 then vs[0]else .tuple vs)):=by rfl
 rw[e,b,Array.mapM_eq_mapM_toList];have:=Oh P w a rs vs h;simp only[xay,Sem.run_map,this]
 match vs with
 |[]=>simp[X3]
 |[v]=>simp[X3]
 |v::u::r=>simp[X3]
section
variable{P:jP}{we:wP}{Se:wr->Prop}{ms:xS MF}{Γ:xS FF}{env:y4}{U:Type}{val:U->wN}{facts:U->xS FF}{ok:U->Prop}{fn:QR}
def zfV{α:Type}{e:zV α}{E b:K}{z:α}{w:wP}{bytes:K}{d:wN}{R:Prop}{a:Z4}(i:K)(g:St we Se ms Γ w)(h:ms[i]? =Z (mB e.c E b z))(j:env a=.pointer (Z ⟨b,0,wF⟩))
 (l:Ja P E e.agg e.n bytes d) (k:∀v,St we Se ms (fV e z v::Γ) w->zjG P w env (.cell a E) v->R):R:=by
 have⟨h1,m,o,S,p,q,r,f,s⟩:=g;have⟨cs,t,hp⟩:=yT.get f h;have u:=At.row t;exact k (e.val cs.toList) ⟨h1,m,o,S,p,q,r,f,⟨cs.toList,O,hp⟩,s⟩ ⟨_,j,gw l hp u⟩
end
def FnG{U:Type}(P:jP)(f:Z3)(args:ul wN)(ms:N MF)(Γ:N FF)(b:U->wN)(own:U->N MF)(a:U->N FF)(ok:U->Prop):Prop:=
 ∀we Se F G w,St we Se (ms++F) (Γ++G) w->Ul P f args w (λe w'=>∃u,e=.returned (b u)/\ok u/\St we Se (own u++F) (a u++G) w')
section
variable{P:jP}{N:Nd}{we:wP}{Se:wr->Prop}{ms F:xS MF}{Γ G:xS FF}{Q:Qs}{env:y4}{U:Type}{val:U->wN}{own:U->xS MF}{facts:U->xS FF}{ok:U->Prop}{fn:QR}
 {ops:ul ut}{rest:xS ut}{d:ww Z4}{ty:wT}{pos:String}{aft:ul Edge}{g:ww (wr×v6)}
def FnG.plain{f:Z3}{args:ul wN}(h:FnG P f args [] Γ val (λ_=>[]) facts ok):Fn P f args Γ val facts ok:=by
 intro w Se b a;refine(h w Se [] [] w<|St.nil (by simpa using a) b).mono ?_;rintro e w' ⟨u,h1,c,i⟩;have:=i.out (λS w h=>by simpa using h);exact⟨u,h1,c,this.1,this.2⟩
def FnG.frozen{f:Z3}{args:ul wN}{Δ:U->xS FF}(h:FnG P f args [] Γ val own facts ok)
 (b:∀(u:U) (w':wP) (we:wP) (Se:K->Prop),St we Se (own u) (facts u) w'->St we Se [] (Δ u) w'):Fn P f args Γ val Δ ok:=by
 intro w Se c a;refine(h w Se [] [] w<|St.nil (by simpa using a) c).mono ?_;rintro e w' ⟨u,h1,i,j⟩;have:=(b u w' w Se<|by simpa using j).out<|λS w h=>h;exact⟨u,h1,i,this.1,this.2⟩
end
def Rf:∀{ms:N MF}{i:K}{m:MF},QE ms->ms[i]? =Z m->QE (m::ms.eraseIdx i):=by
 intro ms i m h e;refine⟨λk b m' a hc=> ?_,?_⟩
 ·rw[List.mem_eraseIdx_iff_getElem?]at a;have⟨j,c,d⟩:=a;exact fc h e k b j m' c d hc
 ·exact Ku i h
def St.front{we:wP}{Se:K->Prop}{ms:N MF}{Γ:N FF}{w:wP}{m:MF}(i:K)(h:St we Se ms Γ w)(hi:ms[i]? =Z m):St we Se (m::ms.eraseIdx i) Γ w:=by
 have⟨h1,b,c,S,d,e,f,a,g⟩:=h;refine⟨h1,b,Rf c hi,S,d,e,λm' hm'=> ?_,⟨yT.get a hi,be i a⟩,g⟩;obtain rfl|hm':=xag.1 hm'
 ·grind
 ·exact f m'<|xdA hm'
def zg6{m:K}(h:m<=9223372036854775807):xcY.wrap (m:J)=(m:J):=w64 W
def Rr{P:jP}{w:wP}(t s ty e:wT)(i:cS)(z:wN)(size bytes:K){ik:Z9}(h:P.underlying t=Z (.slice e))(l:P.underlying s=Z (.int ik))(hi:P.info? e=Z i)(x:i.zero=Z z)
 (Q:i.size=size) (R:i.bytes=bytes) (E:z.cells.size=size) (S:∀u∈z.cells.toList,u.oneCell'=I) (y:0<size)
 (v:wN) (n:K) (xs:N wN) (f:w.ownsRow 0 e size v n xs) (m:K)
 (F:n+m<=Ww) (hc:(n+m)*bytes<=140737488355328):
 ∃A w',(xbQ #[t,s] ty #[v,.int .i64 (m:J)]).run P w=.ok A w'/\w'.ownsRow 0 e size A (n+m) (xs++(xbk z.cells m).toList)/\w.grownBy w' v.ownBlock/\
  ∀k,A.ownBlock=Z k->v.ownBlock=Z k\/w.heap.size<=k:=by
 subst Q;subst R;have hI:n+m<=9223372036854775807:=by simp only[Ww]at F;lia
 have G:(xbk z.cells m).toList.length=m*i.size:=by simp[UL,E]
 have hd:X (xs++(xbk z.cells m).toList)=(n+m)*i.size:=by rw[xaq,f.1,G,xaX]
 have B:=zg6 (m:=m) W;have hl:¬((m:J)<0):=W
 have T:¬((m:J)*(i.bytes:J)>281474976710656):=by
  have h1:m*i.bytes<=(n+m)*i.bytes:=xan _ W;have:((m*i.bytes:K):J)<=140737488355328:=W
  rw[xde]at this;lia
 have hn:¬(281474976710656<(m:J)*(i.bytes:J)):=T
 have a:∀(old:K),old<n+m->∀(o:V K),
  (w.drew.alloc (.cells (xs.toArray++xbk z.cells m++xbk z.cells (V5 w (n+m) old e-(n+m))) e)).ownsRow 0 e i.size
   (.slice (Z ⟨w.heap.size,0,wF⟩) (n+m)<|V5 w (n+m) old e) (n+m) (xs++(xbk z.cells m).toList)/\
  w.grownBy (w.drew.alloc (.cells (xs.toArray++xbk z.cells m++xbk z.cells (V5 w (n+m) old e-(n+m))) e)) o:=by
  intro old ho o;have U:=ge w (n+m) old e;have C:V5 w (n+m) old e<=Ww:=UT w (n+m) old e F;refine⟨⟨hd,.inr ⟨w.heap.size,_,_,O,xac _,Wt w.drew _,U,C,?_,?_⟩⟩,⟨O,O,O,iP,λk b _=>RowKit.Below.heap_alloc w.drew _ k b⟩⟩
  ·simp only[Array.size_append,xfm,UL,E,f.1,<-xaX];congr 1;lia
  ·simp only[xeT,xao];rw[<-xao,<-hd];exact List.take_left
 rcases f.2 with⟨rfl,rfl⟩|⟨g,cap,c,rfl,Y,H,hO,C,hP,hC⟩
 ·have hx:xs=[]:=xbe (by simpa using f.1);subst hx;by_cases d:m=0
  ·subst d;refine⟨.slice wF 0 0,w,?_,by simpa[xbk]using World.ownsRow_nil w 0 e i.size,⟨O,O,O,IR _,λ_ _ _=>O⟩,λk b=> .inl b⟩;have e0:xcY.wrap 0=0:=iI
   simp[xbQ,kw h,kw l,WR,WP,hi,cE,V4,e0]
  ·have hp:¬(9223372036854775807<(m:J)):=W
   have q:=UP (old:=0) (need:=0+m) (bytes:=i.bytes) W hc;have D:¬(281474976710656<Builtin.nextslicecap m 0*i.bytes):=by simp only[xaJ]at q;lia
   have p:=a 0 W<|xej (.slice wF 0 0);refine⟨_,_,?_,p.1,p.2,λk b=> .inr<|by cases b;exact IR _⟩;simp[xbQ,kw h,kw l,WR,WP,bi,hi,x,cE,V4,B,d,hp,D,hl,hn,Question.forced,run_firstCells_none,aC,V5];intro h0;have:0<m*i.size:=Nat.mul_pos W y;lia
 ·by_cases r:n+m<=cap
  ·have q:n*i.size+(xbk z.cells m).toList.length<=c.size:=by rw[G,hP,<-xaX];exact xan _ r
   have h1:∀u∈(xbk z.cells m).toList,u.oneCell'=I:=by
    intro u L;simp only[xbk,Array.toList_map,xap]at L;obtain⟨j,hj,rfl⟩:=L;have M:j%z.cells.size<z.cells.size:=xaM _ W;rw[getElem!_pos z.cells _ M];exact S _<|xdH.2<|Array.getElem_mem M
   have hv:=am P g (n*i.size) e (xbk z.cells m).toList 0 c w H (by simpa using q) h1;simp only[xbO]at hv
   have hr:(xbQ #[t,s] ty #[.slice (Z ⟨g,0,wF⟩) n cap,.int .i64 (m:J)]).run P w=
    .ok (.slice (Z ⟨g,0,wF⟩) (n+m) cap) (w.setRow g (c.toList.take (n*i.size)++(xbk z.cells m).toList++c.toList.drop (n*i.size+(xbk z.cells m).toList.length)).toArray):=by
    by_cases d:m=0
    ·subst d;have e0:xcY.wrap 0=0:=iI
     have ez:(xbk z.cells 0)= #[]:=by simp[xbk]
     rw[ez]at hv⊢;simp[xbQ,kw h,kw l,WR,WP,hi,cE,V4,e0,hO,Addr.add_lit,hv]
    ·have hQ:¬(m=0\/i.size=0):=W
     simp[xbQ,kw h,kw l,WR,WP,bi,hi,x,cE,V4,B,hl,hn,r,hQ,Addr.add_lit,hv];intro h0;have:0<m*i.size:=Nat.mul_pos W y;lia
   refine⟨_,_,hr,⟨hd,.inr ⟨g,cap,_,O,Y,bv w g c _ e _ H,r,C,?_,?_⟩⟩,⟨O,O,O,iP,λk _ b=>dL w g k _<|λe=>b<|by simp[xej,e]⟩,λk b=> .inl b⟩
   ·simp only[xfm,xaq,xas,xcf,xev]at q⊢;lia
   ·rw[hC,<-hd];exact List.take_left
  ·have hD:∀j u,xs[j]? =Z u->w.cell? ((⟨g,0,wF⟩:JP).add j)=Z u:=f.cells (g:=g) O;have hp:¬(9223372036854775807<(n:J)+(m:J)):=W
   have D:¬(281474976710656<Builtin.nextslicecap (n+m) cap*i.bytes):=by have:=UP (old:=cap) (need:=n+m) (bytes:=i.bytes) W hc;lia
   have p:=a cap W<|xej (.slice (Z ⟨g,0,wF⟩) n cap);have hR:=run_firstCells_some (P:=P) w.drew i.size n ⟨g,0,wF⟩ n cap xs f.1 (by simpa using hD);refine⟨_,_,?_,p.1,p.2,λk b=> .inr<|by cases b;exact IR _⟩;by_cases d:m=0
   ·subst d;lia
   simp[xbQ,kw h,kw l,WR,WP,bi,hi,x,cE,V4,B,d,hp,D,hl,hn,r,Question.forced,hR,aC,V5];intro h0;have:0<m*i.size:=Nat.mul_pos W y;lia
def re{z:ul wN}{m:K}(a:z.size=m)(n:K):(xbk z n).toList=(Nm n z.toList).flatten:=by
 apply xcy;intro j;by_cases b:j<n*m
 ·have c:0<m:=xcD λh0=>by rw[h0]at b;simp at b
  have e1:(xbk z n).toList[j]? =z.toList[j%m]? :=by
   have:=xaM j c;simp[xbk,a,b,this]
  rw[e1,zbU.flatten_get z.toList m (by simpa using a) c n j b];all_goals exact 0
 ·rw[xbP (by simp[UL,a];lia),xbP<|by simp[a];lia]
section
variable{P:jP}{N:Nd}{we:wP}{Se:wr->Prop}{ms ms':xS MF}{Γ Γ':xS FF}{Q:Qs}{env:y4}{ops:ul ut}{rest:xS ut}
 {d:ww Z4}{ty yt t ti:wT}{pos:String}{aft:ul Edge}{g:ww (wr×v6)}{x y:wW}
def zax{α:Type}{e:zV α}{f:wT}{xs:xS α}{z:α}{n:K}{v:wN}{bytes:K}{a:wN}{ik:Z9}(i:K)(D:P.underlying t=Z (.slice f))(E:P.underlying ti=Z (.int ik))(hv:Ja P f e.agg e.n bytes a)(hd:a.cells.size=e.n)(hn:0<e.n)
 (o:ms[i]? =Z (mO e f v xs)) (F:ev env x=v) (G:ev env y=.int .i64 (n:J)) (q:∀(S:K->Prop) (w:wP),e.p S z a.cells.toList w)
 (hF:X xs+n<=9223372036854775807) (H:(X xs+n)*bytes<=140737488355328):OG P ⟨d,.call ⟨.builtin .append,#[x,y],#[t,ti]⟩,ty,pos,aft,g⟩ env we Se ms Γ (λc=>c) (λc=>(ms.set i<|mO e f c<|xs++Nm n z)) (λ_=>Γ) (λ_=>Z5):=by
 intro w r;have⟨S,_,⟨cs,l,he⟩,h8,_⟩:=r.mut o;have⟨L,hi,i1,i2,M⟩:=hv.info;have⟨c,w',R,hl,b,T⟩:=Rr (P:=P) t ti ty f L a e.n bytes D E hi M i1 i2 hd (e.one<|q S w) hn v (X xs) cs l n (by unfold Ww;lia) H;refine ur.of_value (w':=w') (v:=c) ?_ ⟨c,O,wR,r.grow o ⟨b.os,b.os,b.output,b.size,λj U m=>b.block j U<|λe=>m e.symm⟩ T ?_⟩
 ·simp only[jp,Wl,WN,KW,xdE,xbU,xer,F,G,xay,R,xaO,xal]
 ·intro S V ⟨h,hp,Y⟩ a0;have hB:h=cs:=by
   rcases l.2 with⟨rfl,h0⟩|⟨g,cap,a3,rfl,_,hC,_,_,_,hD⟩
   ·have s:=l.1;have u:=hp.1;rw[h0]at s u;have c1:cs=[]:=xbe (by simpa using s);have c2:h=[]:=xbe (by simpa using u);rw[c1,c2]
   ·rcases hp.2 with⟨hc,_⟩|⟨g',A,B,hE,_,C,_,_,_,hq⟩
    ·cases hc
    ·cases hE;rw[hC]at C;cases C;rw[<-hD,<-hq]
  subst hB;have kk:yv S w w':=⟨b.os,b.os,b.output,b.size,λk hk m=>b.block k hk<|λe=>V k m e.symm⟩;rw[re hd]at hl;exact⟨_,by rw[xaq,xaT];exact hl,(Y.keep kk).append<|yP.replicate (q _ _) n⟩
end
def zE.left{S:K->Prop}{w:wP}:∀{Γ Δ:N FF},zE S (Γ++Δ) w->zE S Γ w
 |[],_,_=>trivial
 |_::_,_,h=>⟨h.1,zE.left h.2⟩
def zE.right{S:K->Prop}{w:wP}:∀{Γ Δ:N FF},zE S (Γ++Δ) w->zE S Δ w
 |[],_,h=>h
 |_::_,_,h=>zE.right h.2
def Fn.ok_mono{U:Type}{P:jP}{f:Z3}{args:ul wN}{Γ:N FF}{g:U->wN}{d:U->N FF}{ok i:U->Prop}(h:Fn P f args Γ g d ok)(j:∀u,ok u->i u):Fn P f args Γ g d i:=
 λw Se h1 k=>(h w Se h1 k).mono λe w' ⟨u,a,b,c⟩=>⟨u,a,j u b,c⟩
end
section
def rowT{α:Type}(e:zV α)(cap:K):o6 (N α)where
 p S xs cs w:=∃c post,cs=c++post/\yP e S xs c w/\X cs=cap*e.n
 keep:=λ⟨c,post,h1,a,b⟩ k=>⟨c,post,h1,a.keep k,b⟩
 sub:=λ⟨c,post,h1,a,b⟩ k=>⟨c,post,h1,a.sub k,b⟩
def Sub.rowT{α:Type}(e:zV α)(cap:K)(xs:N α)(i:K)(x:α)(j:xs[i]? =Z x):Sub (rowT e cap) xs (i*e.n) e x (λy=>xs.set i y):=by
 rintro S w cs ⟨c0,a,rfl,k,hl⟩;obtain⟨d,c,b,rfl,l,f,m⟩:=Sub.row e xs i x j S w c0 k;refine⟨d,c,b++a,iP,l,f,λw' y g o h=>⟨d++g++b,a,iP,m w' y g o h,?_⟩⟩;have e1:=e.len f;have p:=e.len h;simp_all
def Sub.rowT0{α:Type}(e:zV α)(cap:K)(xs:N α)(i:K)(x:α)(a:xs[i]? =Z x):Sub (Go.Proofs.YtmggkmchbdanfaaGreat.rowT e cap) xs (0+i*e.n) e x (λy=>xs.set i y):=by
 rw[xaJ];exact Sub.rowT e cap xs i x a
section
variable{we:wP}{Se:wr->Prop}{ms:xS MF}{Γ:xS FF}{w:wP}{α:Type}{e:zV α}{E:wT}{xs:xS α}
theorem wy{i:K}{m:MF}(h:St we Se ms Γ w)(hi:ms[i]? =Z m){p:Prop}(hp:∀S:K->Prop,m.p S w->p):p:=by grind [St.muts]
def St.openO{v:wN}(i:K)(h:St we Se ms Γ w)(c:ms[i]? =Z (mO e E v xs))(m:0<X xs):
 ∃g cap,v=.slice (Z ⟨g,0,wF⟩) (X xs) cap/\X xs<=cap/\cap<=9223372036854775807/\St we Se (ms.set i<|mB (rowT e cap) E g xs) Γ w:=by
 have:∃g cap,v=.slice (Z ⟨g,0,wF⟩) (X xs) cap/\X xs<=cap/\cap<=9223372036854775807:=wy h c λS ⟨cs,h1,b⟩=>by
  rcases h1.2 with⟨rfl,h0⟩|⟨g,cap,a,rfl,l,d,f,j,hc,hd⟩
  ·lia
  ·exact⟨g,cap,O,f,j⟩
 obtain⟨g,cap,rfl,h1,b⟩:=this;refine⟨g,cap,O,h1,b,h.conv c O λS ⟨cs,h1,b⟩=> ?_⟩;rcases h1.2 with⟨h0,_⟩|⟨o,k,a,hv,l,d,f,j,hc,hd⟩
 ·cases h0
 ·cases hv;refine⟨a,d,cs,a.toList.drop<|X xs*e.n,?_,b,by simpa using hc⟩;rw[<-hd,xbA]
theorem St.closeO{g cap:K}(i n:K)(h:St we Se ms Γ w)(d:ms[i]? =Z (mB (rowT e cap) E g xs))(hn:n<=X xs)(hc:n<=cap)(k:cap<=9223372036854775807):
 St we Se (ms.set i<|mO e E (.slice (Z ⟨g,0,wF⟩) n cap)<|xs.take n) Γ w:=by
 refine h.conv d O λS ⟨cs,f,c,a,h1,b,j⟩=>⟨c.take<|n*e.n,?_,b.take n⟩;have hl:X (xs.take n)=n:=by simp;lia
 have l:=b.len;have hd:n*e.n<=X xs*e.n:=xan _ hn;rw[hl];refine⟨by simp;lia,.inr ⟨g,cap,cs,O,xac _,f,hc,by unfold Ww;lia,by simpa using j,?_⟩⟩;grind
def St.closeF{g cap:K}(i:K)(h:St we Se ms Γ w)(a:ms[i]? =Z (mB (rowT e cap) E g xs))(hc:X xs<=cap)(b:cap<=9223372036854775807):
 St we Se (ms.set i<|mO e E (.slice (Z ⟨g,0,wF⟩) (X xs) cap) xs) Γ w:=by
 have:=h.closeO i (X xs) a (IR _) hc b;simp_all
def St.rowRT{b n:K}(i:K)(h:St we Se ms Γ w)(c:ms[i]? =Z (mR e E b xs))(hn:n=X xs):St we Se (ms.set i<|mB (rowT e n) E b xs) Γ w:=
 h.conv c O λS ⟨cs,d,a⟩=>⟨cs,d,cs.toList,[],iP,a,by rw[hn];exact yP.len a⟩
end
section
variable{P:jP}{N:Nd}{we:wP}{Se:wr->Prop}{ms:xS MF}{Γ:xS FF}{Q:Qs}{env:y4}{ops:ul ut}{rest:xS ut}
 {d:ww Z4}{ty yt t t':wT}{pos:String}{aft:ul Edge}{g:ww (wr×v6)}{x y:wW}
def SO{e:wT}{ag:v6}{c bytes:K}{a:wN}{b o n cap l h:K}{lo hi:V wN}{w:wP}(f:P.underlying t=Z (.slice e))(i:Ja P e ag c bytes a)
 (hl:lo=Z (.int .i64 (l:J))\/(lo=wF/\l=0)) (j:hi=Z (.int .i64 (h:J))\/(hi=wF/\h=n)) (hd:l<=h) (m:h<=cap) (p:l<cap\/l=0):
 (xcU t (.slice (Z ⟨b,o,wF⟩) n cap) lo hi wF).run P w=.ok (.slice (Z ⟨b,o+l*c,wF⟩) (h-l)<|cap-l) w:=by
 have b1:(0:J)<=(l:J)/\(l:J)<=(h:J):=W
 have b2:(0:J)<=(h:J)/\(h:J)<=(cap:J):=W
 have k:(xcU t (.slice (Z ⟨b,o,wF⟩) n cap) lo hi wF).run P w=.ok (.slice (if cap=l then Z ⟨b,o,wF⟩else(Z (⟨b,o,wF⟩:JP)).map (·.add (l*c))) (h-l)<|cap-l) w:=by
  unfold xcU;simp only[xay,kw f,xal];unfold xfN;simp only[xay,kw f,xal];unfold xem
  obtain rfl|⟨rfl,rfl⟩:=hl<;>obtain rfl|⟨rfl,rfl⟩:=j<;>
   simp only[xey,V4,xay,xaO,xal,iq b1,iq b2,wo i,xaN]
 rw[k];by_cases hc:cap=l
 ·simp_all
 ·simp[hc,jq]
def Re{c:wT}{ag:v6}{e bytes:K}{a:wN}{b o n cap h:K}{hi:wW}(f:ev env x=.slice (Z ⟨b,o,wF⟩) n cap)(i:P.underlying t=Z (.slice c))(j:Ja P c ag e bytes a)
 (k:ev env hi=.int .i64 (h:J)) (l:h<=cap) (w:wP):(jp (ev env) ⟨d,.slice t x wF (Z hi) wF,ty,pos,aft,g⟩).run P w=.ok (.value (.slice (Z ⟨b,o,wF⟩) h cap)) w:=by
 have:=SO (b:=b) (o:=o) (n:=n) (w:=w) i j (.inr ⟨O,O⟩) (.inl O) (xac _) l (.inr O);simp[jp,f,k,this]
theorem zih{α:Type}{e:zV α}{a:wT}{bytes:K}{b:wN}(c:P.underlying t=Z (.slice a))(f:Ja P a e.agg e.n bytes b):OG P ⟨d,.buildSlice t 0 #[],ty,pos,aft,g⟩ env we Se ms Γ (λv=>v) (λv=>(mO e a v []::ms)) (λ_=>Γ) (λ_=>Z5):=by
 intro w hc;have h:(xez t 0 #[]).run P w=.ok (.slice (Z ⟨w.heap.size,0,wF⟩) 0 0) (w.alloc (.cells #[] a)):=by
  unfold xez;simp only[xay,kw c,xal,wo f,aC];simp[xdB];grind
 refine ur.of_value (w':=w.alloc (.cells #[] a)) (v:=.slice (Z ⟨w.heap.size,0,wF⟩) 0 0) ?_ ⟨_,O,wR,hc.fresh (J4.alloc w _) O iP λS _ _=>⟨[],?_,O⟩⟩
 ·simp[jp,h]
 ·exact⟨iP,.inr ⟨w.heap.size,0,#[],O,xac _,Wt w _,IR _,xac _,iP,iP⟩⟩
def zha{α:Type}{e:zV α}{b:wT}{bytes:K}{a:wN}(c:yV ops env ⟨d,.buildSlice t 0 #[],ty,pos,aft,g⟩=I)(hd:jL N.n d=I)
 (f:P.underlying t=Z (.slice b)) (h:Ja P b e.agg e.n bytes a)
 (k:∀v,TL P N we Se (mO e b v []::ms) Γ ops rest Q<|put env d v):TL P N we Se ms Γ ops (⟨d,.buildSlice t 0 #[],ty,pos,aft,g⟩::rest) Q env:=
 zlo c hd (zih f h) λv _=>k v
end
section
variable{P:jP}{env:y4}{d:ww Z4}{ty t:wT}{pos:String}{aft:ul Edge}{g:ww (wr×v6)}{x y c:wW}{w:wP}{S:wr->Prop}{v:wN}
def zrq{f:Go.Fn}{xs:N wW}{vs:N wN}(h:xs.map (ev env)=vs)(w:wP):(jp (ev env) ⟨d,.makeFunc f #[] xs.toArray,ty,pos,aft,g⟩).run P w=.ok (.value (.func f #[] vs.toArray)) w:=
 du (by simp[pv,h]) w
end
section
variable{P:jP}{N:Nd}{we:wP}{Se:wr->Prop}{ms:xS MF}{Γ:xS FF}{Q:Qs}{env:y4}{ops:ul ut}{rest:xS ut}
 {d:ww Z4}{ty yt t t':wT}{pos:String}{aft:ul Edge}{g:ww (wr×v6)}{x y:wW}
def GM(w:wP)(k p ty b:wT)(g o dLen dCap:K)(a:JP)(e f:K)(c:ul wN)(t:wT)(cs:xS wN){n m:K}
 (q:P.underlying k=Z (.slice b)) (l:(P.info? b).map (·.size)=Z n) (r:Nat.min e dLen=m)
 (s:w.heap[g]? =Z (.cells c t (0,0))) (hn:X cs=m*n)
 (u:∀j v,cs[j]? =Z v->w.cell? (a.add j)=Z v) (z:o+X cs<=c.size) (h1:∀v∈cs,v.oneCell'=I):
 (xfJ #[k,p] ty #[.slice (Z ⟨g,o,wF⟩) dLen dCap,.slice (Z a) e f]).run P w=
  .ok (gS m) (w.setRow g (c.toList.take o++cs++c.toList.drop (o+X cs)).toArray):=by
 have hl:=US (P:=P) w a cs u;have hc:=am P g o t cs 0 c w s (by simpa using z) h1
 cases h:P.info? b with
 |none=>simp[h]at l
 |some i=>
  have hi:i.size=n:=by simpa[h]using l
  simp[xfJ,kw q,xfc,xeD,WR,WP,h,hi,r,<-hn,hl,hc]
def Ke(w:wP)(f j ty b:wT)(d a:V JP)(dLen dCap c e:K)(k:P.underlying f=Z (.slice b)){n:K}(l:(P.info? b).map (·.size)=Z n)(hn:Nat.min c dLen=0):
 (xfJ #[f,j] ty #[.slice d dLen dCap,.slice a c e]).run P w=.ok (gS 0) w:=by
 cases h:P.info? b with
 |none=>simp[h]at l
 |some i=>
  have hl:=λx=>by simpa using US (P:=P) w x [] iP
  cases d<;>cases a<;>simp[xfJ,kw k,xfc,xeD,WR,WP,h,hn,storeCells,hl]
def SP{α:Type}{e:zV α}{r E b l dLen dCap cap bytes:K}{s u:wN}{xs ys:xS α}(i:K)(T:P.underlying t=Z (.slice r))(hH:Ja P r e.agg e.n bytes s)(A:ms[i]? =Z (mB (rowT e cap) E b xs))(hx:ev env x=.slice (Z ⟨b,0+l*e.n,wF⟩) dLen dCap)(hy:ev env y=u)
 (hl:l+dLen<=X xs) (U:∀(S:K->Prop) (w:wP),zE S Γ w->(fV (eS e) ys u).p S w):OG P ⟨d,.call ⟨.builtin .copy,#[x,y],#[t,t']⟩,ty,pos,aft,g⟩ env we Se ms Γ (λn:J=>(.int .i64 n)) (λn=>(ms.set i<|mB (rowT e cap) E b<|xs.take l++ys.take (min (X ys) dLen)++xs.drop (l+min (X ys) dLen))) (λ_=>Γ) (λ_=>Z5):=by
 intro w B;have⟨S0,⟨c,hn,c0,h,hs,hw,hI⟩,hQ,hJ⟩:=B.muts A;have⟨ao,f,C,h1,h2,D⟩:=xC.1<|U S0 w hJ;have⟨ti,hi,i1,i2,i3⟩:=hH.info;have V:(P.info? r).map (·.size)=Z e.n:=by rw[hi];simp[i1]
 have Y:∀v w',(xfJ #[t,t'] ty #[.slice (Z ⟨b,0+l*e.n,wF⟩) dLen dCap,u]).run P w=.ok v w'->
  (jp (ev env) ⟨d,.call ⟨.builtin .copy,#[x,y],#[t,t']⟩,ty,pos,aft,g⟩).run P w=.ok (.value v) w':=λv w' o=>by
  simp only[jp,Wl,WN,KW,xdE,xbU,xer,hx,hy,xay,o,xaO,xal]
 have⟨m,hd⟩:∃m,min (X ys) dLen=m:=⟨_,O⟩;have hB:Nat.min (X ys) dLen=m:=hd;have hR:m<=dLen:=by rw[<-hd];exact Nat.min_le_right _ _
 have z:m<=X ys:=by rw[<-hd];exact Nat.min_le_left _ _
 have e1:(l+m)*e.n=l*e.n+m*e.n:=xaX _ _ _;have F:l*e.n+m*e.n<=X xs*e.n:=by rw[<-e1];exact xan _ W
 have e3:m*e.n<=X ys*e.n:=xan _ z;have hT:X c0=X xs*e.n:=hw.len;rw[hd];by_cases h0:m=0
 ·have o:=Ke (P:=P) w t t' ty r (Z ⟨b,0+l*e.n,wF⟩) ao dLen dCap (X ys) f T V<|hB.trans h0;rw[<-C]at o;refine ur.of_value (Y _ _ o) ⟨_,O,wR,?_⟩;rw[h0];simp only[xbO,List.take_zero,xbB,xbA];have:ms.set i (mB (rowT e cap) E b xs)=ms:=by
   have⟨hU,hK⟩:=xax.1 A;rw[<-hK,xda]
  rw[this];exact B
 ·obtain D|⟨sb,so,cs,rfl,hV,ha,G⟩:=D
  ·rw[D]at z;simp at z;lia
  ·have hL:X cs=X ys*e.n:=G.len;have hC:X (cs.take<|m*e.n)=m*e.n:=by rw[xas,hL];lia
   have e4:X c.toList=X c0+X h:=by rw[hs,xaq]
   have hD:0+l*e.n+X (cs.take<|m*e.n)<=c.size:=by
    simp only[xev]at e4;lia
   have o:=GM (P:=P) w t t' ty r b (0+l*e.n) dLen dCap ⟨sb,so,wF⟩ (X ys) f c E (cs.take<|m*e.n) T V hB hn hC
    (λj v hv=>by rw[jq];exact(ha.take _).2 j v hv) hD (λv hv=>G.one v<|xel hv)
   rw[<-C]at o;refine ur.of_value (Y _ _ o) ⟨_,O,wR,B.write A O O (Q1 w b _) ?_⟩;rintro S hS ⟨a0,hE,c1,q,hF,hc,hp⟩ h8;rw[hn]at hE;cases hE;have⟨a1,H,hG,_,_,L⟩:=xC.1<|U S w h8;rw[C]at hG;cases hG;obtain L|⟨a2,a3,a,hM,hW,hN,he⟩:=L
   ·rw[L]at z;simp at z;lia
   ·cases hM;have hO:a=cs:=by
     have hP:X a=X cs:=by rw[he.len,G.len]
     apply xcy;intro j;by_cases M:j<X cs
     ·have e1:=ha.2 j cs[j] (by simp[M]);have F:=hN.2 j a[j] (by simp[hP,M]);rw[e1]at F;rw[xak M,xak (by lia:j<X a),F]
     ·rw[xbP (l:=cs) W,xbP (l:=a) W]
    subst hO;have hX:X c1=X xs*e.n:=hc.len;have R:yv S w (w.setRow b (c.toList.take (0+l*e.n)++a.take (m*e.n)++c.toList.drop (0+l*e.n+X (a.take<|m*e.n))).toArray):=(Q1 w b _).weak λk _ hk=>hS k hk;refine⟨_,bv w b c _ E (0,0) hn,c1.take (l*e.n)++a.take (m*e.n)++c1.drop ((l+m)*e.n),q,?_,?_,?_⟩
    ·rw[hC,xaJ,e1,hF,List.take_append_of_le_length W,List.drop_append_of_le_length W];simp[xao]
    ·exact(((hc.keep R).take l).append<|(he.keep R).take m).append<|(hc.keep R).drop<|l+m
    ·rw[<-hp];simp only[xaq,xas,xcf];lia
end
end
section
section
variable{P:jP}{env:y4}{ms:xS MF}{Γ:xS FF}{d:ww Z4}{ty t yt:wT}{pos:String}{aft:ul Edge}{g:ww (wr×v6)}{x y:wW}
def GY{t E:wT}{a:V JP}{n c:K}(b:P.underlying t=Z (.slice E))(w:wP):(Op.equal t (.slice a n c) (.slice wF 0 0)).run P w=.ok a.isNone w:=by
 show(Op.equalIn (9999+1) t (.slice a n c) (.slice wF 0 0)).run P w=_;unfold Op.equalIn;cases a<;>simp only[xay,kw b,xal,xaO,Option.isNone_some]
def zjB{α:Type}{e:zV α}{xs:N α}{v:wN}{E:wT}(f:P.underlying t=Z (.slice E))(h:ev env x=v)(i:ev env y=.slice wF 0 0)(j:∀(S:K->Prop) (w:wP),zE S Γ w->(fV (eS e) xs v).p S w):
 MJ P ⟨d,.binOp .eql t x y yt,ty,pos,aft,g⟩ env ms Γ (λu:v6=> .bool u) (λ_=>[]) (λu=>u=I->xs=[]):=by
 intro w S _ _ b;have⟨a,cap,hv,h1,c,l⟩:=xC.1<|j S w b;have k:(WD .eql t x y (.slice a (X xs) cap) (.slice wF 0 0)).run P w=.ok () w:=by simp[WD]
 have c:(WT .eql t (.slice a (X xs) cap) (.slice wF 0 0)).run P w=.ok (.bool a.isNone) w:=by simp only[WT,xay,GY f,xal,xaO]
 refine ur.of_value ?_ ⟨a.isNone,O,λhn=> ?_,yv.refl _ _,wR⟩
 ·simp only[jp,h,hv,i,xay,k,c,xal,xaO]
 ·simp_all
end
section
variable{P:jP}{env:y4}{d:ww Z4}{ty t:wT}{pos:String}{aft:ul Edge}{g:ww (wr×v6)}{x y c:wW}{w:wP}{S:wr->Prop}{v:wN}{o:ut}
def zkV(hc:ev env c=.bool I)(h:ev env x=v)(w:wP):(jp (ev env) ⟨d,.pick c x y,ty,pos,aft,g⟩).run P w=.ok (.value v) w:=du (by simp[pv,hc,h]) w
def zi0(hc:ev env c=.bool wL)(h:ev env y=v)(w:wP):(jp (ev env) ⟨d,.pick c x y,ty,pos,aft,g⟩).run P w=.ok (.value v) w:=du (by simp[pv,hc,h]) w
end
def jy(x y:J):J:=if x<y then-1 else if y<x then 1 else 0
theorem qf{x y:J}(h:x<y):jy x y= -1:=by simp[jy,h]
theorem vM{x y:J}(h:y<x):jy x y=1:=by grind [jy]
theorem jX{x y:J}(h:x=y):jy x y=0:=by grind [jy]
end
section
section
variable{P:jP}{N:Nd}{we:wP}{Se:wr->Prop}{ms:xS MF}{Γ:xS FF}{Q:Qs}{env0:y4}{l:xS ut}
theorem nM{env:y4}{d:V Z4}{v:wN}{t:Z4}(h:d≠Z t):put env d v t=env t:=by
 cases d with
 |none=>rfl
 |some dd=>
  have a:¬t=dd:=λe=>h (by rw[e]);have:F t dd=wL:=YG a;simp[put,L,this]
theorem Ed{env:y4}{v:wN}{t:Z4}:put env (Z t) v t=v:=by simp[put,L]
end
end
section
section
variable{P:jP}{N:Nd}{we:wP}{Se:wr->Prop}{ms F:xS MF}{Γ:xS FF}{env:y4}{U:Type}{val:U->wN}{own:U->xS MF}{facts:U->xS FF}{ok:U->Prop}{fn:QR}
 {ops:ul ut}{rest:xS ut}{d:ww Z4}{t ty yt:wT}{pos:String}{aft:ul Edge}{g:ww (wr×v6)}{x y:wW}
def zdk{α:Type}{e:zV α}{b:wT}{xs ys:xS α}{v u:wN}{bytes:K}{a:wN}(i:K)
 (f:P.underlying t=Z (.slice b)) (j:Ja P b e.agg e.n bytes a) (hc:a.cells.size=e.n) (hn:0<e.n)
 (k:ms[i]? =Z (mO e b v xs)) (l:ev env x=v) (m:ev env y=u) (o:∀(S:K->Prop) (w:wP),zE S Γ w->(fV (eS e) ys u).p S w)
 (hd:X xs+X ys<=9223372036854775807) (q:(X xs+X ys)*bytes<=140737488355328):
 OG P ⟨d,.call ⟨.builtin .append,#[x,y],#[t,t]⟩,ty,pos,aft,g⟩ env we Se ms Γ (λc=>c) (λc=>ms.set i<|mO e b c<|xs++ys) (λ_=>Γ) (λ_=>Z5):=
 aO i f j hc hn k l m (λS w _ h=>SlQ.of<|o S w h) hd q
end
end
section
abbrev K8(x:J):Prop:= -9223372036854775808<=x/\x<=9223372036854775807
abbrev au(x:K):Prop:=x<18446744073709551616
section
variable{α β:Type}
def ck(p:Prop)[WL p](k:V α):V α:=if p then k else wF
def zf(e:J)(k:J->V α):V α:=if K8 e then k e else wF
def zG(i:J)(n:K)(k:K->V α):V α:=if 0<=i/\i<(n:J)then k i.toNat else wF
def kv(i:J)(k:K->V α):V α:=if 0<=i then k i.toNat else wF
def nm(e:β)(k:β->V α):V α:=k e
def bd(x:V β)(k:β->V α):V α:=match x with
 |some v=>k v
 |none=>wF
def zg(f:(β->V α)->β->V α):K->β->V α
 |0,_=>wF
 |k+1,s=>f (zg f k) s
theorem Zm{p:Prop}[WL p]{k:V α}{r:α}(h:ck p k=Z r):p/\k=Z r:=by grind [ck]
theorem JM{e:J}{k:J->V α}{r:α}(h:zf e k=Z r):∃x,x=e/\K8 x/\k x=Z r:=by grind [zf]
theorem zlJ{i:J}{n:K}{k:K->V α}{r:α}(h:zG i n k=Z r):∃j:K,i=(j:J)/\j<n/\k j=Z r:=by grind [zG]
theorem zby{i:J}{k:K->V α}{r:α}(h:kv i k=Z r):∃j:K,i=(j:J)/\k j=Z r:=by grind [kv]
def xI{e:β}{k:β->V α}{r:α}(h:nm e k=Z r):∃x,x=e/\k x=Z r:=⟨e,O,h⟩
def iH{x:V β}{k:β->V α}{r:α}(h:bd x k=Z r):∃v,x=Z v/\k v=Z r:=by
 cases x with
 |none=>cases h
 |some v=>exact⟨v,O,h⟩
def zoa{c:Prop}[WL c]{x y:V α}{r:α}(hc:c)(h:(if c then x else y)=Z r):x=Z r:=by rwa[iq hc]at h
def zn2{c:Prop}[WL c]{x y:V α}{r:α}(hc:¬c)(h:(if c then x else y)=Z r):y=Z r:=by rwa[ir hc]at h
def zcL{f:(β->V α)->β->V α}{s:β}{r:α}(h:zg f 0 s=Z r):V3:=by cases h
def zbB{f:(β->V α)->β->V α}{k:K}{s:β}{r:α}(h:zg f (k+1) s=Z r):f (zg f k) s=Z r:=h
end
section
variable{α β:Type}
theorem xr{p:Prop}[WL p]{k:V α}(h:p):ck p k=k:=iq h
def yL{p:Prop}[WL p]{k:V α}(h:p:=by lia):ck p k=k:=aM h
theorem nD{e:J}{k:J->V α}(h:K8 e):zf e k=k e:=iq h
def zb{e:J}{k:J->V α}(h1: -9223372036854775808<=e:=by lia)(a:e<=9223372036854775807:=by lia):zf e k=k e:=aM ⟨h1,a⟩
def CR{i:J}{n:K}{k:K->V α}(h:0<=i/\i<(n:J)):zG i n k=k i.toNat:=iq h
theorem zp{i n:K}{k:K->V α}(h:i<n):zG (i:J) n k=k i:=by rw[CR ⟨W,W⟩];rfl
def yj{i n:K}{k:K->V α}(h:i<n:=by lia):zG (i:J) n k=k i:=zp h
theorem yJ{i:K}{k:K->V α}:kv (i:J) k=k i:=by skip;rfl
theorem ze{e:β}{k:β->V α}:nm e k=k e:=O
theorem za{x:V β}{v:β}{k:β->V α}(h:x=Z v):bd x k=k v:=by rw[h];rfl
def wA{f:(β->V α)->β->V α}{k:K}{s:β}:zg f (k+1) s=f (zg f k) s:=O
end
def Hq{n:K}(h:n<=9223372036854775807):K8 (n:J):=⟨W,W⟩
def zqg(x:K):au (x%18446744073709551616):=xaM _ iI
def zj6{x e:K}(h:x=e)(a:au e):au x:=h▸a
def zf9{x e:J}(h:x=e)(a:K8 e):K8 x:=h▸a
def VM{x e:K}(h:x=e%18446744073709551616):au x:=h▸zqg e
def znN{a b x:J}(c:K8 a)(h:x=a.tmod b):K8 x:=by
 have h1:=Int.natAbs_tmod a b;have d:=Nat.mod_le a.natAbs b.natAbs;obtain h0|h0:=Int.le_total 0 a
 ·lia
 ·have:a.tmod b<=0:=by
   have:=Int.tmod_nonneg b (a:= -a) W;simp_all
  lia
def zmw{a b x:K}(c:au a)(h:x=a%b):au x:=by
 have:=Nat.mod_le a b;lia
def EO{a b x:K}(c:au a)(h:x=a/b):au x:=by
 have:=xcE a b;lia
def zpH{a b:J}(c:K8 a)(d:K8 b):K8 (max a b):=by unfold K8 at*;lia
def zoz{a b:J}(c:K8 a)(d:K8 b):K8 (min a b):=by unfold K8 at*;lia
def zqe{α:Type}{l:N α}{k:K}{y z:α}(h:k<X l)(a:y=l.getD k z):l[k]? =Z y:=by rw[a];exact getD_some z h
def SZ(x:K):J:=if x<9223372036854775808 then(x:J)else(x:J)-18446744073709551616
def sA(x:J):K:=(x%18446744073709551616).toNat
def zfc{x:K}(h:au x):K8 (SZ x):=by unfold SZ au at*;split<;>constructor<;>lia
def DV(x:J):au (sA x):=by unfold sA au;lia
def Dk{x:K}(h:au x):xcY.wrap (x:J)=SZ x:=by
 unfold SZ;split
 ·exact w64 ⟨W,W⟩
 ·rename_i b;have a:xcY.wrap x=xcY.wrap (x-18446744073709551616):=by simp[IntKind.wrap,IntKind.bits]
  rw[a];exact w64 ⟨W,W⟩
def zev(x:J):xch.wrap x=((sA x:K):J):=by rw[CG];unfold sA;lia
def w_x{x c:J}(h:c=x)(a:K8 c):xcY.wrap x=c:=by subst h;exact w64 a
def iW{k:Z9}{x:J}{c n:K}(h:c=n)(a:k.wrap x=(n:J)):k.wrap x=(c:J):=by rw[a,h]
def OpP(P:jP)(o:ut)(env:y4)(w:wP)(K:N cO->wP->Prop):Prop:=(∀c,o.op≠ .defer c)/\
 match(jp (ev env) o).run P w with
 |.ok (.enter f args) w'=>Ul P f args w' (λe a=>∃b,e=.panicked b/\K b a)
 |.halt (.panic v) w'=>K [{v,recovered:=wL}] w'
 |_=>V3
def OpP.wp{P:jP}{o:ut}{a:V6}{w:wP}{K:xS cO->wP->Prop}{d:V6->wP->Prop}{Q:bV->V6->wP->Prop}{N:Nd}
 (h:OpP P o (yR a) w K) (c:∀b w',K b w'->Q (.panic b) a w'):o.wpIn N.F 0 P a w d Q:=by
 have⟨hd,h⟩:=h;refine⟨λ_ _=>wR,?_⟩;rw[a7];rw[Oper.semAt_eq _ _ _ hd];generalize(jp (ev<|yR a) o).run P w=r at*
 cases r with
 |ok n w'=>
  cases n<;>simp only at h
  case enter f args=>exact⟨λe=>by simp[xfK]at e,CallsIn.mono (callsIn_wide.2 h) λe g ⟨b,i,hv⟩=>by subst i;exact c _ _ hv⟩
 |halt x w'=>
  cases x<;>simp only at h
  case panic v=>exact c _ _ h
def OpP.mono{P:jP}{o:ut}{env:y4}{w:wP}{K a:N cO->wP->Prop}(h:OpP P o env w K)(c:∀b w',K b w'->a b w'):OpP P o env w a:=by
 refine⟨h.1,?_⟩;have h:=h.2;generalize(jp (ev env) o).run P w=r at*
 cases r with
 |ok n w'=>
  cases n<;>simp only at h⊢
  case enter f args=>exact h.mono λe d ⟨v,g,hv⟩=>⟨v,g,c _ _ hv⟩
 |halt x w'=>
  grind
def zjN{P:jP}{env:y4}{w:wP}{N:Nd}{b:ul ut}{o:ut}{rest:xS ut}{Q:Qs}(d:yV b env o=I)(h:OpP P o env w (λc w'=>Q (.panic c) env w')):WpL P N b (o::rest) Q env w:=by
 intro a h1 e f;subst f;unfold WF;rw[iq<|by rw[Wy];exact d];exact h.wp λc w' g=>⟨h1,e,g⟩
abbrev PX:=wT×J
def OT(q:PX):N cO:=[{v:=.iface q.1 (.agg #[.int .i64 q.2]),recovered:=wL}]
inductive Tg
 |n
 |x (i:K)
 |r
 |p (q:PX)
def tgB:Tg->bV->v6
 |.n,.normal=>I
 |.x i,.exit j=>F i j
 |.r,.ret=>I
 |_,_=>wL
def tgE:Tg->bV
 |.n=> .normal
 |.x i=> .exit i
 |.r=> .ret
 |.p q=> .panic<|OT q
def zlY{t:Tg}{e:bV}(h:tgB t e=I):e=tgE t:=by
 cases t<;>cases e<;>first|rfl|cases h|skip
 rename_i i j;rw[xdt (show F i j=I from h)];rfl
def XQ:N (Tg×(y4->wP->Prop))->Qs
 |[],_,_,_=>V3
 |(t,J)::r,e,env,w=>bif tgB t e then J env w else XQ r e env w
def XK(Q:Qs):N (Tg×(y4->wP->Prop))->Prop
 |[]=>Z5
 |(t,J)::r=>(∀env w,J env w->Q (tgE t) env w)/\XK Q r
def zlF{Q:Qs}:∀{l:N (Tg×(y4->wP->Prop))},XK Q l->∀e env w,XQ l e env w->Q e env w
 |[],_,_,_,_,h=>h.elim
 |(t,J)::r,k,e,env,w,h=>by
  unfold XQ at h;cases a:tgB t e
  ·rw[a]at h;exact zlF k.2 e env w h
  ·rw[a]at h;rw[zlY a];exact k.1 env w h
inductive JQ(we:wP)(Se:K->Prop){G:Type}(inv:G->Inv)(ok:G->Prop)(env:y4)(w:wP):Prop
 |mk (g:G) (h1:ok g) (h2:KC env (inv g).live) (h3:St we Se (inv g).ms (inv g).Γ w):JQ we Se inv ok env w
section
variable{P:jP}{N:Nd}{we:wP}{Se:wr->Prop}{ms:xS MF}{Γ:xS FF}{Q:Qs}{env:y4}
def T_X(l:xS (Tg×(y4->wP->Prop))){c:Wn}(h:T P N we Se ms Γ c (XQ l) env)(k:XK Q l):T P N we Se ms Γ c Q env:=
 λw b a h1 d f=>V2 (h w b a h1 d f) λe i w' ⟨q1,q2,g⟩=>⟨q1,q2,zlF k e _ _ g⟩
def zcN{G:Type}{a:G->Inv}{ok:G->Prop}(g:G)(h1:ok g)(b:KC env (a g).live)(c:∀w,St we Se ms Γ w->St we Se (a g).ms (a g).Γ w):
 ∀w,St we Se ms Γ w->JQ we Se a ok env w:=λw d=>⟨g,h1,b,c w d⟩
def zoV{G:Type}{a:G->Inv}{ok:G->Prop}{R:y4->wP->Prop}(k:∀g,ok g->∀rest w,St we Se (a g).ms (a g).Γ w->R (L (a g).live rest) w):
 ∀env w,JQ we Se a ok env w->R env w:=λenv w ⟨g,h1,b,c⟩=>by
 have:=k g h1 env w c;rwa[a8 b]at this
end
end
section
section
variable{P:jP}{N:Nd}{we:wP}{Se:wr->Prop}{ms F:xS MF}{Γ:xS FF}{Q:Qs}{env:y4}{ops:ul ut}{rest:xS ut}{o:ut}
 {d:ww Z4}{ty yt t ti t':wT}{pos:String}{aft:ul Edge}{g:ww (wr×v6)}{x y:wW}
def v_i{k:Z9}{c z:J}(h:∀w,(jp (ev env) o).run P w=.ok (.value (.int k c)) w)(a:z=c):∀w,(jp (ev env) o).run P w=.ok (.value (.int k z)) w:=by
 simp_all
def zgT{c z:v6}(h:∀w,(jp (ev env) o).run P w=.ok (.value (.bool c)) w)(a:z=c):∀w,(jp (ev env) o).run P w=.ok (.value (.bool z)) w:=by
 simp_all
theorem ph{a:K}{b:J}:(a:J).fdiv (2^(min b.toNat xch.bits))=((a/2^(min b.toNat 64):K):J):=by
 have:xch.bits=64:=O;grind
def zcv{a:K}{b:J}:xch.wrap ((a:J)*2^(min b.toNat xch.bits))=((a*2^(min b.toNat 64)%18446744073709551616:K):J):=by
 rfl
def zeO{a x:J}{k:K}(b:K8 a)(h:x=a.fdiv (2^k)):K8 x:=by
 have hp:(0:J)<2^k:=Int.pow_pos iI;rw[Int.fdiv_eq_ediv_of_nonneg _ W]at h;have c:=xcc a<|2^k;rcases(W:a<0\/0<=a)with h0|h0
 ·have:=Int.ediv_neg_of_neg_of_pos h0 hp;lia
 ·lia
def gi(a b:J):J:=SZ<|sA a &&& sA b
def orI(a b:J):J:=SZ (sA a|||sA b)
theorem rZ{a b:K}(c:au a):au (a &&& b):=xaK Nat.and_le_left c
theorem Cl{a b:K}(c:au a)(e:au b):au (a|||b):=Nat.or_lt_two_pow (n:=64) c e
theorem zaR{a:K}(b:au a):((a:J)%2^xch.bits).toNat=a:=by
 have:2^xch.bits=18446744073709551616:=O;grind
theorem zj1{a b:K}(c:au a)(e:au b):xch.wrap (((((a:J)%2^xch.bits).toNat &&& ((b:J)%2^xch.bits).toNat:K)):J)=((a &&& b:K):J):=by grind [zaR,ib,rZ]
theorem znT{a b:K}(c:au a)(e:au b):xch.wrap (((((a:J)%2^xch.bits).toNat|||((b:J)%2^xch.bits).toNat:K)):J)=((a|||b:K):J):=by grind [zaR,ib,Cl]
theorem Rh{a b:K}(c:au a)(e:au b):au (a^^^b):=Nat.xor_lt_two_pow (n:=64) c e
theorem zkC{a b:K}(c:au a)(e:au b):xch.wrap (((((a:J)%2^xch.bits).toNat^^^((b:J)%2^xch.bits).toNat:K)):J)=((a^^^b:K):J):=by grind [zaR,ib,Rh]
def zk1{a b:J}:xcY.wrap (((a%2^xcY.bits).toNat &&& (b%2^xcY.bits).toNat:K):J)=gi a b:=Dk<|rZ<|DV a
def zmD{a b:J}:xcY.wrap (((a%2^xcY.bits).toNat|||(b%2^xcY.bits).toNat:K):J)=orI a b:=Dk<|Cl (DV a)<|DV b
def zmM(a b:J):K8 (gi a b):=zfc<|rZ<|DV a
def zoP(a b:J):K8 (orI a b):=zfc<|Cl (DV a)<|DV b
def zoB{b:K}(h:b≠0):(b:J)≠0:=W
def zht{B n:K}(a:0<B)(h:B*n<=281474976710656):n<=9223372036854775807:=by
 have:=xdm n a;lia
def P8{α:Type}{e:zV α}{c:wT}{z:α}{xs:xS α}{n bytes:K}{a:wN}{f:wW}{i j:Z9}(k:P.underlying t=Z (.slice c))(l:Ja P c e.agg e.n bytes a)(m:ev env x=.int i (n:J))(q:ev env f=.int j (n:J))(r:0<bytes)(h:bytes*n<=281474976710656)
 (s:∀(S:K->Prop) (w:wP),e.p S z a.cells.toList w) (hc:xs=Nm n z):OG P ⟨d,.makeSlice t x f,ty,pos,aft,g⟩ env we Se ms Γ (λb=>(.slice (Z ⟨b,0,wF⟩) n n)) (λb=>(mB (rowT e n) c b xs::ms)) (λ_=>Γ) (λ_=>Z5):=by
 subst hc;intro w hd;refine(zbU k l m q h (zht r h) s w hd).mono ?_;rintro v w' ⟨b,h1,u,A⟩;exact⟨b,h1,u,A.rowRT 0 O iP⟩
end
end
section
def zm3{α:Type}{a x:α}(h:Z a=Z x):a=x:=xdf h
def zeh{x:J}{c n:K}(h:c=n)(a:x=(n:J)):x=(c:J):=by rw[a,h]
def zjL{x y z q:K}(a:au x)(b:au y)(c:z<=1)(h:q=(x+y+z)/18446744073709551616):au q:=by unfold au at*;lia
def ziO{x y z q:K}(_:au x)(_:au y)(_:z<=1)(h:q=if x<y+z then 1 else 0):au q:=by unfold au;split at h<;>lia
def v_2{P:jP}{env:y4}{o:ut}{k c:Z9}{a b x y:K}(h:∀w,(jp (ev env) o).run P w=.ok (.value (.tuple #[.int k (a:J),.int c (b:J)])) w)(d:x=a)(e:y=b):
 ∀w,(jp (ev env) o).run P w=.ok (.value (.tuple #[.int k (x:J),.int c (y:J)])) w:=by subst d;subst e;exact h
def JG(we:wP)(Se:K->Prop)(i:Inv)(R:y4->wP->Prop)(rest:y4):Prop:=∀w,St we Se i.ms i.Γ w->R (L i.live rest) w
def zhH{we:wP}{Se:K->Prop}{G:Type}{a:G->Inv}{ok:G->Prop}{R:y4->wP->Prop}(k:∀g,ok g->∀rest,JG we Se (a g) R rest):
 ∀env w,JQ we Se a ok env w->R env w:=zoV k
def zk4{we:wP}{Se:K->Prop}{i:Inv}{R:y4->wP->Prop}{rest:y4}{b:N MF}{c:N FF}{a:N (K×wN)}(h:i=⟨b,c,a⟩)(k:∀w,St we Se b c w->R (L a rest) w):JG we Se i R rest:=by
 subst h;exact k
def TU{F:Fence}{n:K}{P:jP}{a:V6}{w:wP}{Q:bV->V6->wP->Prop}{c:Wn}(h:c.wpIn F n P (Exit.noGoto Q) a w):(Code.scope c).wpIn F n P Q a w:=by
 intro b k cs hc o p;have g:∀{cs:N Frame}{k:N Item},step P (lone (b.atR a (.code (.scope c)::k)) cs w)=.next (lone (b.atR a (.code c::.inScope c::k)) cs w):=step_lone_go (by simp[stepG,stepG.exec,Frame.atR]);have r:∀{a:V6}{w:wP}{cs:N Frame}{k:N Item},step P (lone (b.atR a (.inScope c::k)) cs w)=.next (lone (b.atR a k) cs w):=step_lone_go (by simp[stepG,stepG.exec,Frame.atR]);have h0:(lone (b.atR a (.code (.scope c)::k)) cs w).fenced P F:=bI o p O;have⟨e,d,f,i,j⟩:=h b (.inScope c::k) cs hc o p
 cases e with
 |normal=>exact⟨.normal,d,f,i,.head h0 g<|StepsIn.trans j (.one (bI o p O) r)⟩
 |exit id=>exact⟨.exit id,d,f,i,λs q=> .head h0 g (j.1 s<|by simp[exitTo,q]),λhd q=>let⟨m,h1,t⟩:=j.2 hd (by simp[exitTo,q]);⟨m,h1,.head h0 g t⟩⟩
 |goto l=>exact i.elim
 |ret=>exact⟨_,d,f,i,.of_steps (.one h0 g) j⟩
 |panic u=>exact⟨_,d,f,i,.of_steps (.one h0 g) j⟩
 |outgrown=>exact⟨_,d,f,i,.of_steps (.one h0 g) j⟩
section
variable{P:jP}{N:Nd}{we:wP}{Se:wr->Prop}{ms:xS MF}{Γ:xS FF}{Q:Qs}{env:y4}{ops:ul ut}{d:ww Z4}{ty t:wT}{pos:String}{aft:ul Edge}{g:ww (wr×v6)}
def plB(P:jP)(t:wT):V (ul<|K×K):=match P.underlying t with
 |some (.struct fs)=>(fs.toList.mapM λf=>(P.info? f.type).map λi=>(f.offset,i.size)).map (·.toArray)
 |_=>wF
def P2(w:wP):∀(l:xS Field) (r:xS (K×K)),(l.mapM λf=>(P.info? f.type).map λi=>(f.offset,i.size))=Z r->(l.mapM (λf=>do pure (f.offset,<-WR f.type)):Sem (xS<|K×K)).run P w=.ok r w
 |[],r,h=>by simp at h;subst h;simp
 |f::l,r,h=>by
  rw[List.mapM_cons]at h
  cases hi:P.info? f.type with
  |none=>rw[hi]at h;simp at h
  |some i=>
   cases hl:(l.mapM λf=>(P.info? f.type).map λi=>(f.offset,i.size))with
   |none=>rw[hl]at h;simp at h
   |some q=>
    have a:=P2 w l q hl;have b:(WR f.type).run P w=.ok i.size w:=by simp[WR,WP,hi]
    simp_all
def ziR{pl:ul (K×K)}(h:plB P t=Z pl):∃fs,P.underlying t=Z (.struct fs)/\∀w,(fs.mapM (λf=>do pure (f.offset,<-WR f.type)):Sem (ul<|K×K)).run P w=.ok pl w:=by
 unfold plB at h;split at h
 ·next fs a=>
  refine⟨fs,a,λw=> ?_⟩
  cases hl:(fs.toList.mapM λf=>(P.info? f.type).map λi=>(f.offset,i.size))with
  |none=>rw[hl]at h;cases h
  |some q=>
   have:=P2 w fs.toList q hl;rw[Array.mapM_eq_mapM_toList];simp_all
 ·cases h
def wu8(n:K):xfR.wrap (n:J)=((n%256:K):J):=by
 rfl
def Nu{x e:K}(h:x=e%256):x<256:=h▸xaM _ iI
def b_r{x:K}(h:x<256):K8 (x:J):=⟨W,W⟩
def zgO{x y:wW}{s:Xs}{k:Z9}{j z:K}(a:P.underlying t=Z .string)(b:ev env x=.string s)(c:s=Lib.len8tab)(e:ev env y=.int k (j:J))(i:j<256)(f:z=xeX j)(w:wP):
 (jp (ev env) ⟨d,.index t x y,ty,pos,aft,g⟩).run P w=.ok (.value (.int .u8 (z:J))) w:=by
 subst c;subst f;have h:=Lib.run_index_len8tab w t k j a W W;rw[Lib.len8_of _ W W]at h;simp[jp,b,e,h]
theorem H6{j z:K}(a:j<256)(b:z=xeX j):z<256:=by
 have:=Lib.bitLen_le8' j W W;grind
theorem zdM{a:K->V (K×K)}{i off:K}{v:wN}{b c e:xS wN}{r:xS (K×wN)}(hp:a i=Z (off,v.cells.size))(f:X b=off)(hc:X c=v.cells.size):
 xdB a (b++c++e).toArray ((i,v)::r)=xdB a (b++v.cells.toList++e).toArray r:=by
 subst f;have h:v.cells.zipIdx.foldl (λcs (x:wN×K)=>cs.setIfInBounds (X b+x.2) x.1) (b++c++e).toArray=(b++v.cells.toList++e).toArray:=by
  apply Array.ext';rw[<-Array.foldl_toList,Array.toList_zipIdx,td (X b) v.cells.toList 0 _<|by simp;lia];simp_all
 conv=>lhs;unfold xdB
 grind
def Hs{α:Type}{e:zV α}{z0 z:α}{bytes:K}{a:wN}{parts:xS (K×wW)}{vs:xS (K×wN)}{pl:ul (K×K)}(c:Ja P t I e.n bytes a)(hc:e.agg=I)
 (h:∀(S:K->Prop) (w:wP),e.p S z0 a.cells.toList w) (hd:∃fs,P.underlying t=Z (.struct fs)/\∀w,(fs.mapM (λf=>do pure (f.offset,<-WR f.type)):Sem (ul<|K×K)).run P w=.ok pl w)
 (hv:parts.map (λx=>(x.1,ev env x.2))=vs) (q:xS wN->Prop) (i:∀(S:K->Prop) (w:wP),zE S Γ w->∀cs,cs=a.cells.toList->e.p S z0 cs w->∃out,xdB (pl[·]?) cs.toArray vs=Z out.toArray/\e.p S z out w/\q out):
 MJ P ⟨d,.build t parts.toArray,ty,pos,aft,g⟩ env ms Γ (λv:wN=>v) (λv=>[fV e z v]) (λv=>q v.cells.toList):=by
 intro w S _ _ b;have⟨out,h1,j,k⟩:=i S w b _ O<|h S w;refine ur.of_value (w':=w) (v:=.agg out.toArray) ?_ ⟨_,O,by simpa[xfL]using k,yv.refl _ _,⟨⟨out,by simp[zV.val,hc],j⟩,wR⟩⟩;have⟨fs,l,m⟩:=hd;have o:parts.toArray.map (λx=>(x.1,ev env x.2))=vs.toArray:=by rw[<-hv];simp
 simp only[jp,xay];have r:(Instr.build t<|parts.toArray.map λx=>(x.1,ev env x.2)).run P w=.ok (.agg out.toArray) w:=by
  rw[o];unfold Instr.build;simp only[xay,uo c,xal,kw l,m,h1,xaO]
 rw[r];rfl
end
end
section
def FI(D:K->v6)(i:K):K->v6:=λk=>D k||F k i
def se(D:K->v6)(i:K):FI D i i=I:=by simp[FI]
def NV{D:K->v6}{i k:K}(h:k≠i):FI D i k=D k:=by simp[FI,YG h]
def zjk{D:K->v6}{i k:K}(h:D k=I):FI D i k=I:=by simp[FI,h]
section
variable{P:jP}{N:Nd}{we:wP}{Se:wr->Prop}{ms:xS MF}{Γ:xS FF}{Q:Qs}{env0:y4}{l:xS ut}{m:wr}
def zl5{id:K}(m:K)(b:(K->v6)->y4->wP->Prop)(hm:P.follows .mixedOrders=I)(hc:W0 l m=I)(hd:(l.all λo=>jL N.n o.dst)=I)
 (hN:∀w,St we Se ms Γ w->b (λ_=>wL) env0 w)
 (step:∀(D:K->v6) (i:K) (env:y4) (w:wP),i<m->D i=wL->(∀j,D j=I->j<m)->(∀e∈(zW l i).after,xcs .any e=I->D e.on=I)->
  (∀j,D j=I->∀e∈(zW l j).after,xcs .any e=I->D e.on=I)->b D env w->
  (yV l.toArray env (zW l i)=I->ur P (zW l i) env w (λv w'=>b (FI D i) (put env (zW l i).dst v) w')\/OpP P (zW l i) env w (λS w'=>Q (.panic S) env w'))/\
  (yV l.toArray env (zW l i)=wL->b (FI D i) (put env (zW l i).dst uL) w))
 (z:∀(D:K->v6) (env:y4) (w:wP),(∀j,j<m->D j=I)->(∀j,D j=I->j<m)->b D env w->WpL P N l.toArray (l.drop m) Q env w):
 T P N we Se ms Γ (.region id l.toArray I) Q env0:=by
 intro w0 hO a0 hP hQ hR;have⟨h0,h1,h2,h3,hS⟩:=Zf hc;refine wpIn_region_any hm ?_;have p:∀{c:ul v6}{i:K},i<c.size->c.getD i I=c.getD i wL:=λ{c i} h=>by simp_all
 have A:∀{c:ul v6}{i:K},c.getD i wL=I->i<c.size:=λ{c i} h=>by
  obtain hp|hge:=xbS i c.size
  ·exact hp
  ·simp[xbG,Array.getElem?_eq_none hge]at h
 have G:∀(d:K) (c:ul v6) (a:V6) (w:wP),(xaY (X l)).countP (λk=> !c.getD k I)<=d->c.size=X l->a.tmps.size=N.n->a.defers=N.ds->
  (∀i,m<=i->i<X l->c.getD i I=wL)->
  (∀i,i<X l->c.getD i wL=I->∀e∈(zW l i).after,xcs .any e=I->c.getD e.on wL=I)->
  b (λi=>c.getD i wL) (yR a) w->U8 N.F 0 P .any l.toArray (zdD N Q) d c a w:=by
  intro d
  induction d with
  |zero=>
   intro c a w U B b1 b2 r hl C;have s:∀k,k<X l->c.getD k I=I:=λk f=>by
    have V:(xaY (X l)).countP (λk=> !c.getD k I)=0:=W
    rw[List.countP_eq_zero]at V;have:=V k<|xbd.2 f;simpa using this
   have hY:m=X l:=by
    rcases xbS m (X l) with hp|hge
    ·have E:=r m (IR _) hp;rw[s m hp]at E;cases E
    ·lia
   refine iE hc 0 m c a w (IR _) h0 W B (λk f=>by rw[s k f];simp;lia) ?_;exact z _ _ w (λj g=>by rw[<-p W];exact s j W) (λj g=>by have:=A g;lia) C a b1 b2 O
  |succ d ih=>
   intro c a w U B b1 b2 r hl C;by_cases s:∀k,k<m->c.getD k I=I
   ·have Y:∀k,k<X l->c.getD k I=decide (k<m):=λk f=>by
     by_cases H:k<m
     ·rw[s k H];simp[H]
     ·rw[r k W f];simp[H]
    refine iE hc (d+1) m c a w (IR _) h0 (xae ?_ U) B Y ?_
    ·rw[show(xaY (X l)).countP (λk=> !c.getD k I)=(xaY (X l)).countP (λk=> !decide (k<m))from List.countP_congr λk f=>by rw[Y k<|xbd.1 f]];exact zbl.count_ge m [] m (X l)
    ·refine z _ _ w (λj g=>by rw[<-p W];exact s j g) (λj g=> ?_) C a b1 b2 O;obtain h|h:=xbS j m
     ·exact h
     ·have J:=A g;rw[<-p J,r j h W]at g;cases g
   ·have hG:∃k,k<m/\c.getD k I=wL:=by
     by_cases hh:∃k,k<m/\c.getD k I=wL
     ·exact hh
     ·exact wS (λk f=>by
       cases q:c.getD k I
       ·exact wS ⟨k,f,q⟩ hh
       ·rfl) s
    refine⟨λhr=> ?_,λi hi=> ?_⟩
    ·exfalso;have⟨k,f,L,hH⟩:=zbl.first_un m [] hG;have:k∈xdZ .any l.toArray c:=mem_ready.2 ⟨L,zW l k,Yt W,λe x q=>by
      have E:=h1 k W e x q;have t:=hH e.on E;rwa[p (by lia:e.on<c.size)]at t⟩
     rw[hr]at this;cases this
    ·have⟨hu,o,M,hn⟩:=mem_ready.1 hi;have u:i<X l:=by simpa using(xbh.1 M).1
     rw[Yt u]at M;cases M;have hT:i<m:=by
      obtain h|h:=xbS i m
      ·exact h
      ·exfalso;by_cases hJ:m=i
       ·subst hJ;have⟨k,f,L⟩:=hG;have t:=a6 hl h1 16 m k u hn<|hS u k f;rw[<-p (by lia:k<c.size),L]at t;cases t
       ·have⟨e,x,q,hU⟩:=uK<|h3 i W u;have t:=hn e x q;rw[hU,<-p (by lia:i-1<c.size),r (i-1) W W]at t;cases t
     have R:i<c.size:=W
     have hV:jL N.n (zW l i).dst=I:=by
      rw[xaQ]at hd;refine hd _ ?_;have:zW l i=l[i]:=by simp[zW,u]
      rw[this];exact xcd _
     have hA:∀j,(λi=>c.getD i wL) j=I->j<m:=λj g=>by
      obtain h|h:=xbS j m
      ·exact h
      ·have J:=A g;have hK:c.getD j wL=I:=g;rw[<-p J,r j h W]at hK;cases hK
     have hs:=step (λi=>c.getD i wL) i (yR a) w hT (by rw[<-p R];exact hu) hA hn (λj g=>hl j (by have:=hA j g;lia) g) C;have hL:(λk=>(c.setIfInBounds i I).getD k wL)=FI (λi=>c.getD i wL) i:=by
      funext k;by_cases y:i=k
      ·subst y;rw[se];simp[R]
      ·rw[V1 wL y,NV<|λe=>y e.symm]
     have next:∀v w',b (FI (λi=>c.getD i wL) i) (put (yR a) (zW l i).dst v) w'->U8 N.F 0 P .any l.toArray (zdD N Q) d (c.setIfInBounds i I) (a.put (zW l i).dst v) w':=by
      intro v w' hv;refine ih _ _ w' ?_ (by simpa using B) (by rw[UU];exact b1) (by rw[X7];exact b2) (λk hW f=> ?_) (λk f hM e x q=> ?_) ?_
      ·have:=(sL R hu<|xaY (X l)).2<|xbd.2 u;lia
      ·rw[V1 I W];exact r k hW f
      ·by_cases y:i=k
       ·subst y;exact Ut<|hn e x q
       ·rw[V1 wL y]at hM;exact Ut<|hl k f hM e x q
      ·rw[Wz (by rw[b1];exact aa hV),hL];exact hv
     unfold wpOpIn;rw[Yt u];simp only[Wy];cases hB:yV l.toArray (yR a) (zW l i)
     ·simp only[xar,uS];exact⟨λ_ _=>wR,next undef w (hs.2 hB)⟩
     ·simp only[uP];obtain h|h:=hs.1 hB
      ·exact h.wp λv w' hX=>next v w' hX
      ·exact h.wp λS w' f=>⟨b1,b2,f⟩
 refine G l.toArray.size _ a0 _ ?_ iP hP hQ (λi hJ hi=>by simp[hi]) (λi hi hp=> ?_) ?_
 ·exact xae (List.countP_le_length) iP
 ·have:=A hp;rw[<-p this]at hp;simp[hi]at hp
 ·have hf:(λi=>(xeE l.toArray.size wL).getD i wL)=λ_=>wL:=by
   funext i;simp only[xbG,Array.getElem?_replicate];split<;>rfl
  rw[hf,hR];exact hN _<|hO.ext<|J4.drawn w0 _
end
end
section
def Yi{S:K->Prop}{w:wP}:∀{ms:N MF},yT S ms w↔∀m∈ms,m.p S w
 |[]=>⟨λ_ m h=>wS h H1,λ_=>wR⟩
 |m::r=>by
  have a:=Yi (S:=S) (w:=w) (ms:=r);constructor
  ·intro h x hx;obtain rfl|hx:=xag.1 hx
   ·exact h.1
   ·exact a.1 h.2 x hx
  ·intro h;exact⟨h m<|FS,a.2 λx hx=>h x<|UV _ hx⟩
def CY:∀{ms:N MF},QE ms↔ms.Pairwise (λm m'=>∀k,m.blk k->¬m'.blk k)
 |[]=>⟨λ_=>List.Pairwise.nil,λ_=>wR⟩
 |m::r=>by
  rw[xdC];have c:=CY (ms:=r);exact⟨λh=>⟨λm' a k b=>h.1 k b m' a,c.1 h.2⟩,λh=>⟨λk b m' a=>h.1 m' a k b,c.2 h.2⟩⟩
def St.perm{we:wP}{Se:K->Prop}{ms a:N MF}{Γ:N FF}{w:wP}(h:St we Se ms Γ w)(hp:ms.Perm a):St we Se a Γ w:=by
 have⟨h1,c,d,S,e,f,g,i,j⟩:=h;refine⟨h1,c,CY.2<|(hp.pairwise_iff λ{x y} l k n hc=>l k hc n).1<|CY.1 d,S,e,f,λm b=>g m<|hp.mem_iff.2 b,Yi.2 λm b=>Yi.1 i m<|hp.mem_iff.2 b,j⟩
def zey:wN->V K
 |.pointer (Z ⟨b,_,_⟩)=>Z b
 |_=>wF
def mP{α:Type}(e:o6 α)(E:wT)(v:wN)(z:α):MF where
 blk k:=zey v=Z k
 p S w:=∃b,v=.pointer (Z ⟨b,0,wF⟩)/\(mB e E b z).p S w
 keep:=λ⟨b,h1,a⟩ k d=>⟨b,h1,(mB e E b z).keep a k λi hi=>d i<|by rw[h1];exact hi⟩
 sub:=λ⟨b,h1,a⟩ k=>⟨b,h1,(mB e E b z).sub a k⟩
 lt:=λ⟨b,h1,a⟩ k c=>(mB e E b z).lt a k<|by rw[h1]at c;exact c
def St.openP{α:Type}{e:o6 α}{E:wT}{v:wN}{z:α}{we:wP}{Se:K->Prop}{ms:N MF}{Γ:N FF}{w:wP}(i:K)(h:St we Se ms Γ w)(a:ms[i]? =Z (mP e E v z)):
 ∃b,v=.pointer (Z ⟨b,0,wF⟩)/\St we Se (ms.set i<|mB e E b z) Γ w:=by
 have⟨S,hp,_⟩:=h.muts a;have⟨b,hv,_⟩:=hp;subst hv;exact⟨b,O,h.conv a O λS ⟨d,h1,c⟩=>by cases h1;exact c⟩
def St.toP{α:Type}{e:o6 α}{E:wT}{b:K}{z:α}{we:wP}{Se:K->Prop}{ms:N MF}{Γ:N FF}{w:wP}(i:K)(h:St we Se ms Γ w)(a:ms[i]? =Z (mB e E b z)):
 St we Se (ms.set i<|mP e E (.pointer<|some ⟨b,0,wF⟩) z) Γ w:=h.conv a O λS h=>⟨b,O,h⟩
def TS{K:N (Z4×Pr)}{env0 env:y4}{S:wr->Prop}{w w':wP}{t:Z4}(h:Y4 K env0 env S w t)(k:yv S w w'):Y4 K env0 env S w' t:=by grind [Y4,Pr.keepS]
def zd3{K:N (Z4×Pr)}{env0 env:y4}{S a:wr->Prop}{w:wP}{t:Z4}(h:Y4 K env0 env S w t)(k:∀k,k<w.heap.size->S k->a k):Y4 K env0 env a w t:=by grind [Y4,Pr.sub]
def If(K:N (Z4×Pr))(env0 env:y4)(ts:N Z4):FF where
 p S w:=Vk K env0 env S w ts
 keep:=λ{S w w'} h k=>by
  induction ts with
  |nil=>trivial
  |cons t ts a=>exact⟨TS h.1 k,a h.2⟩
 sub:=λ{S b w} h k=>by
  induction ts with
  |nil=>trivial
  |cons t ts a=>exact⟨zd3 h.1 k,a h.2⟩
structure Res where
 a:V K
 t:Z4
 w:V K
 mf:v6->wN->MF
def Res.done(r:Res)(D:K->v6):v6:=match r.w with
 |some i=>D i
 |none=>wL
def Res.here(r:Res)(D:K->v6):v6:=match r.a with
 |some i=>D i
 |none=>I
def av(rs:N Res)(D:K->v6)(env:y4):N MF:=rs.filterMap λr=>bif r.here D then Z (r.mf (r.done D)<|env r.t)else wF
def zsl(l:N ut)(i j:K):v6:=match(zW l i).dst with
 |some t=>(zW l j).dst==Z t
 |none=>wL
section
variable{P:jP}{N:Nd}{we:wP}{Se:wr->Prop}{ms:xS MF}{Γ:xS FF}{Q:Qs}{env0:y4}{l:xS ut}{m:wr}
def Bw(L:xS (ut×Pr))(D:K->v6)(env:y4):FF where
 p S w:=∀i x t,D i=I->L[i]? =Z x->x.1.dst=Z t->x.2.p S (env t) w
 keep:=λh k i x t h1 a b=>x.2.keepS (h i x t h1 a b) k
 sub:=λh k i x t h1 a b=>x.2.sub (h i x t h1 a b) k
end
section
variable{P:jP}{N:Nd}{we:wP}{Se:wr->Prop}{ms:xS MF}{Γ:xS FF}{env:y4}{d:ww Z4}{ty t:wT}{pos:String}{aft:ul Edge}{g:ww (wr×v6)}
def zez{α:Type}{e:zV α}{c:wT}{zs:xS α}{len bytes:K}{a:wN}{parts:xS (K×wW)}{vs:xS (K×wN)}(m:P.underlying t=Z (.slice c))(hd:Ja P c e.agg e.n bytes a)
 (hn:0<e.n) (hc:X zs=len) (z:len*e.n<=16777216) (hv:parts.map (λx=>(x.1,ev env x.2))=vs)
 (o:∀(S:K->Prop) (w:wP),zE S Γ w->aX (λi=>Z (i*e.n,e.n)) vs 0) (hp:∀(S:K->Prop) (w:wP),zE S Γ w->yP e S zs (jN vs) w):
 OG P ⟨d,.buildSlice t len parts.toArray,ty,pos,aft,g⟩ env we Se ms Γ (λv:wN=>v) (λv=>mO e c v zs::ms) (λ_=>Γ) (λ_=>Z5):=by
 intro w h;have⟨S0,A,b⟩:=h.ex;have hi:=hp S0 w b;have hl:X (jN vs)=len*e.n:=by rw[hi.len,hc]
 have B:len<=9223372036854775807:=by have:len<=len*e.n:=xcm _ hn;lia
 refine ur.of_value (w':=w.alloc (.cells (jN vs).toArray c)) (v:=.slice (Z ⟨w.heap.size,0,wF⟩) len len) ?_ ⟨_,O,wR,?_⟩
 ·have p:parts.toArray.map (λx=>(x.1,ev env x.2))=vs.toArray:=by rw[<-hv];simp
  have j:xdB (λi=>Z (i*e.n,e.n)) ((xeR<|len*e.n).map (a.cells[·%a.cells.size]!)) vs=Z (jN vs).toArray:=by
   have:=r7 vs [] ((xeR<|len*e.n).map (a.cells[·%a.cells.size]!)).toList (o S0 w b) (by simp[hl]);rw[xbH,xdh,xbH,xbW (by simp[hl]),xbB]at this;lia
  have q:(xez t len<|parts.toArray.map λx=>(x.1,ev env x.2)).run P w=.ok (.slice (Z ⟨w.heap.size,0,wF⟩) len len) (w.alloc (.cells (jN vs).toArray c)):=by
   rw[p];unfold xez;simp only[xay,kw m,xal,wo hd,ir (W:¬len*e.n>2^24),aC];by_cases h0:len*e.n=0
   ·have C:jN vs=[]:=xbe (by rw[hl,h0]);have r:xdB (λi=>Z (i*e.n,e.n)) ((xeR 0).map ((#[]:ul wN)[·%(#[]:ul wN).size]!)) vs=Z (jN vs).toArray:=by
     have l:∀f:K->wN,(xeR 0).map f= #[]:=λf=>by simp
     rw[<-j,h0,l,l]
    simp only[h0,uP];simp only[r,xay,WS,xal,xaO]
   ·simp only[ir h0,xay,uo hd,xal,xaO,j,WS]
  simp only[jp,xay,q,xal,xaO]
 ·have s:St we Se (mR e c w.heap.size zs::ms) Γ (w.alloc (.cells (jN vs).toArray c)):=by
   refine h.fresh (J4.alloc w _) O iP ?_;intro S D b;refine⟨_,Wt w _,?_⟩;exact((hp S w b).sub λk u y=>⟨y,Nat.ne_of_lt u⟩).keep (J4.alloc w _).to
  exact zjQ (n:=len) 0 s O hc.symm W
end
def zlQ{P:jP}{env:y4}{d:V Z4}{ty t:wT}{pos:String}{aft:ul Edge}{g:V (K×v6)}{x:wW}{b:v6}(h:ev env x=.bool b)(w:wP):
 (jp (ev env) ⟨d,.unOp .not t x,ty,pos,aft,g⟩).run P w=.ok (.value (.bool !b)) w:=du (by show(match ev env x with|xeB t=>Z (xeB !t)|_=>wF)=_;rw[h]) w
abbrev iv(x:J):wN:=.int .i64 x
abbrev uv(x:K):wN:=.int .u64 (x:J)
def nz{p:Prop}(h:I=wL):p:=by cases h
def pvL(N:K)(b:ul ut):xS ut->y4->xS (K×wN)->V (xS<|K×wN)
 |[],_,a=>Z a
 |o::r,env,a=>match o.dst with
  |some d=>bif jL N (Z d)then(bif yV b (L a env) o then(match pv o (L a env)with
   |some v=>pvL N b r env ((d,v)::a)
   |none=>wF)else(match o.guard with
   |some (j,c)=>bif gd b (L a env) j==Z (!c)then pvL N b r env ((d,uL)::a)else wF
   |none=>wF))else wF
  |none=>wF
def LP{N:K}{c:ul ut}:∀(l:xS ut) (env:y4) (b a:xS (K×wN)),pvL N c l env b=Z a->AD N c l (L b env)=Z (L a env)
 |[],env,b,a,h=>by cases h;rfl
 |o::r,env,b,a,h=>by
  unfold pvL at h;unfold AD
  cases hd:o.dst with
  |none=>rw[hd]at h;cases h
  |some d=>
   rw[hd]at h;simp only at h;cases i:jL N (Z d)
   ·simp_all
   ·rw[i]at h;simp only[Wd]at h⊢;cases f:yV c (L b env) o
    ·rw[f]at h;simp only[XS]at h⊢;split at h
     ·next j e k=>
      cases g:(gd c (L b env) j==Z (!e))
      ·simp_all
      ·rw[g]at h;simp only[k,g,Wd]at h⊢;exact LP r env _ a h
     ·cases h
    ·rw[f]at h;simp only[Wd]at h⊢
     cases hp:pv o (L b env)with
     |none=>rw[hp]at h;cases h
     |some v=>rw[hp]at h;exact LP r env _ a h
def Xf{P:jP}{N:Nd}{we:wP}{Se:K->Prop}{ms:xS MF}{Γ:xS FF}{Q:Qs}{b:ul ut}(n:K)(a:xS (K×wN)){l:xS ut}{env:y4}
 (h:pvL N.n b (l.take n) env []=Z a) (k:TL P N we Se ms Γ b (l.drop n) Q (L a env)):TL P N we Se ms Γ b l Q env:=by
 rw[<-xbA n l];exact bE _ _ _ _ (LP _ env [] a h) k
def cpy{α:Type}(xs ys:N α):N α:=xdu (min (X ys) (X xs)) ys++xdI (min (X ys) (X xs)) xs
def lZ{α:Type}(lo n:K)(xs ys:N α):N α:=xdu lo xs++xdu (min (X ys) n) ys++xdI (lo+min (X ys) n) xs
end
section
set_option maxRecDepth 100000
def z2(S:K->Prop)(w:wP):(eI).p S 0 (xfL (.int .i64 0)).toList w:=⟨O,iI,iI⟩
def z3(S:K->Prop)(w:wP):(eI).p S 0 (xfL (.int .i64 0)).toList w:=⟨O,iI,iI⟩
def z4(S:K->Prop)(w:wP):(R9).p S wL (xfL (.bool wL)).toList w:=O
def zpO:Ja Tryz.prog 54 wL 1 8 (.int .u64 0):=Ja.of iT
end
section
open Go.ChangeShapes Go.WideShapes Go.ChangeAt Go.RowKit
variable{W W':wP}
def SI(a:J4 W W')(b:Us->Prop):W.keptBut W' b:=by
 refine⟨a.os,a.output,λi hi=> ?_⟩;rw[a.block i hi wR]
 cases h:W.heap[i]? with
 |none=>rfl
 |some o=>cases o<;>simp
def ziv{H:Type}{enc:wT×wN->H}{P:jP}{f:QR}{s:ChangeSpec}{c d i:v6}{args:ul wN}{v:wN}{ds e:N (g8 H)}{a pa pv:N Us}(g:DataW.Whole enc P f.params.toList s.vars c W args.toList ds e a)(j:∀(b:K) (sp:K->v6) (hd:v6),xeM enc P W' b sp hd f.resultTypes.toList (v.resultList f.resultTypes.size) (s.fn H<|ds++e).results [])(k:∀sp:K->v6,(∀p∈a,sp p.block=I)->xeM enc P W' 0 sp I f.params.toList args.toList (s.fn H<|ds++e).args pa)(hc:∀sp:K->v6,(∀p∈a,sp p.block=I)->DataW.TrodVars enc P W' sp s.vars (s.fn H<|ds++e).vars pv)(m:a=pa++pv)(l:J4 W W'):s.post enc P f c d i wL W args v W':=
 ⟨ds,e,a,[],pa,pv,g,j _ _ _,k _ (λp hp=>by simpa using g.lt p hp),hc _ (λp hp=>by simpa using g.lt p hp),SI l _,λh=>by cases h⟩
end
section
def DQ{S:K->Prop}{w:wP}:∀{A B:N MF},yT S (A++B) w↔yT S A w/\yT S B w
 |[],_=>⟨λh=>⟨wR,h⟩,λh=>h.2⟩
 |a::A,B=>by
  have b:=DQ (S:=S) (w:=w) (A:=A) (B:=B);exact⟨λh=>⟨⟨h.1,(b.1 h.2).1⟩,(b.1 h.2).2⟩,λh=>⟨h.1.1,b.2 ⟨h.1.2,h.2⟩⟩⟩
def tG:∀{A B:N MF},QE (A++B)↔QE A/\QE B/\∀m∈A,∀k,m.blk k->∀m'∈B,¬m'.blk k
 |[],B=>⟨λh=>⟨wR,h,λm hm=>wS hm H1⟩,λh=>h.2.1⟩
 |a::A,B=>by
  have d:=tG (A:=A) (B:=B);constructor
  ·intro h;have⟨h1,c,e⟩:=d.1 h.2;refine⟨⟨λk b m' hm'=>h.1 k b m'<|So.2 (.inl hm'),h1⟩,c,λm hm k b m' hm'=> ?_⟩;obtain rfl|hm:=xag.1 hm
   ·exact h.1 k b m'<|So.2 (.inr hm')
   ·grind
  ·rintro⟨⟨h1,c⟩,e,f⟩;refine⟨λk b m' hm'=> ?_,d.2 ⟨c,e,λm hm=>f m<|UV _ hm⟩⟩;obtain hm'|hm':=So.1 hm'
   ·simp_all
   ·simp_all
def E4(G:N MF):MF where
 blk k:=∃m∈G,m.blk k
 p S w:=yT S G w/\QE G
 keep:=λh k b=>⟨yT.keep k (λm a i hi=>b i ⟨m,a,hi⟩) h.1,h.2⟩
 sub:=λh k=>⟨yT.sub k h.1,h.2⟩
 lt:=λh k ⟨m,a,c⟩=>yT.lt h.1 m a k c
def St.grp{we:wP}{Se:K->Prop}{G ms:N MF}{Γ:N FF}{w:wP}:St we Se (E4 G::ms) Γ w↔St we Se (G++ms) Γ w:=by
 constructor
 ·rintro⟨h1,d,c,S,e,f,i,b,g⟩;refine⟨h1,d,tG.2 ⟨b.1.2,c.2,λm hm k a m' h=>c.1 k ⟨m,hm,a⟩ m' h⟩,S,e,f,λm hm k a=> ?_,DQ.2 ⟨b.1.1,b.2⟩,g⟩;obtain hm|hm:=So.1 hm
  ·exact i (E4 G) (FS) k ⟨m,hm,a⟩
  ·grind
 ·rintro⟨h1,d,c,S,e,f,i,b,g⟩;have⟨j,l,a3⟩:=tG.1 c;have⟨n,o⟩:=DQ.1 b;refine⟨h1,d,⟨λk a m' h=>by have⟨m,hm,a⟩:=a;exact a3 m hm k a m' h,l⟩,S,e,f,λm hm k a=> ?_,⟨⟨n,j⟩,o⟩,g⟩;obtain rfl|hm:=xag.1 hm
  ·have⟨m,hm,a⟩:=a;grind
  ·grind
def YO(hv:N wN):zV K where
 n:=1
 agg:=wL
 n1 _:=O
 p _ r cs _:=∃u,hv[r]? =Z u/\u.oneCell'=I/\cs=[u]
 len:=by rintro _ _ _ _ ⟨u,_,_,rfl⟩;rfl
 one:=by rintro _ _ _ _ ⟨u,_,a,rfl⟩ c hc;rw[xad]at hc;subst hc;exact a
 keep h _:=h
 sub h _:=h
def zbs{hv:N wN}{r:K}{u:wN}{S:K->Prop}{w:wP}(h:hv[r]? =Z u)(h1:u.oneCell'=I):(fV (YO hv) r u).p S w:=⟨[u],O,u,h,h1,O⟩
def zcS{hv:N wN}{r:K}{v:wN}{S:K->Prop}{w:wP}(h:(fV (YO hv) r v).p S w):hv[r]? =Z v:=by
 obtain⟨cs,rfl,u,h1,_,rfl⟩:=h;exact h1
def Si{hv b:N wN}{S:K->Prop}{w:wP}:∀{ix:N K}{cs:N wN},yP (YO hv) S ix cs w->yP (YO<|hv++b) S ix cs w
 |[],_,h=>h
 |r::ix,cs,⟨c,q,h1,⟨u,a,d,e⟩,f⟩=>⟨c,q,h1,⟨u,by rw[xbj (xax.1 a).1];exact a,d,e⟩,Si f⟩
def zcC{hv a:N wN}{E:wT}{v:wN}{ix:N K}{S:K->Prop}{w:wP}(h:(mO (YO hv) E v ix).p S w):(mO (YO<|hv++a) E v ix).p S w:=by
 have⟨cs,h1,b⟩:=h;exact⟨cs,h1,Si b⟩
def vG{α:Type}(e:zV α)(E:wT):N wN->N (N α)->N MF
 |u::hv,xs::a=>mO e E u xs::vG e E hv a
 |_,_=>[]
theorem Jk{α:Type}{e:zV α}{E:wT}:∀{hv:N wN}{a:N (N α)}{r:K}{u:wN}{xs:N α},hv[r]? =Z u->a[r]? =Z xs->(vG e E hv a)[r]? =Z (mO e E u xs)
 |u'::hv,c::a,0,u,xs,h1,b=>by
  simp only[xbZ,xat]at h1 b;subst h1;subst b;rfl
 |u'::hv,c::a,r+1,u,xs,h1,b=>Jk (hv:=hv) (by simpa using h1)<|by simpa using b
 |[],_,r,_,_,h1,_=>by simp at h1
 |_::_,[],r,_,_,_,b=>by simp at b
def Ig{α:Type}{e:zV α}{E:wT}:∀{hv:N wN}{a:N (N α)}{r:K}{u:wN}{ys:N α},hv[r]? =Z u->(vG e E hv a).set r (mO e E u ys)=vG e E hv (a.set r ys)
 |u'::hv,b::a,0,u,ys,h1=>by
  simp only[xbZ,xat]at h1;subst h1;rfl
 |u'::hv,b::a,r+1,u,ys,h1=>by
  show mO e E u' b::(vG e E hv a).set r (mO e E u ys)=mO e E u' b::vG e E hv (a.set r ys);rw[Ig<|by simpa using h1]
 |[],_,r,_,_,h1=>by simp at h1
 |u'::hv,[],r,u,ys,h1=>by cases r<;>rfl
def Eu{α:Type}{e:zV α}{E:wT}{u:wN}{xs:N α}:∀{hv:N wN}{a:N (N α)},X hv=X a->vG e E (hv++[u]) (a++[xs])=vG e E hv a++[mO e E u xs]
 |[],[],_=>rfl
 |u'::hv,b::a,h=>by
  show mO e E u' b::vG e E (hv++[u]) (a++[xs])=_;rw[Eu<|by simpa using h];rfl
 |[],_::_,h=>by cases h
 |_::_,[],h=>by cases h
def ziS{α:Type}(e:zV α)(E E1:wT)(v:wN)(hv:N wN)(a:N (N α))(ix:N K):MF:=E4 (mO (YO hv) E v ix::vG e E1 hv a)
section
variable{α:Type}{e:zV α}{E E1:wT}{v:wN}{hv:xS wN}{xss:xS (xS α)}{ix:xS wr}{we:wP}{Se:wr->Prop}{ms:xS MF}{Γ:xS FF}{w:wP}
theorem zjr{r:K}{u:wN}{xs:N α}(h1:hv[r]? =Z u)(a:xss[r]? =Z xs)(ms:N MF):((mO (YO hv) E v ix::vG e E1 hv xss)++ms)[r+1]? =Z (mO e E1 u xs):=by grind [Jk,xbj]
def PQ{r:K}{u:wN}{ys:N α}(h1:hv[r]? =Z u)(a:r<X xss)(hl:X hv=X xss)(ms:N MF):((mO (YO hv) E v ix::vG e E1 hv xss)++ms).set (r+1) (mO e E1 u ys)=(mO (YO hv) E v ix::vG e E1 hv (xss.set r ys))++ms:=by
 have b:=xak a;have h:=Jk (e:=e) (E:=E1) h1 b;have c:=(xax.1 h).1;rw[xfG _ _ (by simpa using c),xfd,Ig h1]
def St.adopt{u:wN}{ys:N α}(hl:X hv=X xss)(h:St we Se (ziS e E E1 v hv xss ix::mO e E1 u ys::ms) Γ w):St we Se (ziS e E E1 v (hv++[u]) (xss++[ys]) ix::ms) Γ w:=by
 have h1:=St.grp.1 h;have a:St we Se ((mO (YO hv) E v ix::vG e E1 (hv++[u]) (xss++[ys]))++ms) Γ w:=by
  rw[Eu hl];simp_all
 have b:=a.conv (i:=0) (m':=mO (YO<|hv++[u]) E v ix) O O λS hp=>zcC hp;exact St.grp.2 b
def zer{S a:K->Prop}(c:∀k,S k->a k)(d:∀m∈vG e E1 hv xss,∀k,m.blk k->a k)(h:yT S (vG e E1 hv xss) w){r:K}{u:wN}{xs:N α}(h1:hv[r]? =Z u)(b:xss[r]? =Z xs):(fV (eS e) xs u).p a w:=
 rI c (λk f=>d _ (xby<|Jk h1 b) k f) (yT.get h<|Jk h1 b)
def tP{S a:K->Prop}(hl:X hv=X xss)(b:∀k,S k->a k)(d:∀m∈vG e E1 hv xss,∀k,m.blk k->a k)(h:yT S (vG e E1 hv xss) w):∀{ix:N K}{cs:N wN},yP (YO hv) S ix cs w->yP (eS e) a (ix.map λr=>xss.getD r []) cs w
 |[],_,h=>h
 |r::ix,cs,⟨c,q,h1,⟨u,f,l,g⟩,i⟩=>by
  have n:=(xax.1 f).1;have j:xss[r]? =Z (xss.getD r []):=by simp_all
  exact⟨c,q,h1,⟨u,g,xC.1<|zer b d h f j⟩,tP hl b d h i⟩
def St.mat_frz(hl:X hv=X xss)(h:St we Se (ziS e E E1 v hv xss ix::ms) Γ w):St we Se ms (fV (eS<|eS e) (ix.map λr=>xss.getD r []) v::Γ) w:=by
 refine h.freeze (i:=0) O λS c d b hp=> ?_;have⟨⟨⟨cs,h1,f⟩,g⟩,_⟩:=hp;have j:=λm l k a=>b k ⟨m,UV _ l,a⟩;have n:(mO (eS e) E v<|ix.map λr=>xss.getD r []).p c w:=⟨cs,by rw[xaZ];exact h1,tP hl d j g f⟩;exact rI (λk a=>a) (λk a=>b k ⟨_,FS,a⟩) n
end
def mPr(p:Prop):MF where
 blk _:=V3
 p _ _:=p
 keep h _ _:=h
 sub h _:=h
 lt _ _ a:=a.elim
def yC:wN->wN
 |.tuple us=>us.toList.headD uL
 |_=>uL
def xM:wN->N wN
 |.tuple us=>us.toList.tail
 |_=>[]
def K6(v:wN)(hv:N wN):wN:=.tuple (v::hv).toArray
def Aq{α:Type}(e:zV α)(E E1:wT)(u:wN)(a:N (N α))(ix:N K):MF:=E4 (mPr (X (xM u)=X a)::mO (YO<|xM u) E (yC u) ix::vG e E1 (xM u) a)
def mBo{α:Type}(e:zV α)(E a:wT)(u:wN)(xs:N α):MF:=E4 [mPr<|X (xM u)=1,mP (YO<|xM u).c a (yC u) 0,mO e E ((xM u).headD uL) xs]
def mHo(a:wT)(u:wN):MF:=E4 [mPr<|X (xM u)=1,mP (YO<|xM u).c a (yC u) 0]
end
section
def oP{α:Type}(e:zV α)(S:K->Prop):V α->N wN->wP->Prop
 |none,cs,_=>cs=[.pointer wF]
 |some y,cs,w=>∃v,cs=[v]/\(fP e y v).p S w
def eO{α:Type}(e:zV α):zV (V α)where
 n:=1
 agg:=wL
 n1 _:=O
 p S x cs w:=oP e S x cs w
 len:=by
  intro S x cs w h
  cases x with
  |none=>rw[show cs=_ from h];rfl
  |some y=>obtain⟨v,rfl,_⟩:=h;rfl
 one:=by
  intro S x cs w h c hc
  cases x with
  |none=>rw[show cs=_ from h]at hc;rw[xad.1 hc];rfl
  |some y=>obtain⟨v,rfl,b,o,d,rfl,_⟩:=h;rw[xad.1 hc];rfl
 keep:=by
  intro S x cs w w' h k
  cases x with
  |none=>exact h
  |some y=>have⟨v,h1,a⟩:=h;exact⟨v,h1,(fP e y v).keep a k⟩
 sub:=by
  intro S f x cs w h k
  cases x with
  |none=>exact h
  |some y=>have⟨v,h1,a⟩:=h;exact⟨v,h1,(fP e y v).sub a k⟩
section
variable{α:Type}{e:zV α}{S:wr->Prop}{w:wP}{v:wN}
def zoU(h:(fV (eO e) wF v).p S w):v=.pointer wF:=by
 obtain⟨cs,rfl,h⟩:=h;rw[show cs=_ from h];rfl
def zph:(fV (eO e) wF (.pointer wF)).p S w:=⟨[.pointer wF],O,O⟩
def zh3{y:α}(h:(fV (eO e) (Z y) v).p S w):(fP e y v).p S w:=by
 obtain⟨cs,rfl,v,rfl,h⟩:=h;exact h
def zp0{y:α}(h:(fP e y v).p S w):(fV (eO e) (Z y) v).p S w:=⟨[v],O,v,O,h⟩
def zno{x:V α}(h:(fV (eO e) x v).p S w):∃p,v=.pointer p/\p.isNone=x.isNone:=by
 cases x with
 |none=>exact⟨_,zoU h,O⟩
 |some y=>have⟨b,o,cs,h1,_⟩:=zh3 h;exact⟨_,h1,O⟩
end
def eW{α:Type}(e:zV α):zV α where
 n:=e.n
 agg:=I
 n1 h:=by cases h
 p:=e.p
 len:=e.len
 one:=e.one
 keep:=e.keep
 sub:=e.sub
def Sub.wrap{α:Type}(e:zV α)(x:α):Sub (eW e).c x 0 e x id:=λS w cs h=>Sub.self e x S w cs h
def UM{α:Type}(e:zV α)(off:K)(nl:α->α)(hv:N wN):o6 (α×K)where
 p S z cs w:=∃u,hv[z.2]? =Z u/\u.oneCell'=I/\cs[off]? =Z u/\e.p S (nl z.1) (cs.set off (.slice wF 0 0)) w
 keep:=λ⟨u,h1,a,b,c⟩ k=>⟨u,h1,a,b,e.keep c k⟩
 sub:=λ⟨u,h1,a,b,c⟩ k=>⟨u,h1,a,b,e.sub c k⟩
def mVr{α β:Type}(q:Prop)(e:zV α)(E off:K)(nl:α->α)(s:zV β)(E1:wT)(u:wN)(z:α)(xs:N β):MF:=E4 [mPr<|X (xM u)=1/\q,mP (UM e off nl<|xM u) E (yC u) (z,0),mO s E1 ((xM u).headD uL) xs]
def mVh{α:Type}(q:Prop)(e:zV α)(E off:K)(nl:α->α)(u:wN)(z:α):MF:=E4 [mPr<|X (xM u)=1/\q,mP (UM e off nl<|xM u) E (yC u) (z,0)]
def eRw(n:K)(ag:v6)(hn:ag=wL->n=1):zV (V<|N wN)where
 n:=n
 agg:=ag
 n1:=hn
 p _ x cs _:=X cs=n/\(∀c∈cs,c.oneCell'=I)/\∀l,x=Z l->cs=l
 len h:=h.1
 one h:=h.2.1
 keep h _:=h
 sub h _:=h
section
variable{α β γ:Type}{e:zV α}{s:zV β}{g:zV γ}{off o:wr}{nl:α->α}{hv hv':xS wN}{S:wr->Prop}{w:wP}{cs:xS wN}
theorem zlU{z:α×K}(h:(UM e off nl hv).p S z cs w):(eRw e.n e.agg e.n1).p S wF cs w:=by
 have⟨u,h1,b,d,a⟩:=h;have hl:=e.len a;rw[xbt]at hl;refine⟨hl,λc hc=> ?_,λl hl=>by cases hl⟩;have⟨k,f⟩:=xfw.1 hc;by_cases e1:k=off
 ·simp_all
 ·refine e.one a c<|xfw.2 ⟨k,?_⟩;grind
def zm6{x:α}{v:wN}(h:(fV e x v).p S w):(fV (eRw e.n e.agg e.n1) (Z v.cells.toList) v).p S w:=by
 obtain⟨cs,rfl,a⟩:=h;refine⟨cs,O,e.len a,e.one a,λl hl=> ?_⟩;cases hl;exact(e.val_cells a).symm
def ziN{z:α×K}(h:(UM e off nl hv).p S z cs w):(UM e off nl<|hv++hv').p S z cs w:=by
 have⟨u,h1,a⟩:=h;exact⟨u,by rw[xbj (xax.1 h1).1];exact h1,a⟩
def zpI{z:α}{r a:K}(b:hv[r]? =hv'[a]?)(h:(UM e off nl hv).p S (z,r) cs w):(UM e off nl hv').p S (z,a) cs w:=by
 have⟨u,h1,c⟩:=h;exact⟨u,b▸h1,c⟩
def Sub.hole{z:α}{r:K}:Sub (UM e off nl hv) (z,r) off (YO hv) r (λa=>(z,a)):=by
 rintro S w cs ⟨u,h1,c,d,f⟩;have⟨h,i⟩:=xax.1 d;refine⟨cs.take off,[u],cs.drop<|off+1,?_,by rw[xas];lia,⟨u,h1,c,O⟩,?_⟩
 ·rw[<-i];simp
 ·rintro w' a m k ⟨b,j,l,rfl⟩;have hl:X (cs.take off)=off:=by rw[xas];lia
  refine⟨b,j,l,?_,?_⟩
  ·simp_all
  ·have e1:(cs.take off++[b]++cs.drop (off+1)).set off (.slice wF 0 0)=cs.set off (.slice wF 0 0):=by
    have n:cs.set off (.slice wF 0 0)=cs.take off++ .slice wF 0 0::cs.drop (off+1):=by rw[xdY,iq h]
    simp_all
   rw[e1];exact e.keep f k
def Sub.other{z:α}{r:K}{y:γ}{up:γ->α}(h:Sub e.c (nl z) o g y λy=>nl<|up y)(hd:o+g.n<=off\/off+1<=o):Sub (UM e off nl hv) (z,r) o g y (λy=>(up y,r)):=by
 rintro S w cs ⟨u,h1,q,C,D⟩;have⟨a,c,b,f,t,m,v⟩:=h S w _ D;have⟨x,E⟩:=xax.1 C;have hi:=g.len m;have hc:cs=(cs.set off (.slice wF 0 0)).set off u:=by rw[List.set_set,<-E,xda]
 obtain hd|hd:=hd
 ·have F:off-X (a++c)<X b:=by
   have:X (cs.set off (.slice wF 0 0))=X cs:=xbt;rw[f,xaq]at this;rw[xaq]at this⊢;lia
  have A:X (a++c)<=off:=by rw[xaq];lia
  refine⟨a,c,b.set (off-X (a++c)) u,?_,t,m,?_⟩
  ·rw[hc,f,xfx _ _ A]
  ·intro w' y' d k j;have p:=v w' y' d k j;have G:=g.len j;have B:X (a++d)=X (a++c):=by rw[xaq,xaq,hi,G]
   refine⟨u,h1,q,?_,?_⟩
   ·rw[xbz W,B,xdW F]
   ·have:(a++d++b.set (off-X (a++c)) u).set off (.slice wF 0 0)=a++d++b:=by
     rw[xfx _ _ W,B,List.set_set];have hp:b[off-X (a++c)]? =Z (.slice wF 0 0):=by
      have:=kW (λl:N wN=>l[off]?) f;simp only[xdW x]at this;rw[xbz A]at this;exact this.symm
     have⟨_,hp⟩:=xax.1 hp;rw[<-hp,xda]
    rw[this];exact p
 ·have i:off<X a:=W
  refine⟨a.set off u,c,b,?_,by rw[xbt];exact t,m,?_⟩
  ·rw[hc,f,xao,xfG _ _ i,xao]
  ·intro w' y' d k j;have p:=v w' y' d k j;refine⟨u,h1,q,?_,?_⟩
   ·rw[xao,xbj (by rw[xbt];exact i),xdW i]
   ·have:(a.set off u++d++b).set off (.slice wF 0 0)=a++d++b:=by
     rw[xao,xfG _ _ (by rw[xbt];exact i),List.set_set];have hp:a[off]? =Z (.slice wF 0 0):=by
      have:=kW (λl:N wN=>l[off]?) f;simp only[xdW x]at this;rw[xao,xbj i]at this;exact this.symm
     have⟨_,hp⟩:=xax.1 hp;rw[<-hp,xda,xao]
    rw[this];exact p
end
end
inductive Tr
 |nil
 |mk (op:K) (num:N K) (nam:K) (n:J) (l r:Tr)
abbrev TrD:=K×N K×K×J×Tr×Tr
def Tr.un(y:TrD):Tr:=.mk y.1 y.2.1 y.2.2.1 y.2.2.2.1 y.2.2.2.2.1 y.2.2.2.2.2
def Tr.opt:Tr->V TrD
 |.nil=>wF
 |.mk a m c i l r=>Z (a,m,c,i,l,r)
def Tr.isNil:Tr->v6
 |.nil=>I
 |.mk .. =>wL
section
variable{x:wr}{v:wN}{S:wr->Prop}{w:wP}{y:TrD}
def N7:zV K where
 n:=1
 agg:=wL
 n1 _:=O
 p _ x cs _:=cs=[.int .u8 (x:J)]/\x<256
 len h:=by simp[h.1]
 one h:=by intro c hc;rw[h.1]at hc;simp at hc;subst hc;rfl
 keep h _:=h
 sub h _:=h
def xa(s:Xs):N K:=s.data.toList.map xfn
def eTx:zV (N K)where
 n:=1
 agg:=wL
 n1 _:=O
 p _ x cs _:=∃s:Xs,cs=[.string s]/\xa s=x/\s.size<=9223372036854775807
 len:=by rintro _ _ _ _ ⟨s,rfl,_⟩;rfl
 one:=by rintro _ _ _ _ ⟨s,rfl,_⟩ c hc;simp at hc;subst hc;rfl
 keep h _:=h
 sub h _:=h
def zo4(h:(fV N7 x v).p S w):v=.int .u8 (x:J)/\x<256:=by
 obtain⟨cs,rfl,rfl,h⟩:=h;exact⟨O,h⟩
def HH(h:x<256):(fV N7 x (.int .u8 (x:J))).p S w:=⟨_,O,O,h⟩
def CW{x:N K}(h:(fV eTx x v).p S w):∃s:Xs,v=.string s/\xa s=x/\s.size<=9223372036854775807:=by
 obtain⟨cs,rfl,s,rfl,h1,a⟩:=h;exact⟨s,O,h1,a⟩
def RQ{s:Xs}{x:N K}(h:xa s=x)(a:s.size<=9223372036854775807):(fV eTx x (.string s)).p S w:=⟨_,O,s,O,h,a⟩
def wG(s:Xs):X (xa s)=s.size:=by simp_all [xa]
def eEr:zV v6 where
 n:=1
 agg:=wL
 n1 _:=O
 p _ x cs _:=(x=wL/\cs=[.nilIface])\/(x=I/\∃T v,cs=[.iface T v])
 len:=by rintro _ _ _ _ (⟨_,rfl⟩|⟨_,_,_,rfl⟩)<;>rfl
 one:=by rintro _ _ _ _ (⟨_,rfl⟩|⟨_,_,_,rfl⟩) c hc<;>(rw[xad.1 hc];rfl)
 keep h _:=h
 sub h _:=h
def zoq{x:v6}(h:(fV eEr x v).p S w):(x=wL/\v=.nilIface)\/(x=I/\∃T u,v=.iface T u):=by
 obtain⟨cs,rfl,⟨rfl,rfl⟩|⟨rfl,T,u,rfl⟩⟩:=h
 ·exact .inl ⟨O,O⟩
 ·exact .inr ⟨O,T,u,O⟩
def zps:(fV eEr wL .nilIface).p S w:=⟨[.nilIface],O,.inl ⟨O,O⟩⟩
def trP(S:K->Prop):Tr->N wN->wP->Prop
 |.nil,cs,_=>cs=[.pointer wF]
 |.mk a m c i l r,cs,w=>∃b o c1 c2 d e f g,cs=[.pointer<|some ⟨b,o,wF⟩]/\S b/\At w b o (c1++(c2++(d++(e++(f++g)))))/\
  N7.p S a c1 w/\(eS eU).p S m c2 w/\N7.p S c d w/\eI.p S i e w/\trP S l f w/\trP S r g w
def CV{S:K->Prop}{w w':wP}(k:yv S w w'):∀{x:Tr}{cs:N wN},trP S x cs w->trP S x cs w'
 |.nil,_,h=>h
 |.mk ..,_,⟨b,o,c1,c2,c,d,e,f,h,a,g,h1,i,j,l,m,n⟩=>
  ⟨b,o,c1,c2,c,d,e,f,h,a,g.keep a k,N7.keep h1 k,(eS eU).keep i k,N7.keep j k,eI.keep l k,CV k m,CV k n⟩
def Mh{S a:K->Prop}{w:wP}(k:∀k,k<w.heap.size->S k->a k):∀{x:Tr}{cs:N wN},trP S x cs w->trP a x cs w
 |.nil,_,h=>h
 |.mk ..,_,⟨b,o,c1,c2,d,e,f,g,h,i,c,h1,j,l,m,n,p⟩=>
  ⟨b,o,c1,c2,d,e,f,g,h,k b c.1 i,c,N7.sub h1 k,(eS eU).sub j k,N7.sub l k,eI.sub m k,Mh k n,Mh k p⟩
def eTr:zV Tr where
 n:=1
 agg:=wL
 n1 _:=O
 p:=trP
 len:=by
  intro S x cs w h
  cases x with
  |nil=>rw[show cs=_ from h];rfl
  |mk=>obtain⟨b,o,c1,c2,a,d,e,f,rfl,_⟩:=h;rfl
 one:=by
  intro S x cs w h c hc
  cases x with
  |nil=>rw[show cs=_ from h]at hc;rw[xad.1 hc];rfl
  |mk=>obtain⟨b,o,c1,c2,a,d,e,f,rfl,_⟩:=h;rw[xad.1 hc];rfl
 keep h k:=CV k h
 sub h k:=Mh k h
abbrev eTd:zV TrD:=eP N7<|eP (eS eU)<|eP N7<|eP eI<|eP eTr eTr
def zpa(h:(fV eTr .nil v).p S w):v=.pointer wF:=by
 obtain⟨cs,rfl,h⟩:=h;rw[show cs=_ from h];rfl
def zqk:(fV eTr .nil (.pointer wF)).p S w:=⟨[.pointer wF],O,O⟩
def zk9{x:Tr}(d:x.opt=Z y)(h:(fV eTr x v).p S w):(fP eTd y v).p S w:=by
 cases x with
 |nil=>cases d
 |mk a m c i l r=>
  cases d;obtain⟨cs,rfl,b,o,c1,c2,e,f,g,z,rfl,j,k,h1,n,q,s,t,u⟩:=h;exact⟨b,o,_,O,j,k,c1,_,O,h1,c2,_,O,n,e,_,O,q,f,_,O,s,g,_,O,t,u⟩
def zpo(h:(fP eTd y v).p S w):(fV eTr (Tr.un y) v).p S w:=by
 obtain⟨b,o,_,rfl,a,c,c1,_,rfl,h1,c2,_,rfl,d,e,_,rfl,f,g,_,rfl,i,j,k,rfl,l,m⟩:=h;exact⟨[_],O,b,o,c1,c2,e,g,j,k,O,a,c,h1,d,f,i,l,m⟩
def zoy{x:Tr}(h:(fV eTr x v).p S w):∃p,v=.pointer p/\p.isNone=x.isNil:=by
 cases x with
 |nil=>exact⟨_,zpa h,O⟩
 |mk=>obtain⟨cs,rfl,b,o,c1,c2,a,c,d,e,rfl,_⟩:=h;exact⟨_,O,O⟩
inductive Ty
 |i
 |u
 |b
 |l (t:Ty)
 |p (s t:Ty)
 |a (k:K) (t:Ty)
 |ch
 |tx
 |po (t:Ty)
 |w1 (t:Ty)
 |tr
 |er
def Ty.D:Ty->Type
 |.i=>J
 |.u=>K
 |.b=>v6
 |.l t=>N t.D
 |.p s t=>s.D×t.D
 |.a _ t=>N t.D
 |.ch=>K
 |.tx=>N K
 |.po t=>V t.D
 |.w1 t=>t.D
 |.tr=>Tr
 |.er=>v6
def Ty.rep:(t:Ty)->zV t.D
 |.i=>eI
 |.u=>eU
 |.b=>R9
 |.l t=>eS t.rep
 |.p s t=>eP s.rep t.rep
 |.a k t=>eA k t.rep
 |.ch=>N7
 |.tx=>eTx
 |.po t=>eO t.rep
 |.w1 t=>eW t.rep
 |.tr=>eTr
 |.er=>eEr
def Ty.z:(t:Ty)->t.D
 |.i=>(0:J)
 |.u=>(0:K)
 |.b=>wL
 |.l t=>([]:N t.D)
 |.p s t=>(s.z,t.z)
 |.a k t=>Nm k t.z
 |.ch=>(0:K)
 |.tx=>([]:N K)
 |.po t=>(wF:V t.D)
 |.w1 t=>t.z
 |.tr=>Tr.nil
 |.er=>wL
abbrev trT:Ty:=.p .ch (.p (.l .u) (.p .ch (.p .i (.p .tr .tr))))
def Ty.n:Ty->K
 |.p s t=>s.n+t.n
 |.a k t=>k*t.n
 |.w1 t=>t.n
 |_=>1
def Ty.n_rep:∀t:Ty,t.rep.n=t.n
 |.i=>rfl
 |.u=>rfl
 |.b=>rfl
 |.l _=>rfl
 |.ch=>rfl
 |.tx=>rfl
 |.p s t=>by show s.rep.n+t.rep.n=_;rw[Ty.n_rep s,Ty.n_rep t];rfl
 |.a k t=>by show k*t.rep.n=_;rw[Ty.n_rep t];rfl
 |.po _=>rfl
 |.w1 t=>Ty.n_rep t
 |.tr=>rfl
 |.er=>rfl
def Ty.same:(s t:Ty)->V (PLift<|s=t)
 |.i,.i=>Z ⟨O⟩
 |.u,.u=>Z ⟨O⟩
 |.b,.b=>Z ⟨O⟩
 |.ch,.ch=>Z ⟨O⟩
 |.tx,.tx=>Z ⟨O⟩
 |.tr,.tr=>Z ⟨O⟩
 |.er,.er=>Z ⟨O⟩
 |.l s,.l t=>match Ty.same s t with
  |some ⟨h⟩=>Z ⟨kW Ty.l h⟩
  |none=>wF
 |.p s t,.p c d=>match Ty.same s c,Ty.same t d with
  |some ⟨h⟩,Z ⟨e⟩=>Z ⟨h▸e▸O⟩
  |_,_=>wF
 |.a k s,.a f t=>if g:k=f then(match Ty.same s t with
  |some ⟨h⟩=>Z ⟨g▸h▸O⟩
  |none=>wF)else wF
 |.po s,.po t=>match Ty.same s t with
  |some ⟨h⟩=>Z ⟨kW Ty.po h⟩
  |none=>wF
 |.w1 s,.w1 t=>match Ty.same s t with
  |some ⟨h⟩=>Z ⟨kW Ty.w1 h⟩
  |none=>wF
 |_,_=>wF
def Ty.cast{R:Type}(s t:Ty)(x:s.D)(k:t.D->V R):V R:=match Ty.same s t with
 |some ⟨h⟩=>k<|h▸x
 |none=>wF
def mV:N Ty->Type
 |[]=>Z2
 |t::r=>t.D×mV r
def Iq:N Ty->Type
 |[]=>Z2
 |[t]=>t.D
 |t::s::r=>t.D×Iq (s::r)
structure Fl(α:Type)where
 off:K
 f:Ty
 get:α->f.D
 set:f.D->α->α
def Fl.self(t:Ty):Fl t.D:=⟨0,t,id,λy _=>y⟩
def YL{α:Type}(f:V (Fl α)):K:=match f with
 |some f=>f.off
 |none=>0
def uj{α:Type}(s:Ty)(f:V (Fl α))(xs:N s.D)(z:α):α:=match f with
 |some ⟨_,.l a,_,st⟩=>(match Ty.same s a with
  |some ⟨h⟩=>st (h▸xs) z
  |none=>z)
 |_=>z
def Fl.comp{α:Type}(a:Fl α)(c:Fl a.f.D):Fl α:=⟨a.off+c.off,c.f,λz=>c.get<|a.get z,λy z=>a.set (c.set y<|a.get z) z⟩
def xe:(k:K)->(t:Ty)->(i:K)->V (Fl t.D)
 |0,.w1 t,0=>Z ⟨0,t,λz=>z,λy _=>y⟩
 |0,_,_=>wF
 |1,t,i=>bif F i 0 then Z (Fl.self t)else wF
 |k+2,.p s t,0=>Z ⟨0,s,λz=>z.1,λy z=>(y,z.2)⟩
 |k+2,.p s t,i+1=>match xe (k+1) t i with
  |some f=>Z ⟨s.n+f.off,f.f,λz=>f.get z.2,λy z=>(z.1,f.set y z.2)⟩
  |none=>wF
 |_,_,_=>wF
structure PD where
 t:Ty
 x:t.D
def Oq(d:jP)(l:K){α X Y:Type}(e:zV α)(E:wT)(b:X->wN->MF)(f:Y->wN->MF)(g:N α->X->V (N α×(X⊕Y))):Prop:=
 ∀ys x a r,g ys x=Z (a,r)->∀(v u:wN) we Se F G w,St we Se (b x u::mO e E v ys::F) G w->
  YieldAt xfK 0 d l #[v] w λq w'=>q=.returned (.bool r.isLeft)/\∃c,St we Se (xfe (λx=>b x c) (λy=>f y c) r::mO e E v a::F) G w'
def lOf:wN->K
 |.int _ x=>x.toNat
 |_=>0
inductive Dv
 |d (t:Ty) (x:t.D)
 |q (t:Ty) (x:t.D)
 |kb (b:v6)
 |un
 |nil
 |ow (o:K)
 |ep (o:K) (t:Ty) (j:K) (f:Fl t.D)
 |sv (o:K) (t:Ty) (lo n:K)
 |vs (o:K) (t:Ty)
 |vp (o:K) (t:Ty) (f:Fl t.D)
 |fn (f:Z3) (c:N PD)
 |fp (dom cod:N Ty) (g:mV dom->V (Iq cod))
 |pin (v:wN)
 |mw (o:K)
 |mv (o lo n:K)
 |hp (o j:K)
 |rw(o r:K)
 |rp (o:K) (t:Ty) (r j:K) (f:Fl t.D)
 |yd (o:K)
 |np
 |vf (o:K) (t:Ty) (n i:K)
 |bm (f:Z3) (o:K) (t:Ty)
 |dz (t:Ty) (x:t.D) (n i:K)
 |ifc (q:PX)
 |ni
inductive Od
 |own (t:Ty) (E:wT) (xs:N t.D)
 |var (t:Ty) (E:wT) (z:t.D)
 |mat (t:Ty) (E E1:wT) (xss:N (N t.D)) (ix:N K)
 |bo (t:Ty) (E E0:wT) (xs:N t.D)
 |ho (E0:wT)
 |vr (t:Ty) (E:wT) (s:Ty) (E1:wT) (n i:K) (z:t.D) (xs:N s.D)
 |vh (t:Ty) (E:wT) (s:Ty) (E1:wT) (n i:K) (z:t.D)
 |hid (t:Ty) (E:wT) (X Y:Type) (mX:X->wN->MF) (mY:Y->wN->MF) (g:N t.D->X->V (N t.D×(X⊕Y))) (x:X)
 |hiy (Y:Type) (mY:Y->wN->MF) (y:Y)
structure Sg where
 nx:K
 rg:N (K×K×Dv)
 ob:N (K×Od)
def lN:N (K×K×Dv)->K->K->V Dv
 |[],_,_=>wF
 |(a,b,d)::r,t,i=>bif F a t && F b i then Z d else lN r t i
def xy:N (K×Od)->K->V Od
 |[],_=>wF
 |(a,x)::r,o=>bif F a o then Z x else xy r o
def get(cx σ:Sg)(t i:K):V Dv:=match lN σ.rg t i with
 |some d=>Z d
 |none=>lN cx.rg t i
def XT(cx σ:Sg)(o:K):V Od:=match xy σ.ob o with
 |some d=>Z d
 |none=>xy cx.ob o
def bZ(l:N K)(t:K):v6:=l.any<|F t
def Y5(rg:N (K×K×Dv))(t:K):v6:=rg.all λe=> !F e.1 t
def zn4(rg:N (K×K×Dv))(t:K):N (K×K×Dv):=rg.filter λe=> !F e.1 t
def yx:N (K×Od)->K->N (K×Od)
 |[],_=>[]
 |(a,y)::r,o=>bif F a o then r else(a,y)::yx r o
def kQ:N (K×Od)->K->Od->N (K×Od)
 |[],_,_=>[]
 |(a,y)::r,o,x=>bif F a o then(a,x)::r else(a,y)::kQ r o x
def v7(rg:N (K×K×Dv))(d:V Z4)(l:N (K×Dv)):N (K×K×Dv):=match d with
 |some t=>l.map (λe=>(t,e.1,e.2))++zn4 rg t
 |none=>rg
def xU(cx:Sg)(d:V Z4):v6:=match d with
 |some t=>Y5 cx.rg t
 |none=>I
def Sg.put(σ:Sg)(d:V Z4)(l:N (K×Dv)):Sg:=⟨σ.nx,v7 σ.rg d l,σ.ob⟩
def cv:wN->V Dv
 |.int .i64 x=>if K8 x then Z (.d .i x)else wF
 |.int .u64 x=>if 0<=x/\x<18446744073709551616 then Z (.d .u x.toNat)else wF
 |.bool b=>Z (.kb b)
 |.int .u8 x=>if 0<=x/\x<256 then Z (.d .ch x.toNat)else wF
 |.string s=>if s.size<=9223372036854775807 then Z (.d .tx<|xa s)else wF
 |.slice wF 0 0=>Z .nil
 |.pointer wF=>Z .np
 |.nilIface=>Z .ni
 |.nilFunc=>Z (.pin .nilFunc)
 |_=>wF
def xo(cx σ:Sg):wW->V Dv
 |.tmp t=>get cx σ t 0
 |.const v=>cv v
 |.func f=>Z (.fn f [])
 |.global _=>wF
inductive TK
 |int (k:Z9)
 |bool
 |str
 |sl (E:wT)
 |st (k:K)
 |ar (k:K) (E:wT)
 |pt (E:wT)
 |ie
structure TI where
 ty:Ty
 k:TK
 B:K
inductive AM
 |d (t:Ty)
 |q (t:Ty)
 |own (t:Ty) (E:wT)
 |fn (dom cod:N Ty)
 |var (t:Ty) (E:wT)
def AM.D:AM->Type
 |.d t=>t.D
 |.q t=>t.D
 |.own t _=>N t.D
 |.var t _=>t.D
 |.fn dom cod=>mV dom->V (Iq cod)
def cj:N AM->Type
 |[]=>Z2
 |a::r=>a.D×cj r
inductive RM
 |d (t:Ty)
 |own (t:Ty) (E:wT)
 |var (t:Ty) (E:wT)
def RM.D:RM->Type
 |.d t=>t.D
 |.own t _=>N t.D
 |.var t _=>t.D
def iU:N RM->Type
 |[]=>Z2
 |[a]=>a.D
 |a::b::r=>a.D×iU (b::r)
def RM.ty:RM->Ty
 |.d t=>t
 |.own t _=> .l t
 |.var t _=>t
inductive TF
 |d (t:Ty)
 |q (t:Ty)
 |own (t:Ty) (E:wT)
 |var (t:Ty) (E:wT)
 |mat (t:Ty) (E E1:wT)
 |matv (t:Ty) (E E1:wT)
 |row (j:K)
 |view (j:K)
 |bo (t:Ty) (E E0:wT)
 |vr (t:Ty) (E:wT) (s:Ty) (E1:wT) (n i:K)
def TF.D:TF->Type
 |.d t=>t.D
 |.q t=>t.D
 |.own t _=>N t.D
 |.var t _=>t.D
 |.mat t _ _=>N (N t.D)×N K
 |.matv t _ _=>(N (N t.D)×N K)×(K×K)
 |.row _=>K
 |.view _=>K×K
 |.bo t _ _=>N t.D
 |.vr t _ s _ _ _=>t.D×N s.D
def CU:TF->V K
 |.row j=>Z j
 |.view j=>Z j
 |_=>wF
inductive NF
 |kb (b:v6)
 |nil
 |ci (x:J)
 |cu (x:K)
 |al (s:K)
 |bm (s:K) (f:Z3)
structure Sh where
 ds:N (K×TF)
 ns:N (K×NF)
structure Sgm where
 ro:N K
 tg:N (Tg×Sh)
structure Lp where
 hd:Sh
 sg:Sgm
structure An where
 bx:N K
 jn:N (K×Sgm)
 lp:N (K×Lp)
 dz:N (K×N K)
 vw:N K
 mt:N K
 vr:N (K×K×K)
def Uc{α:Type}:N (K×α)->K->V α
 |[],_=>wF
 |(k,x)::r,t=>bif F k t then Z x else Uc r t
end
end Go.Proofs.YtmggkmchbdanfaaGreat
