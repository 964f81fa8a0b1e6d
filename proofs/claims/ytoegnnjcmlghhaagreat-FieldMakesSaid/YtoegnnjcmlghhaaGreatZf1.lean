/- What a proof needs: rules of walking, mirrors of functions and their plain laws. No condition. -/
import Derived.WalkKit
import Derived.KernelRfl
import Derived.CallsIn
import Derived.OrdersIn
import Derived.TacticsIn
import Derived.RangeFuncIn
import Derived.Laws.AppendOwn
import Derived.Laws.OwnMore
import Derived.Laws.CopyOwn
import Derived.Orders
import Derived.Laws.IdiomCopy
import Derived.Laws.CopyRow
import Derived.Scope
import Derived.Lib.BitFns
import Derived.Test.YtoegnnjcmlghhaaGreatRows
import Derived.ProofKit
import Derived.OpenShut
import Derived.Laws.Pointers
import Derived.Test.YtoegnnjcmlghhaaGreatProg
import Derived.RangeFuncSeq
import Derived.RangeFuncRecord
set_option linter.all false
namespace Go.Proofs.YtoegnnjcmlghhaaGreat
open Bool renaming false->I,true->wF
open Go renaming Value->wN,World->wP,TypeId->wT,Operand->v6,Program->jp,execOp->jP,run_underlying->kw,undef->uP,Oper->uS,FuncId->Z5,Tmp->Z9,IntKind->Xs,Code->Wn,resolve->Wr,getD_set_ne->Wt,wpListIn->Ww,run_newObj_alloc->WD,heap_alloc_new->WF,ResultVar->WL,sizeOf->WN,maxLen->WP,binOp->WR,typeInfo->WS,wpIn_mono->WT,invoke->V1,BinOp->V2,eqGuard->V3,asIntOf->V4,results->V9,Func->QR,Act->Jp,Addr->JP,MemPlace->Kw,getD_set_true->KW,builtin->Ul,Calls->Us,run_loadCells_list->Ut,wpAnyIn->UP,run_storeCells_at->US,grownCap->U8,zeroValue->am,newRow->aC,fenced_calm->aM,size_zeroCells->aP,growslice_fits->bi,asInt->bv,Exit->bI,madeCells->cO,setRow_heap->cS,loadVar->dL,goInt->eM,callFunc->eX,TypeInfo->fD,DataW->fN
open List renaming length->X
open Nat renaming beq->E
open Option renaming some->Z,none->wL
open _root_ renaming rfl->O,List->N,Int->J,Nat->K,Option->V,List->xS,Nat->wr,Option->ww,absurd->wR,trivial->wS,Bool->wW,congrArg->kW,Array->ul,if_false->ut,if_true->uL,cond_true->Z0,cond_false->Z2,Unit->Z4,True->XS,ByteArray->Wd,congrFun->Wf,decide_eq_true_eq->WW,Decidable->V0,False->V6,if_pos->UT,not_true_eq_false->cE
theorem W{p:Prop}(h:p:=by lia):p:=h
theorem ge{p:Prop}(h:p:=by lia):p:=h
theorem gC{p:Prop}(h:p:=by omega):p:=h
theorem gS{p:Prop}(h:p:=by decide):p:=h
theorem gT{p:Prop}(h:p:=by simp):p:=h
theorem g8{p:Prop}(h:p:=by kernel_rfl):p:=h
open Bool renaming and_eq_true->xab,false_eq_true->xak,false_or->xet,not_eq_true'->xcV,not_false->xeQ,not_true->xcW,or_eq_true->xdQ
open Builtin renaming append_->xch,copy_->xfO,firstCells->xez,lenOf->xfN,zeroCells->xbr
open DataW renaming TrodAll->xeK
open Deferred renaming ofValue->xdJ
open Extern renaming find->xeW,findNext->xeE
open Extern.MathBitsCarry renaming m64->xaY,pair->xbU,three->xbO
open Fence renaming wide->xfZ
open Instr renaming buildSlice->xew,fill->xdt,slice->xfP,sliceAt->xde,sliceBound->xev,sliceBounds->xem,sureAddr->xfz
open Int renaming natAbs_ediv_le_natAbs->xbG,natCast_add->xeD,natCast_mul->xfS,pow_nonneg->xfA,toNat_natCast->xbc
open IntKind renaming bits->xeB,i64->xdi,signed->xei,u64->xcs,u8->xga,wrap->xfU
open Lib renaming bitLen->xeZ
open List renaming all_eq_true->xaN,any_eq_true->xeR,append_assoc->xaf,append_nil->xbP,cons_append->xbF,drop->xdM,drop_eq_getElem_cons->xbT,drop_eq_nil_of_le->xcd,drop_left'->xfd,eq_nil_of_length_eq_zero->xbm,ext_getElem?->xcH,getD_eq_getElem?_getD->H1,getElem?_append_left->xaR,getElem?_append_right->xbj,getElem?_cons_zero->xbB,getElem?_drop->xfe,getElem?_eq_getElem->xah,getElem?_eq_none->xbD,getElem?_eq_some_iff->xaq,getElem?_set_self->xdW,getElem?_take->xcA,getElem_mem->xbE,getElem_of_mem->xcr,getElem_set->xfJ,length_append->xap,length_cons->xau,length_drop->xbR,length_eq_one_iff->xcN,length_map->xbd,length_nil->xbH,length_replicate->xaZ,length_set->xbC,length_take->xax,map_cons->xcb,map_nil->xeC,map_toArray->xdX,mem_append->So,mem_cons->xaa,mem_cons_of_mem->UV,mem_cons_self->FS,mem_iff_getElem?->xfE,mem_map->xat,mem_of_getElem?->xbq,mem_of_mem_eraseIdx->xdH,mem_of_mem_take->xel,mem_range->xbe,mem_singleton->xad,nil_append->xby,not_mem_nil->IR,pairwise_cons->xbQ,range->xaH,range_succ->xdl,replicate->xac,replicate_succ->xds,set_append_left->xeN,set_append_right->xdD,set_cons_succ->xfg,set_eq_take_append_cons_drop->xdZ,set_getElem_self->xdk,singleton_append->xfD,take->xdB,take_append_drop->xbv,take_left'->xfR,take_length->xcw,take_of_length_le->xaQ,take_succ_cons->xes
open List.Pairwise renaming nil->xft
open List.Perm renaming refl->xdy
open Nat renaming add_assoc->xcU,add_comm->xdA,add_mul->xbb,add_sub_cancel_left->xff,add_zero->xbK,ble->xfY,blt->xdh,div_le_self->xcp,div_lt_iff_lt_mul->xaX,eq_of_beq_eq_true->xcP,le_mul_of_pos_left->xdV,le_mul_of_pos_right->xcf,le_of_ble_eq_true->xbJ,le_refl->Nm,le_trans->xal,lt_of_le_of_lt->xaK,lt_of_lt_of_le->xao,lt_or_ge->xbW,mod_eq_of_lt->xam,mod_lt->xaS,mul_le_mul_right->xan,one_mul->xcy,pos_of_ne_zero->xco,strongRecOn->xdz,sub_self->xcQ,zero_add->xaJ,zero_le->xai,zero_mul->xcu
open Op renaming intCmp->xfQ
open Oper renaming looksAt->xbA
open Option renaming getD_some->xeS
open Option.some renaming inj->xdC,injEq->xar
open Prod.mk renaming injEq->xcO
open Region renaming binds->xcv,ready->xea
open Result renaming andThen_ok->xag
open Sem renaming run_bind->xay,run_pure->xaG
open Sum renaming elim->xfB
open UInt8 renaming toNat->xfu
open Value renaming bool->xey,cells->xfs
open _root_.Array renaming getD_eq_getD_getElem?->xbl,getElem?_eq_getElem->xcI,getElem?_eq_some_iff->xbi,length_toList->xeU,mem_toList_iff->xdo,range->xeV,replicate->xeA,toArray_toList->xcX
section
 universe u
def zT{c:Prop}{h:V0 c}{α:Type}{t e:α}(hc:c:=by lia):ite c t e=t:=UT hc
def zB{c:Prop}{h:V0 c}{α:Type}{t e:α}(hc:¬c:=by lia):ite c t e=e:=if_neg hc
def iq{c:Prop}{h:V0 c}(hc:c){α:Sort u}{t e:α}:ite c t e=t:=UT hc
def ir{c:Prop}{h:V0 c}(hc:¬c){α:Sort u}{t e:α}:ite c t e=e:=if_neg hc
structure yw(S:K->Prop)(w w':wP):Prop where
 os:w'.os=w.os
 tape:w'.tape=w.tape
 output:w'.output=w.output
 size:w.heap.size<=w'.heap.size
 block:∀k,k<w.heap.size->S k->w'.heap[k]? =w.heap[k]?
abbrev KD(w w':wP):Prop:=yw (λ_=>XS) w w'
theorem yw.refl(S:K->Prop)(w:wP):yw S w w:=⟨O,O,O,Nm _,λ_ _ _=>O⟩
def yw.trans{S:K->Prop}{a b c:wP}(h:yw S a b)(k:yw S b c):yw S a c:=
 ⟨k.os.trans h.os,k.tape.trans h.tape,k.output.trans h.output,xal h.size k.size,
  λi hi d=>(k.block i (xao hi h.size) d).trans<|h.block i hi d⟩
def yw.weak{S c:K->Prop}{a b:wP}(h:yw S a b)(e:∀k,k<a.heap.size->c k->S k):yw c a b:=
 ⟨h.os,h.tape,h.output,h.size,λk d f=>h.block k d<|e k d f⟩
def KD.to{S:K->Prop}{a b:wP}(h:KD a b):yw S a b:=h.weak λ_ _ _=>wS
def KD.behind{S:K->Prop}{we a b:wP}(h:KD we a)(k:yw S a b)(c:∀i,i<we.heap.size->S i):KD we b:=
 ⟨k.os.trans h.os,k.tape.trans h.tape,k.output.trans h.output,xal h.size k.size,
  λi hi _=>(k.block i (xao hi h.size)<|c i hi).trans<|h.block i hi wS⟩
def KD.alloc(w:wP)(o:Obj):KD w (w.alloc o):=
 ⟨O,O,O,gT,λk a _=>RowKit.Below.heap_alloc w o k a⟩
def KD.drawn(w:wP)(n:K):KD w {w with drawn:=n}:=⟨O,O,O,Nm _,λ_ _ _=>O⟩
structure FF where
 p:(K->Prop)->wP->Prop
 keep:∀{S:K->Prop}{w w':wP},p S w->yw S w w'->p S w'
 sub:∀{S S':K->Prop}{w:wP},p S w->(∀k,k<w.heap.size->S k->S' k)->p S' w
structure MF where
 blk:K->Prop
 p:(K->Prop)->wP->Prop
 keep:∀{S:K->Prop}{w w':wP},p S w->yw S w w'->(∀k,blk k->w'.heap[k]? =w.heap[k]?)->p S w'
 sub:∀{S S':K->Prop}{w:wP},p S w->(∀k,k<w.heap.size->S k->S' k)->p S' w
 lt:∀{S:K->Prop}{w:wP},p S w->∀k,blk k->k<w.heap.size
def zE(S:K->Prop):N FF->wP->Prop
 |[],_=>XS
 |f::r,w=>f.p S w/\zE S r w
def yL(S:K->Prop):N MF->wP->Prop
 |[],_=>XS
 |f::r,w=>f.p S w/\yL S r w
def zE.keep{S:K->Prop}{w w':wP}(k:yw S w w'):∀{Γ:N FF},zE S Γ w->zE S Γ w'
 |[],_=>trivial
 |f::_,h=>⟨f.keep h.1 k,zE.keep k h.2⟩
def zE.sub{S a:K->Prop}{w:wP}(b:∀k,k<w.heap.size->S k->a k):∀{Γ:N FF},zE S Γ w->zE a Γ w
 |[],_=>trivial
 |f::_,h=>⟨f.sub h.1 b,zE.sub b h.2⟩
def zE.append{S:K->Prop}{w:wP}:∀{Γ Δ:N FF},zE S Γ w->zE S Δ w->zE S (Γ++Δ) w
 |[],_,_,h=>h
 |_::_,_,h,k=>⟨h.1,zE.append h.2 k⟩
def yL.sub{S a:K->Prop}{w:wP}(b:∀k,k<w.heap.size->S k->a k):∀{Γ:N MF},yL S Γ w->yL a Γ w
 |[],_=>trivial
 |f::_,h=>⟨f.sub h.1 b,yL.sub b h.2⟩
def yL.keep{S:K->Prop}{w w':wP}(k:yw S w w'):∀{Γ:N MF},(∀m∈Γ,∀i,m.blk i->w'.heap[i]? =w.heap[i]?)->yL S Γ w->yL S Γ w'
 |[],_,_=>trivial
 |f::_,a,h=>⟨f.keep h.1 k<|a f<|FS,yL.keep k (λm b=>a m<|UV _ b) h.2⟩
def yL.lt{S:K->Prop}{w:wP}:∀{Γ:N MF},yL S Γ w->∀m∈Γ,∀i,m.blk i->i<w.heap.size
 |_::_,h,m,hm,i,hi=>by
  obtain rfl|hm:=xaa.1 hm
  ·exact m.lt h.1 i hi
  ·exact yL.lt h.2 m hm i hi
def VU:N MF->Prop
 |[]=>XS
 |m::r=>(∀k,m.blk k->∀m'∈r,¬m'.blk k)/\VU r
def St(we:wP)(Se:K->Prop)(ms:N MF)(Γ:N FF)(w:wP):Prop:=
 KD we w/\(∀k,we.heap.size<=k->Se k)/\VU ms/\∃S:K->Prop,(∀k,S k->Se k)/\(∀k,w.heap.size<=k->S k)/\(∀m∈ms,∀k,m.blk k->¬S k/\we.heap.size<=k)/\
  yL S ms w/\zE S Γ w
section
variable{we:wP}{Se:wr->Prop}{ms:xS MF}{Γ Δ:xS FF}{w w':wP}
def St.ext(h:St we Se ms Γ w)(x:KD w w'):St we Se ms Γ w':=by
 have⟨h1,b,c,S,d,e,f,a,g⟩:=h
 exact⟨h1.trans x,b,c,S,d,λk j=>e k<|xal x.size j,f,
  yL.keep x.to (λm l i hi=>x.block i (yL.lt a m l i hi) wS) a,zE.keep x.to g⟩
def St.step(h:St we Se ms Γ w)(x:KD w w')(n:∀S:K->Prop,(∀k,w.heap.size<=k->S k)->zE S Γ w->zE S Δ w'):St we Se ms Δ w':=by
 have⟨h1,c,d,S,e,a,f,b,g⟩:=h
 exact⟨h1.trans x,c,d,S,e,λk j=>a k<|xal x.size j,f,
  yL.keep x.to (λm l i hi=>x.block i (yL.lt b m l i hi) wS) b,n S a g⟩
theorem St.weak(h:St we Se ms Γ w)(n:∀(S:K->Prop) (w:wP),zE S Γ w->zE S Δ w):St we Se ms Δ w:=
 h.step (yw.refl _ _) λS _=>n S w
def St.ex(h:St we Se ms Γ w):∃S:K->Prop,(∀k,w.heap.size<=k->S k)/\zE S Γ w:=
 let⟨_,_,_,S,_,a,_,_,b⟩:=h;⟨S,a,b⟩
def Gk:∀{ms:N MF} (i:K) (m':MF),VU ms->(∀m,ms[i]? =Z m->m'.blk=m.blk)->VU (ms.set i m')
 |[],_,_,h,_=>by simpa using h
 |m::r,0,m',h,a=>by
  have:=a m O;exact⟨λk b=>h.1 k (by rw[<-this];exact b),h.2⟩
 |m::r,i+1,m',h,a=>by
  refine⟨λk b g d=> ?_,Gk i m' h.2<|λm f=>a m<|by simpa using f⟩;obtain⟨j,c,rfl⟩:=xcr d;rw[xfJ];rw[xbC]at c;split
  ·rename_i e;subst e;rw[a r[i]<|by simp[c]];exact h.1 k b _<|xbE _
  ·exact h.1 k b _<|xbE _
theorem yL.get{S:K->Prop}:∀{ms:N MF}{i:K}{m:MF},yL S ms w->ms[i]? =Z m->m.p S w
 |_::_,0,_,h,e=>by simp only[xbB,xar]at e;exact e▸h.1
 |_::_,_+1,_,h,e=>yL.get h.2<|by simpa using e
def eo:∀{ms:N MF}{i:K}{m:MF},VU ms->ms[i]? =Z m->∀k,m.blk k->∀(j:K) (m':MF),j≠i->ms[j]? =Z m'->¬m'.blk k
 |m0::r,0,m,h,e,k,b,j,m',c,a=>by
  simp only[xbB,xar]at e;subst e;obtain⟨j,rfl⟩:∃d,j=d+1:=⟨j-1,W⟩;exact h.1 k b m'<|xbq<|by simpa using a
 |m0::r,i+1,m,h,e,k,b,0,m',c,a=>by
  simp only[xbB,xar]at a;subst a;exact λhc=>h.1 k hc m (xbq<|by simpa using e) b
 |m0::r,i+1,m,h,e,k,b,j+1,m',c,a=>
  eo h.2 (by simpa using e) k b j m' W (by simpa using a)
def Np{S:K->Prop}{b:K}(x:yw (λk=>k≠b) w w'):∀{ms:N MF} (i:K) (m':MF),(∀k,S k->k≠b)->m'.p S w'->
 (∀(j:K) (m:MF),j≠i->ms[j]? =Z m->¬m.blk b)->yL S ms w->yL S (ms.set i m') w'
 |[],_,_,_,_,_,_=>trivial
 |m::r,0,m',c,f,d,h=>by
  refine⟨f,yL.keep (x.weak λk _ a=>c k a) (λl g k a=> ?_) h.2⟩;obtain⟨j,n,rfl⟩:=xcr g;exact x.block k (yL.lt h.2 _ (xbE _) k a)<|λe=>d (j+1) r[j] W (by simp[n])<|e▸a
 |m::r,i+1,m',c,f,d,h=>by
  refine⟨m.keep h.1 (x.weak λk _ a=>c k a)<|λk a=>x.block k (m.lt h.1 k a)<|λe=>d 0 m W O<|e▸a,?_⟩;exact Np x i m' c f (λj l n g=>d (j+1) l W<|by simpa using g) h.2
def St.write{i:K}{m m':MF}{b:K}(h:St we Se ms Γ w)(hi:ms[i]? =Z m)(q:m.blk=λk=> @Z K b=Z k)(hd:m'.blk=λk=> @Z K b=Z k)(x:yw (λk=>k≠b) w w')
 (n:∀S:K->Prop,(∀k,S k->k≠b)->m.p S w->zE S Γ w->m'.p S w'):St we Se (ms.set i m') Γ w':=by
 have⟨h1,c,r,S,u,v,d,s,t⟩:=h;have f:m.blk b:=by rw[q]
 have l:∀k,S k->k≠b:=λk a e=>(d m (xbq hi) b f).1<|e▸a;refine⟨h1.behind x (λk a e=>by have:=(d m (xbq hi) b f).2;lia),c,Gk i m' r<|λo c=> ?_,S,u,λk a=>v k<|xal x.size a,?_,?_,?_⟩
 ·rw[hi]at c;cases c;rw[q,hd]
 ·intro o hc k a;obtain⟨j,g,rfl⟩:=xcr hc;rw[xfJ]at a;rw[xbC]at g;split at a
  ·rw[hd]at a;cases a;exact d m (xbq hi) b f
  ·exact d _ (xbE g) k a
 ·exact Np x i m' l (n S l (yL.get s hi) t) (λj o g hc=>eo r hi b f j o g hc) s
 ·exact zE.keep (x.weak λk _ a=>l k a) t
def St.fresh{m:MF}(h:St we Se ms Γ w)(x:KD w w')(c:m.blk=λk=>Z w.heap.size=Z k)(hd:w.heap.size<w'.heap.size)
 (n:∀S:K->Prop,(∀k,w.heap.size<=k->S k)->zE S Γ w->m.p (λk=>S k/\k≠w.heap.size) w'):St we Se (m::ms) Γ w':=by
 have⟨h1,j,l,S,o,d,e,b,f⟩:=h;have g:∀k,k<w.heap.size->S k->S k/\k≠w.heap.size:=λk a q=>⟨q,W⟩;refine⟨h1.trans x,j,⟨λk a m' hm' hc=> ?_,l⟩,λk=>S k/\k≠w.heap.size,λk a=>o k a.1,λk a=>⟨d k W,W⟩,?_,⟨n S d f,?_⟩,?_⟩
 ·rw[c]at a;cases a;have:=yL.lt b m' hm' _ hc;lia
 ·intro m' hm' k a;obtain rfl|hm':=xaa.1 hm'
  ·rw[c]at a;cases a;exact⟨λhc=>hc.2 O,h1.size⟩
  ·exact⟨λhc=>(e m' hm' k a).1 hc.1,(e m' hm' k a).2⟩
 ·exact yL.keep x.to (λm' hm' i hi=>x.block i (yL.lt b m' hm' i hi) wS)<|yL.sub g b
 ·exact zE.keep x.to<|zE.sub g f
def JH:∀{ms:N MF} (i:K),VU ms->VU (ms.eraseIdx i)
 |[],_,h=>by simpa using h
 |_::_,0,h=>h.2
 |m::r,i+1,h=>⟨λk a m' b=>h.1 k a m'<|xdH b,JH i h.2⟩
def aF{S:K->Prop}:∀{ms:N MF} (i:K),yL S ms w->yL S (ms.eraseIdx i) w
 |[],_,h=>by simpa using h
 |_::_,0,h=>h.2
 |_::_,i+1,h=>⟨h.1,aF i h.2⟩
def St.freeze{i:K}{m:MF}{F:FF}(h:St we Se ms Γ w)(hi:ms[i]? =Z m)
 (n:∀S a:K->Prop,(∀k,S k->a k)->(∀k,m.blk k->a k)->m.p S w->F.p a w):St we Se (ms.eraseIdx i) (F::Γ) w:=by
 have⟨h1,d,e,S,g,l,b,f,o⟩:=h;have q:=xbq hi;refine⟨h1,d,JH i e,λk=>S k\/m.blk k,?_,λk hk=> .inl<|l k hk,?_,yL.sub (λk _ hk=> .inl hk)<|aF i f,n S _ (λk hk=> .inl hk) (λk hk=> .inr hk)<|yL.get f hi,zE.sub (λk _ hk=> .inl hk) o⟩
 ·rintro k (hk|hk)
  ·exact g k hk
  ·exact d k (b m q k hk).2
 ·intro m' c k hk;refine⟨?_,(b m' (xdH c) k hk).2⟩;rintro(hc|hc)
  ·exact(b m' (xdH c) k hk).1 hc
  ·have⟨j,r,hd⟩:=List.mem_eraseIdx_iff_getElem?.1 c;exact eo e hi k hc j m' r hd hk
def St.drop{i:K}(h:St we Se ms Γ w):St we Se (ms.eraseIdx i) Γ w:=by
 have⟨h1,a,b,S,c,d,e,f,g⟩:=h;exact⟨h1,a,JH i b,S,c,d,λm' j=>e m'<|xdH j,aF i f,g⟩
def St.nil(h:zE Se Γ we)(a:∀k,we.heap.size<=k->Se k):St we Se [] Γ we:=
 ⟨yw.refl _ _,a,wS,Se,λ_ h=>h,a,λ_ h=>wR h IR,wS,h⟩
end
abbrev y8:=K->wN
def L:N (K×wN)->y8->y8
 |[],r,t=>r t
 |(k,v)::l,r,t=>bif E t k then v else L l r t
def put(env:y8):V Z9->wN->y8
 |some d,v=>L [(d,v)] env
 |none,_=>env
def yK(a:Jp):y8:=λt=>a.tmps.getD t uP
def ev(env:y8):v6->wN
 |.tmp t=>env t
 |.const v=>v
 |.global g=> .pointer<|some ⟨g,0,wL⟩
 |.func f=> .func (.func f) #[] #[]
def zfs(env:y8):N (K×wN)->N wN
 |[]=>[]
 |(k,_)::l=>env k::zfs env l
def Oo:N (K×wN)->N wN
 |[]=>[]
 |(_,v)::l=>v::Oo l
def Kc(env:y8)(l:N (K×wN)):Prop:=zfs env l=Oo l
def DG{env:y8}{k:K}{v:wN}{l:N (K×wN)}(h:env k=v)(a:Kc env l):Kc env ((k,v)::l):=by
 show env k::zfs env l=v::Oo l;rw[h,show zfs env l=Oo l from a]
def oU{env:y8}{k:K}{v:wN}{l:N (K×wN)}(h:Kc env ((k,v)::l)):env k=v/\Kc env l:=by
 have h1:env k::zfs env l=v::Oo l:=h;exact List.cons.inj h1
def UZ{env:y8}:∀{live:N (K×wN)},Kc env live->L live env=env
 |[],_=>rfl
 |(k,v)::l,h=>by
  funext t;have a:=Wf (UZ (oU h).2) t;simp only[L];cases b:E t k
  ·simpa using a
  ·simp only[Z0];rw[xcP b];exact(oU h).1.symm
def eN(a:Jp):a.eval=ev (yK a):=by funext x;cases x<;>rfl
def XF{a:Jp}{d:V Z9}{v:wN}(h:∀t,d=Z t->t<a.tmps.size):yK (a.put d v)=put (yK a) d v:=by
 cases d with
 |none=>rfl
 |some d=>
  funext t;have hd:=h d O;simp only[yK,Act.put,put,L,xbl,Array.getElem?_setIfInBounds];cases b:E t d
  ·have:d≠t:=λe=>by subst e;simp at b
   simp[this]
  ·rw[xcP b];simp[hd]
def K5(a:Jp)(d:V Z9)(v:wN):(a.put d v).tmps.size=a.tmps.size:=by cases d<;>simp[Act.put]
def XT(a:Jp)(d:V Z9)(v:wN):(a.put d v).defers=a.defers:=by cases d<;>rfl
abbrev Qs:=bI->y8->wP->Prop
structure Nd where
 n:K
 ds:N Deferred
 rd:V K
abbrev Nd.of(n:K):Nd:=⟨n,[],wL⟩
abbrev Nd.F(N:Nd):Fence:={xfZ with round:=N.rd}
def zcO(N:Nd)(Q:Qs):bI->Jp->wP->Prop:=λe a w=>a.tmps.size=N.n/\a.defers=N.ds/\Q e (yK a) w
def Wp(P:jp)(N:Nd)(c:Wn)(Q:Qs)(env:y8)(w:wP):Prop:=
 ∀a:Jp,a.tmps.size=N.n->a.defers=N.ds->yK a=env->c.wpIn N.F 0 P (zcO N Q) a w
def znt(K:y8->wP->Prop)(Q:Qs):Qs
 |.normal,env,w=>K env w
 |e,env,w=>Q e env w
def T(P:jp)(N:Nd)(we:wP)(Se:K->Prop)(ms:xS MF)(Γ:xS FF)(c:Wn)(Q:Qs)(env:y8):Prop:=
 ∀w,St we Se ms Γ w->Wp P N c Q env w
section
variable{P:jp}{N:Nd}{we:wP}{Se:wr->Prop}{ms:xS MF}{Γ:xS FF}{Q:Qs}{env:y8}
def Vi{x y:Wn}(h:T P N we Se ms Γ x (znt (Wp P N y Q) Q) env):T P N we Se ms Γ (.seq x y) Q env:=by
 intro w c a h1 d f;refine wpIn_seq<|WT (h w c a h1 d f) ?_;intro e g w' ⟨q1,q2,b⟩;cases e<;>first|exact b g q1 q2 O|exact⟨q1,q2,b⟩
def Ie(h:∀w,St we Se ms Γ w->Q .normal env w):T P N we Se ms Γ .skip Q env:=
 λw a _ h1 b c=>wpIn_skip ⟨h1,b,c▸h w a⟩
def zau(h:∀w,St we Se ms Γ w->Q .ret env w):T P N we Se ms Γ .ret Q env:=
 λw a _ h1 b c=>wpIn_ret ⟨h1,b,c▸h w a⟩
def Ka{c:v6}{x y:Wn}(hc:ev env c=.bool wF)(h:T P N we Se ms Γ x Q env):T P N we Se ms Γ (.cond c x y) Q env:=
 λw d a h1 e b=>wpIn_cond_true (by rw[eN,b];exact hc)<|h w d a h1 e b
def Qy{c:v6}{x y:Wn}(hc:ev env c=.bool I)(h:T P N we Se ms Γ y Q env):T P N we Se ms Γ (.cond c x y) Q env:=
 λw d a h1 e b=>wpIn_cond_false (by rw[eN,b];exact hc)<|h w d a h1 e b
def zm2{c:v6}{x y:Wn}(b:wW)(hc:ev env c=.bool b)(h:b=wF->T P N we Se ms Γ x Q env)(a:b=I->T P N we Se ms Γ y Q env):T P N we Se ms Γ (.cond c x y) Q env:=by
 cases b
 ·exact Qy hc<|a O
 ·exact Ka hc<|h O
structure Inv where
 ms:xS MF
 Γ:xS FF
 live:xS (K×wN)
def Sp{F:Fence}{n:K}{c:Wn}{Q:bI->Jp->wP->Prop}{a:Jp}{w:wP}{G:Type}(J:G->Jp->wP->Prop)(t:G->K)(h:G)(p:J h a w)
 (round:∀g a w,J g a w->c.wpIn F n P (Exit.then (λo w'=>∃z,J z o w'/\t z<t g) Q) a w):(Code.loop c).wpIn F n P Q a w:=by
 intro b k cs hd u v
 have y:∀n g a w,t g=n->J g a w->
  ∃e o w',Q e o w'/\ArrivesIn (Machine.fenced P F) P (lone (b.atR a (.code c::.inLoop c::k)) cs w) b k cs e o w':=by
  intro n
  induction n using xdz with
  |_ n A=>
   intro g a w hn B;have⟨e,d,f,i,j⟩:=round g a w B b (.inLoop c::k) cs hd u v
   cases e with
   |normal=>
    have⟨m,C,D⟩:=i;have⟨q,r,s,E,hc⟩:=A (t m) (hn▸D) m d f O C;exact⟨q,r,s,E,.of_steps (StepsIn.trans j (.one (aM u v O) stepR_inLoop)) hc⟩
   |exit id=>exact⟨_,d,f,i,.pass (x:=.inLoop c) O (λ_ _=> .inl gT) j⟩
   |goto l=>exact⟨_,d,f,i,.pass (x:=.inLoop c) O (λ_ _=> .inl gT) j⟩
   |ret=>exact⟨_,d,f,i,.pass (x:=.inLoop c) O (λ_ _=> .inl gT) j⟩
   |panic H=>exact⟨_,d,f,i,.pass (x:=.inLoop c) O (λ_ _=> .inl gT) j⟩
   |outgrown=>exact⟨_,d,f,i,.pass (x:=.inLoop c) O (λ_ _=> .inl gT) j⟩
 have⟨e,o,w',i,j⟩:=y _ h a w O p;exact⟨e,o,w',i,.of_steps (.one (aM u v O) stepR_loop) j⟩
end
def FnQ{U:Type}(Se:K->Prop)(w:wP)(b:U->wN)(a:U->N FF)(ok:U->Prop):Ending->wP->Prop:=
 λe w'=>∃u,e=.returned (b u)/\ok u/\KD w w'/\zE Se (a u) w'
def Fn{U:Type}(P:jp)(f:Z5)(args:ul wN)(Γ:N FF)(b:U->wN)(a:U->N FF)(ok:U->Prop):Prop:=
 ∀w Se,(∀k,w.heap.size<=k->Se k)->zE Se Γ w->Us P f args w (FnQ Se w b a ok)
def zl0{U:Type}(P:jp)(fn:QR)(we:wP)(Se:K->Prop)(c:U->wN)(b:U->N FF)(ok:U->Prop):Qs
 |.ret,env,w|.normal,env,w=>∃u,(∀a:Jp,yK a=env->(V9 fn a.tmps).run P w=.ok (c u) w)/\ok u/\KD we w/\zE Se (b u) w
 |_,_,_=>V6
def B5(args:ul wN)(n:K):yK ⟨args++xeA n uP,[]⟩=λt=>args.getD t uP:=by
 funext t;simp only[yK,xbl,Array.getElem?_append];split
 ·rfl
 ·rename_i h;rw[Array.getElem?_eq_none (xs:=args) W,Array.getElem?_replicate];split<;>rfl
def iL:∀(l:N wN) (k:K) (env:y8),(∀j,env (k+j)=l.getD j uP)->Kc env ((l.zipIdx k).map λx=>(x.2,x.1))
 |[],_,_,_=>rfl
 |v::l,k,env,h=>DG (by simpa using h 0)<|iL l (k+1) env (λj=>by have:=h<|j+1;simpa[xcU,xdA 1 j]using this)
def NT{U:Type}{P:jp}{f:Z5}{args:N wN}{Γ:N FF}{b:U->wN}{a:U->N FF}{ok:U->Prop}{fn:QR}{c:Wn}
 (m:P.funcs[f]? =Z fn) (o:fn.body=Z c) (hn:xfY (X args) fn.ntmps=wF)
 (h:∀we Se rest,T P (Nd.of fn.ntmps) we Se [] Γ c (zl0 P fn we Se b a ok)<|L ((args.zipIdx 0).map λx=>(x.2,x.1)) rest):Fn P f args.toArray Γ b a ok:=by
 intro w Se p d;have hn:=xbJ hn;refine calls_of_wp m o<|(wpIn_wide (n:=0)).1 ?_;have hc:Kc (yK ⟨args.toArray++xeA (fn.ntmps-args.toArray.size) uP,[]⟩) ((args.zipIdx 0).map λx=>(x.2,x.1)):=by
  refine iL args 0 _ λj=> ?_;rw[B5];simp[xbl,H1]
 refine WT (h w Se _ w (St.nil d p) _ (by simp;lia) O (UZ hc).symm) ?_;intro e l w' ⟨q1,q2,g⟩;cases e<;>simp only[zl0]at g
 ·have⟨u,r1,r2,i,k⟩:=g;exact⟨q2,_,r1 l O,u,O,r2,i,k⟩
 ·have⟨u,r1,r2,i,k⟩:=g;exact⟨q2,_,r1 l O,u,O,r2,i,k⟩
section
variable{P:jp}{we:wP}{Se:wr->Prop}{ms:xS MF}{Γ:xS FF}{env:y8}{U:Type}{val:U->wN}{facts:U->xS FF}{ok:U->Prop}{fn:QR}
def St.out{Δ:N FF}{w:wP}(h:St we Se ms Γ w)(n:∀(S:K->Prop) (w:wP),zE S Γ w->zE S Δ w):KD we w/\zE Se Δ w:=by
 have⟨h1,c,d,S,a,e,f,g,b⟩:=h;exact⟨h1,zE.sub (λk _=>a k)<|n S w b⟩
def zhX{t:Z9}(u:U)(b:fn.results= #[.tmp t])(hv:env t=val u)(hc:ok u)(n:∀(S:K->Prop) (w:wP),zE S Γ w->zE S (facts u) w):
 ∀w,St we Se ms Γ w->zl0 P fn we Se val facts ok .ret env w:=by
 intro w c;refine⟨u,λa d=> ?_,hc,c.out n⟩;rw[<-hv,<-d];simp[V9,b,yK]
def Cl(tmps:ul wN):WL->Sem wN
 |.tmp t=>pure<|tmps.getD t uP
 |.cell a t=>do dL t (<-asAddr (tmps.getD a uP))
end
end
section
structure zV(α:Type)where
 n:K
 agg:wW
 n1:agg=I->n=1
 p:(K->Prop)->α->N wN->wP->Prop
 len:∀{S x cs w},p S x cs w->cs.length=n
 one:∀{S x cs w},p S x cs w->∀c∈cs,c.oneCell'=wF
 keep:∀{S x cs w w'},p S x cs w->yw S w w'->p S x cs w'
 sub:∀{S S':K->Prop}{x cs w},p S x cs w->(∀k,k<w.heap.size->S k->S' k)->p S' x cs w
def zV.val{α:Type}(e:zV α)(cs:N wN):wN:=if e.agg then .agg cs.toArray else cs.headD uP
def zV.val_cells{α:Type}(e:zV α){S:K->Prop}{x:α}{cs:N wN}{w:wP}(h:e.p S x cs w):(e.val cs).cells.toList=cs:=by
 unfold zV.val;cases a:e.agg
 ·have hl:=e.len h;rw[e.n1 a]at hl;obtain⟨c,rfl⟩:=xcN.1 hl;have:=e.one h c gT;cases c<;>simp_all [xfs,Value.oneCell']
 ·simp[xfs]
def fV{α:Type}(e:zV α)(x:α)(v:wN):FF where
 p S w:=∃cs,v=e.val cs/\e.p S x cs w
 keep:=λ⟨cs,h1,a⟩ k=>⟨cs,h1,e.keep a k⟩
 sub:=λ⟨cs,h1,a⟩ k=>⟨cs,h1,e.sub a k⟩
def eI:zV J where
 n:=1
 agg:=I
 n1 _:=O
 p _ x cs _:=cs=[.int .i64 x]/\ -9223372036854775808<=x/\x<=9223372036854775807
 len h:=by simp[h.1]
 one h:=by intro c hc;rw[h.1]at hc;simp at hc;subst hc;rfl
 keep h _:=h
 sub h _:=h
def eU:zV K where
 n:=1
 agg:=I
 n1 _:=O
 p _ x cs _:=cs=[.int .u64 (x:J)]/\x<18446744073709551616
 len h:=by simp[h.1]
 one h:=by intro c hc;rw[h.1]at hc;simp at hc;subst hc;rfl
 keep h _:=h
 sub h _:=h
def PO:zV wW where
 n:=1
 agg:=I
 n1 _:=O
 p _ x cs _:=cs=[.bool x]
 len h:=by simp[h]
 one h:=by intro c hc;rw[h]at hc;simp at hc;subst hc;rfl
 keep h _:=h
 sub h _:=h
def uY{α:Type}{e:zV α}{S:K->Prop}{x:α}{v:wN}{w:wP}(h:(fV e x v).p S w):e.p S x v.cells.toList w:=by
 obtain⟨cs,rfl,h⟩:=h;rw[e.val_cells h];exact h
def zpa{α:Type}{e:zV α}{S:K->Prop}{x:α}{cs:N wN}{w:wP}(h:e.p S x cs w):(fV e x<|e.val cs).p S w:=⟨cs,O,h⟩
def zmQ{x:J}{v:wN}{S:K->Prop}{w:wP}(h:(fV eI x v).p S w):v=.int .i64 x/\ -9223372036854775808<=x/\x<=9223372036854775807:=by
 obtain⟨cs,rfl,rfl,h⟩:=h;exact⟨O,h⟩
def zdB{x:K}{v:wN}{S:K->Prop}{w:wP}(h:(fV eU x v).p S w):v=.int .u64 (x:J)/\x<18446744073709551616:=by
 obtain⟨cs,rfl,rfl,h⟩:=h;exact⟨O,h⟩
def nY{x:wW}{v:wN}{S:K->Prop}{w:wP}(h:(fV PO x v).p S w):v=.bool x:=by
 obtain⟨cs,rfl,rfl⟩:=h;rfl
def wz{x:J}{S:K->Prop}{w:wP}(h: -9223372036854775808<=x/\x<=9223372036854775807):(fV eI x (.int .i64 x)).p S w:=⟨_,O,O,h⟩
def jz{x:K}{S:K->Prop}{w:wP}(h:x<18446744073709551616):(fV eU x (.int .u64 (x:J))).p S w:=⟨_,O,O,h⟩
def Be{x:wW}{S:K->Prop}{w:wP}:(fV PO x (.bool x)).p S w:=⟨_,O,O⟩
def yJ{α:Type}(e:zV α)(S:K->Prop):N α->N wN->wP->Prop
 |[],cs,_=>cs=[]
 |x::xs,cs,w=>∃c r,cs=c++r/\e.p S x c w/\yJ e S xs r w
section
variable{α:Type}{e:zV α}{S S':wr->Prop}{w w':wP}
def yJ.len:∀{xs:N α}{cs:N wN},yJ e S xs cs w->X cs=X xs*e.n
 |[],_,h=>by simp[show _=[]from h]
 |x::xs,_,⟨c,r,h,hc,a⟩=>by rw[h,xap,e.len hc,yJ.len a,xau,xbb,xdA];simp
def yJ.one:∀{xs:N α}{cs:N wN},yJ e S xs cs w->∀c∈cs,c.oneCell'=wF
 |[],_,h=>by simp[show _=[]from h]
 |x::xs,_,⟨c,r,h,hc,a⟩=>by
  intro d hd;rw[h]at hd;obtain hd|hd:=So.1 hd
  ·exact e.one hc d hd
  ·exact yJ.one a d hd
def yJ.keep(k:yw S w w'):∀{xs:N α}{cs:N wN},yJ e S xs cs w->yJ e S xs cs w'
 |[],_,h=>h
 |_::_,_,⟨c,r,h,hc,a⟩=>⟨c,r,h,e.keep hc k,yJ.keep k a⟩
def yJ.sub(k:∀k,k<w.heap.size->S k->S' k):∀{xs:N α}{cs:N wN},yJ e S xs cs w->yJ e S' xs cs w
 |[],_,h=>h
 |_::_,_,⟨c,r,h,hc,a⟩=>⟨c,r,h,e.sub hc k,yJ.sub k a⟩
def yJ.append:∀{xs ys:N α}{cs ds:N wN},yJ e S xs cs w->yJ e S ys ds w->yJ e S (xs++ys) (cs++ds) w
 |[],_,_,_,h,k=>by rw[show _=[]from h];exact k
 |_::_,_,_,_,⟨c,r,h,hc,a⟩,k=>⟨c,r++_,by rw[h,xaf],hc,yJ.append a k⟩
def yJ.drop:∀{xs:N α}{cs:N wN} (k:K),yJ e S xs cs w->yJ e S (xs.drop k) (cs.drop<|k*e.n) w
 |[],cs,k,h=>by simp[show cs=[]from h];exact O
 |x::xs,cs,0,h=>by simpa using h
 |x::xs,_,k+1,⟨c,r,h,hc,a⟩=>by
  have:=yJ.drop k a;rw[List.drop_succ_cons,h,xbb,xcy,xdA,<-List.drop_drop];rwa[xfd<|e.len hc]
def yJ.take:∀{xs:N α}{cs:N wN} (k:K),yJ e S xs cs w->yJ e S (xs.take k) (cs.take<|k*e.n) w
 |[],cs,k,h=>by simp[show cs=[]from h];exact O
 |x::xs,cs,0,h=>by simp;exact O
 |x::xs,_,k+1,⟨c,r,h,hc,a⟩=>by
  refine⟨c,r.take<|k*e.n,?_,hc,yJ.take k a⟩;rw[h,xbb,xcy,xdA,List.take_append,e.len hc,xaQ<|by rw[e.len hc];lia];congr 2;lia
def yJ.get{xs:N α}{cs:N wN}{i:K}{x:α}(h:yJ e S xs cs w)(b:xs[i]? =Z x):
 ∃c,e.p S x c w/\∀j,j<e.n->cs[i*e.n+j]? =c[j]? :=by
 have hd:=h.drop i;obtain⟨hi,rfl⟩:=xaq.1 b;rw[xbT hi]at hd;have⟨c,r,h1,a,f⟩:=hd;refine⟨c,a,λj d=> ?_⟩;rw[<-xfe,h1,xaR<|by rw[e.len a];exact d]
def yJ.replicate{x:α}{c:N wN}(h:e.p S x c w):∀n,yJ e S (xac n x) (xac n c).flatten w
 |0=>rfl
 |n+1=>⟨c,_,by simp[xds],h,yJ.replicate h n⟩
end
def At(w:wP)(b o:K)(cs:N wN):Prop:=b<w.heap.size/\∀j v,cs[j]? =Z v->w.cell? ⟨b,o+j,wL⟩=Z v
def At.keep{S:K->Prop}{w w':wP}{b o:K}{cs:N wN}(h:At w b o cs)(c:S b)(k:yw S w w'):At w' b o cs:=
 ⟨xao h.1 k.size,λj v hv=>by rw[World.cell?_of_block (a:=⟨b,o+j,wL⟩)<|k.block b h.1 c];exact h.2 j v hv⟩
def At.drop{w:wP}{b o:K}{cs:N wN}(h:At w b o cs)(k:K):At w b (o+k) (cs.drop k):=
 ⟨h.1,λj v hv=>by rw[xfe]at hv;have:=h.2 _ v hv;rwa[xcU]⟩
def At.take{w:wP}{b o:K}{cs:N wN}(h:At w b o cs)(k:K):At w b o (cs.take k):=
 ⟨h.1,λj v hv=>h.2 j v<|by rw[xcA]at hv;split at hv<;>simp_all⟩
def At.row{w:wP}{b:K}{cs:ul wN}{t:wT}{fr:K×K}(h:w.heap[b]? =Z (.cells cs t fr)):At w b 0 cs.toList:=
 ⟨(xbi.1 h).1,λj v hv=>by rw[cell_of_row w b (0+j) cs t fr h,xaJ];simpa using hv⟩
def SlP{α:Type}(e:zV α)(S:K->Prop)(xs:N α)(v:wN)(w:wP):Prop:=
 ∃a cap,v=.slice a (X xs) cap/\X xs<=cap/\cap<=WP/\(xs=[]\/∃b o cs,a=Z ⟨b,o,wL⟩/\S b/\At w b o cs/\yJ e S xs cs w)
def eS{α:Type}(e:zV α):zV (N α)where
 n:=1
 agg:=I
 n1 _:=O
 p S xs cs w:=∃v,cs=[v]/\SlP e S xs v w
 len:=λ⟨v,h,_⟩=>by simp[h]
 one:=λ⟨v,h,⟨a,cap,hv,_⟩⟩=>by intro c hc;rw[h]at hc;simp at hc;subst hc;rw[hv];rfl
 keep:=λ⟨v,h,⟨a,cap,h1,f,g,i⟩⟩ k=>⟨v,h,a,cap,h1,f,g,i.imp id λ⟨b,o,cs,j,d,a3,a4⟩=>⟨b,o,cs,j,d,a3.keep d k,a4.keep k⟩⟩
 sub:=λ⟨v,h,⟨a,cap,h1,f,g,i⟩⟩ k=>⟨v,h,a,cap,h1,f,g,i.imp id λ⟨b,o,cs,j,d,a3,a4⟩=>⟨b,o,cs,j,k b a3.1 d,a3,a4.sub k⟩⟩
def xK{α:Type}{e:zV α}{xs:N α}{v:wN}{S:K->Prop}{w:wP}:(fV (eS e) xs v).p S w↔SlP e S xs v w:=
 ⟨λ⟨_,h1,c,a,b⟩=>by subst a;rw[h1];exact b,λh=>⟨[v],O,v,O,h⟩⟩
def eP{α β:Type}(e:zV α)(f:zV β):zV (α×β)where
 n:=e.n+f.n
 agg:=wF
 n1 h:=by cases h
 p S x cs w:=∃c d,cs=c++d/\e.p S x.1 c w/\f.p S x.2 d w
 len:=λ⟨c,d,h,hc,hd⟩=>by rw[h,xap,e.len hc,f.len hd]
 one:=λ⟨c,d,h,hc,hd⟩ x hx=>by
  rw[h]at hx;obtain hx|hx:=So.1 hx
  ·exact e.one hc x hx
  ·exact f.one hd x hx
 keep:=λ⟨c,d,h,hc,hd⟩ k=>⟨c,d,h,e.keep hc k,f.keep hd k⟩
 sub:=λ⟨c,d,h,hc,hd⟩ k=>⟨c,d,h,e.sub hc k,f.sub hd k⟩
def eA{α:Type}(k:K)(e:zV α):zV (N α)where
 n:=k*e.n
 agg:=wF
 n1 h:=by cases h
 p S xs cs w:=X xs=k/\yJ e S xs cs w
 len:=λ⟨h,a⟩=>by rw[a.len,h]
 one:=λ⟨_,a⟩=>a.one
 keep:=λ⟨h,a⟩ k=>⟨h,a.keep k⟩
 sub:=λ⟨h,a⟩ k=>⟨h,a.sub k⟩
abbrev Zr:=wW×N K
def fP{α:Type}(e:zV α)(x:α)(v:wN):FF where
 p S w:=∃b o cs,v=.pointer (Z ⟨b,o,wL⟩)/\S b/\At w b o cs/\e.p S x cs w
 keep:=λ⟨b,o,cs,h1,a,c,d⟩ k=>⟨b,o,cs,h1,a,c.keep a k,e.keep d k⟩
 sub:=λ⟨b,o,cs,h1,a,c,d⟩ k=>⟨b,o,cs,h1,k b c.1 a,c,e.sub d k⟩
structure sS(α:Type)where
 p:(K->Prop)->α->N wN->wP->Prop
 keep:∀{S x cs w w'},p S x cs w->yw S w w'->p S x cs w'
 sub:∀{S S':K->Prop}{x cs w},p S x cs w->(∀k,k<w.heap.size->S k->S' k)->p S' x cs w
def zV.c{α:Type}(e:zV α):sS α:=⟨e.p,e.keep,e.sub⟩
def zoY{α:Type}(e:zV α):sS (N α):=⟨yJ e,λh k=>h.keep k,λh k=>h.sub k⟩
def mB{α:Type}(e:sS α)(E:wT)(b:K)(x:α):MF where
 blk k:=Z b=Z k
 p S w:=∃cs:ul wN,w.heap[b]? =Z (.cells cs E (0,0))/\e.p S x cs.toList w
 keep:=λ⟨cs,h1,a⟩ k c=>⟨cs,by rw[c b O];exact h1,e.keep a k⟩
 sub:=λ⟨cs,h1,a⟩ k=>⟨cs,h1,e.sub a k⟩
 lt:=λ⟨cs,h1,_⟩ k d=>by cases d;exact(xbi.1 h1).1
abbrev mR{α:Type}(e:zV α)(E:wT)(b:K)(xs:N α):MF:=mB (zoY e) E b xs
def mO{α:Type}(e:zV α)(E:wT)(v:wN)(xs:N α):MF where
 blk k:=v.ownBlock=Z k
 p S w:=∃cs,w.ownsRow 0 E e.n v (X xs) cs/\yJ e S xs cs w
 keep:=λ⟨cs,h1,a⟩ k d=>by
  refine⟨cs,⟨h1.1,?_⟩,a.keep k⟩;obtain h|⟨g,cap,b,hv,c,f,r⟩:=h1.2
  ·exact .inl h
  ·exact .inr ⟨g,cap,b,hv,c,by rw[d g<|by rw[hv];rfl];exact f,r⟩
 sub:=λ⟨cs,h1,a⟩ k=>⟨cs,h1,a.sub k⟩
 lt:=λ⟨cs,h1,_⟩ k i=>(h1.lt k i).2
section
variable{α:Type}{e:zV α}{E:wT}{S S':wr->Prop}{w:wP}
def SlP.of_at{xs:N α}{b o n cap:K}{cs:N wN}(a:S b)(c:At w b o cs)(d:yJ e S xs cs w)(hn:n=X xs)(hc:X xs<=cap)(f:cap<=WP):
 SlP e S xs (.slice (Z ⟨b,o,wL⟩) n cap) w:=⟨_,cap,by rw[hn],hc,f,.inr ⟨b,o,cs,O,a,c,d⟩⟩
def SlP.nil:SlP e S [] (.slice wL 0 0) w:=⟨wL,0,O,Nm _,xai _,.inl O⟩
def zl8{x:α}{b:K}(a:∀k,S k->S' k)(d:S' b)(h:(mB e.c E b x).p S w):(fP e x (.pointer<|some ⟨b,0,wL⟩)).p S' w:=by
 have⟨cs,h1,f⟩:=h;exact⟨b,0,cs.toList,O,d,At.row h1,e.sub f λk _=>a k⟩
def o5{xs:N α}{v:wN}(a:∀k,S k->S' k)(b:∀k,v.ownBlock=Z k->S' k)(h:(mO e E v xs).p S w):(fV (eS e) xs v).p S' w:=by
 have⟨cs,h1,c⟩:=h;refine xK.2 ?_;rcases h1.2 with⟨rfl,h0⟩|⟨g,cap,d,rfl,hd,f,i,j,l,hc⟩
 ·have:xs=[]:=xbm h0;subst this;exact SlP.nil
 ·refine SlP.of_at (b g O) ((At.row f).take<|X xs*e.n) ?_ O i j;rw[hc];exact c.sub λk _=>a k
end
end
section
def uB(P:jp)(o:uS)(env:y8)(w:wP)(K:wN->wP->Prop):Prop:=
 match(jP (ev env) o).run P w with
 |.ok (.value v) w'=>K v w'
 |.ok .skip w'=>K uP w'
 |.ok (.enter f args) w'=>Us P f args w' (λe b=>∃v,e=.returned v/\K v b)
 |.ok (.round l f ts a c) w'=>RoundIn xfZ 0 P l f ts a c w' (λe b=>∃v,e=.returned v/\K v b)
 |_=>V6
def zlC{ro:V K}{ρ:v6->wN}{o:uS}{P:jp}{w:wP}(h:∀d w',(jP ρ o).run P w≠ .ok (.defer d) w')(e:∀r w',(jP ρ o).run P w≠ .halt r w'):(o.semAt ro ρ).run P w=(jP ρ o).run P w:=by
 by_cases hd:∃c,o.op=.defer c
 ·have⟨c,hc⟩:=hd;exfalso
  cases a:(jP ρ o).run P w with
  |halt r w'=>exact e r w' a
  |ok x w'=>
   unfold jP at a;rw[hc]at a;simp only[xay]at a
   cases b:(Wr ρ c o.type).run P w with
   |halt r w1=>rw[b]at a;simp[Result.andThen]at a
   |ok d w1=>
    rw[b]at a;simp only[xag,xaG]at a;cases a;refine h d w' ?_;unfold jP;rw[hc];simp only[xay,b,xag,xaG]
 ·rw[Oper.semAt_eq _ _ _ λc hc=>hd ⟨c,hc⟩]
def uB.wp{P:jp}{o:uS}{a:Jp}{w:wP}{K:wN->wP->Prop}{g:Jp->wP->Prop}{Q:bI->Jp->wP->Prop}{N:Nd}
 (h:uB P o (yK a) w K) (b:∀v w',K v w'->g (a.put o.dst v) w'):o.wpIn N.F 0 P a w g Q:=by
 unfold uB at h;unfold Oper.wpIn;refine⟨λ_ _=>wS,?_⟩;have k:=zlC (ro:=N.rd) (ρ:=ev<|yK a) (o:=o) (P:=P) (w:=w) (λd w' e=>by rw[e]at h;exact h) (λr w' e=>by rw[e]at h;exact h);rw[eN];show Oper.uponIn N.F 0 P o a g Q ((o.semAt N.rd<|ev<|yK a).run P w);rw[k];generalize(jP (ev<|yK a) o).run P w=r at*
 cases r with
 |ok n w'=>
  cases n<;>simp only at h<;>simp only[Oper.uponIn]
  case value v=>exact b _ _ h
  case skip=>exact b _ _ h
  case enter f args=>exact⟨λe=>by simp[Nd.F,xfZ]at e,CallsIn.mono (callsIn_wide.2 h) λe i ⟨v,j,hv⟩=>by subst j;exact b _ _ hv⟩
  case round l f ts s c=>exact⟨λe=>by simp[Nd.F,xfZ]at e,RoundIn.mono h λe i ⟨v,j,hv⟩=>by subst j;exact b _ _ hv⟩
 |halt x w'=>exact h.elim
def uB.mono{P:jp}{o:uS}{env:y8}{w:wP}{K g:wN->wP->Prop}(h:uB P o env w K)(a:∀v w',K v w'->g v w'):uB P o env w g:=by
 unfold uB at*
 generalize(jP (ev env) o).run P w=r at*
 cases r with
 |ok n w'=>
  cases n<;>simp only at h⊢
  case value v=>exact a _ _ h
  case skip=>exact a _ _ h
  case enter f args=>exact h.mono λe b ⟨v,d,hv⟩=>⟨v,d,a _ _ hv⟩
  case round l f ts s c=>exact h.mono λe b ⟨v,d,hv⟩=>⟨v,d,a _ _ hv⟩
 |halt x w'=>exact h.elim
def uB.of_value{P:jp}{o:uS}{env:y8}{w w':wP}{v:wN}{K:wN->wP->Prop}(h:(jP (ev env) o).run P w=.ok (.value v) w')(a:K v w'):uB P o env w K:=by
 unfold uB;rw[h];exact a
def uB.of_skip{P:jp}{o:uS}{env:y8}{w w':wP}{K:wN->wP->Prop}(h:(jP (ev env) o).run P w=.ok .skip w')(a:K uP w'):uB P o env w K:=by
 unfold uB;rw[h];exact a
def gd(a:ul uS)(env:y8)(j:K):V wW:=
 match(a[j]?).bind (·.dst)with
 |some d=>match env d with
  |.bool b=>Z b
  |_=>wL
 |none=>wL
def yW(b:ul uS)(env:y8)(o:uS):wW:=
 match o.guard with
 |none=>wF
 |some (j,a)=>gd b env j==Z a
theorem TH(b:ul uS)(a:Jp)(j:K):yielded b a.tmps j=gd b (yK a) j:=by
 unfold yielded gd yK
 cases(b[j]?).bind (·.dst)with
 |none=>rfl
 |some d=>
  simp only[Option.bind_some,xbl]
  cases a.tmps[d]? with
  |none=>rfl
  |some v=>cases v<;>rfl
def QH(b:ul uS)(a:Jp)(o:uS):Region.wanted o (yielded b a.tmps)=yW b (yK a) o:=by grind [Region.wanted,yW,TH]
def q8(N:K):V Z9->wW
 |some d=>xdh d N
 |none=>wF
def Ui{N:K}{d:V Z9}(h:q8 N d=wF):∀t,d=Z t->t<N:=by
 rintro t rfl;simpa[q8]using h
def WpL(P:jp)(N:Nd)(b:ul uS)(l:xS uS)(Q:Qs)(env:y8)(w:wP):Prop:=
 ∀a:Jp,a.tmps.size=N.n->a.defers=N.ds->yK a=env->Ww N.F 0 P b (zcO N Q) l a w
def TL(P:jp)(N:Nd)(we:wP)(Se:K->Prop)(ms:xS MF)(Γ:xS FF)(a:ul uS)(l:xS uS)(Q:Qs)(env:y8):Prop:=
 ∀w,St we Se ms Γ w->WpL P N a l Q env w
def MJ{U:Type}(P:jp)(o:uS)(env:y8)(ms:N MF)(Γ:N FF)(b:U->wN)(a:U->N FF)(ok:U->Prop):Prop:=
 ∀w (S:K->Prop),(∀k,w.heap.size<=k->S k)->yL S ms w->zE S Γ w->uB P o env w (λv w'=>∃u,v=b u/\ok u/\KD w w'/\zE S (a u) w')
section
variable{P:jp}{N:Nd}{we:wP}{Se:wr->Prop}{ms:xS MF}{Γ:xS FF}{Q:Qs}{env:y8}{ops:ul uS}{o:uS}{rest:xS uS}
def vy{id:K}{l:xS uS}(h:TL P N we Se ms Γ l.toArray l Q env):T P N we Se ms Γ (.region id l.toArray I) Q env:=
 λw b a h1 c d=>wpIn_region_lit<|h w b a h1 c d
def ks(h:∀w,St we Se ms Γ w->Q .normal env w):TL P N we Se ms Γ ops [] Q env:=
 λw a _ h1 b c=>wpListIn_nil ⟨h1,b,c▸h w a⟩
def ze8(live:xS (K×wN)){l:xS uS}(h:Kc env live)(k:∀rest,TL P N we Se ms Γ ops l Q<|L live rest):TL P N we Se ms Γ ops l Q env:=by
 have:=k env;rwa[UZ h]at this
def zpw{p:Prop}{l:xS uS}(hp:∀(S:K->Prop) (w:wP),zE S Γ w->p)(k:p->TL P N we Se ms Γ ops l Q env):TL P N we Se ms Γ ops l Q env:=
 λw a=>let⟨S,_,h⟩:=a.ex;k (hp S w h) w a
def zei{p:Prop}{c:Wn}(hp:∀(S:K->Prop) (w:wP),zE S Γ w->p)(k:p->T P N we Se ms Γ c Q env):T P N we Se ms Γ c Q env:=
 λw a=>let⟨S,_,h⟩:=a.ex;k (hp S w h) w a
def zdP(b:yW ops env o=wF)(hd:q8 N.n o.dst=wF)
 (h:∀w,St we Se ms Γ w->uB P o env w (λv w'=>WpL P N ops rest Q (put env o.dst v) w')):TL P N we Se ms Γ ops (o::rest) Q env:=by
 intro w c a h1 d e;subst e;unfold Ww;rw[iq<|by rw[QH];exact b];refine(h w c).wp λv w' f=> ?_;exact f _ (by rw[K5];exact h1) (by rw[XT];exact d)<|XF<|by rw[h1];exact Ui hd
def zm4(b:yW ops env o=I)(hd:q8 N.n o.dst=wF)(k:TL P N we Se ms Γ ops rest Q (put env o.dst uP)):TL P N we Se ms Γ ops (o::rest) Q env:=by
 intro w c a h1 d e;subst e;unfold Ww;rw[ir<|by rw[QH,b];exact Bool.false_ne_true];exact⟨λ_ _=>wS,k w c _ (by rw[K5];exact h1) (by rw[XT];exact d)<|XF<|by rw[h1];exact Ui hd⟩
def zjn{U:Type}{b:U->wN}{a:U->xS FF}{ok:U->Prop}(f:yW ops env o=wF)(hd:q8 N.n o.dst=wF)
 (h:MJ P o env ms Γ b a ok) (k:∀u,ok u->TL P N we Se ms (a u++Γ) ops rest Q (put env o.dst<|b u)):TL P N we Se ms Γ ops (o::rest) Q env:=by
 refine zdP f hd λw g=> ?_;have⟨h1,j,l,S,p,d,q,c,e⟩:=g;refine(h w S d c e).mono ?_;rintro v w' ⟨u,rfl,r,x,s⟩
 exact k u r w' ⟨h1.trans x,j,l,S,p,λk t=>d k<|xal x.size t,q,
  yL.keep x.to (λm y i hi=>x.block i (yL.lt c m y i hi) wS) c,zE.append s<|zE.keep x.to e⟩
def Zp{v:wN}(a:yW ops env o=wF)(hd:q8 N.n o.dst=wF)(h:∀w,(jP (ev env) o).run P w=.ok (.value v) w)
 (k:TL P N we Se ms Γ ops rest Q (put env o.dst v)):TL P N we Se ms Γ ops (o::rest) Q env:=
 zdP a hd λw b=>uB.of_value (h w)<|k w b
end
def OG{ι:Type}(P:jp)(o:uS)(env:y8)(we:wP)(Se:K->Prop)(ms:N MF)(Γ:N FF)(a:ι->wN)(b:ι->N MF)(c:ι->N FF)(ok:ι->Prop):Prop:=
 ∀w,St we Se ms Γ w->uB P o env w (λv w'=>∃i,v=a i/\ok i/\St we Se (b i) (c i) w')
section
variable{P:jp}{N:Nd}{we:wP}{Se:wr->Prop}{ms:xS MF}{Γ:xS FF}{Q:Qs}{env:y8}{ops:ul uS}{o:uS}{rest:xS uS}
def zkF{ι:Type}{a:ι->wN}{b:ι->xS MF}{c:ι->xS FF}{ok:ι->Prop}(d:yW ops env o=wF)(hd:q8 N.n o.dst=wF)(h:OG P o env we Se ms Γ a b c ok)
 (k:∀i,ok i->TL P N we Se (b i) (c i) ops rest Q (put env o.dst<|a i)):TL P N we Se ms Γ ops (o::rest) Q env:=
 zdP d hd λw f=>(h w f).mono λv w' ⟨i,e,hi,g⟩=>e▸k i hi w' g
def NS{U:Type}{b:U->wN}{a:U->xS FF}{ok:U->Prop}(h:MJ P o env ms Γ b a ok):OG P o env we Se ms Γ b (λ_=>ms) (λu=>a u++Γ) ok:=by
 intro w ⟨h1,g,j,S,l,d,n,c,f⟩;refine(h w S d c f).mono ?_;rintro v w' ⟨u,e,p,x,q⟩
 exact⟨u,e,p,h1.trans x,g,j,S,l,λk r=>d k<|xal x.size r,n,
  yL.keep x.to (λm s i hi=>x.block i (yL.lt c m s i hi) wS) c,zE.append q<|zE.keep x.to f⟩
end
def pv(o:uS)(env:y8):V wN:=
 match o.op with
 |.move x|.assign x=>Z<|ev env x
 |.extract t i=>match ev env t with
  |.tuple vs=>vs[i]?
  |_=>wL
 |.pick c a b=>match ev env c with
  |.bool t=>Z<|bif t then ev env a else ev env b
  |_=>wL
 |.unOp .not _ x=>match ev env x with
  |.bool t=>Z (.bool !t)
  |_=>wL
 |.makeFunc f first d=>Z (.func f (first.map<|ev env)<|d.map<|ev env)
 |_=>wL
def dW{P:jp}{o:uS}{env:y8}{v:wN}(h:pv o env=Z v)(w:wP):(jP (ev env) o).run P w=.ok (.value v) w:=by
 unfold pv at h;unfold jP;split at h
 ·next e=>simp_all
 ·next e=>simp_all
 ·next t i e=>
  simp only[e];split at h
  ·next vs hv=>simp[hv,Instr.extract,h]
  ·cases h
 ·next c a b e=>
  simp only[e];split at h
  ·next t d=>cases h;cases t<;>simp[d,asBool]
  ·cases h
 ·next ty x e=>
  simp only[e];split at h
  ·next t d=>cases h;simp[d,Op.unary]
  ·cases h
 ·next f a b e=>cases h;simp[e,Instr.makeFunc]
 ·cases h
def s9(N:K)(a:ul uS):xS uS->y8->V y8
 |[],env=>Z env
 |o::r,env=>bif q8 N o.dst then(bif yW a env o then(match pv o env with
  |some v=>s9 N a r<|put env o.dst v
  |none=>wL)else(match o.guard with
  |some (j,b)=>bif gd a env j==Z (!b)then s9 N a r (put env o.dst uP)else wL
  |none=>wL))else wL
section
variable{P:jp}{N:Nd}{we:wP}{Se:wr->Prop}{ms:xS MF}{Γ:xS FF}{Q:Qs}{ops:ul uS}
def UM:∀(l:xS uS) (b:xS uS) (env a:y8),s9 N.n ops l env=Z a->TL P N we Se ms Γ ops b Q a->TL P N we Se ms Γ ops (l++b) Q env
 |[],_,env,a,h,k=>by cases h;exact k
 |o::r,b,env,a,h,k=>by
  unfold s9 at h;cases hd:q8 N.n o.dst
  ·rw[hd]at h;cases h
  ·rw[hd]at h;simp only[Z0]at h;cases d:yW ops env o
   ·rw[d]at h;simp only[Z2]at h;split at h
    ·next j c f=>
     cases e:(gd ops env j==Z (!c))
     ·rw[e]at h;cases h
     ·rw[e]at h;exact zm4 d hd<|UM r b _ _ h k
    ·cases h
   ·rw[d]at h;simp only[Z0]at h
    cases hp:pv o env with
    |none=>rw[hp]at h;cases h
    |some v=>rw[hp]at h;exact Zp d hd (λw=>dW hp w)<|UM r b _ _ h k
def chk(env:V y8)(live:xS (K×wN)):Prop:=match env with
 |some env=>Kc env live
 |none=>V6
def GF(n:K)(live:xS (K×wN)){l:xS uS}{env:y8}(h:chk (s9 N.n ops (l.take n) env) live)(k:∀rest,TL P N we Se ms Γ ops (l.drop n) Q<|L live rest):TL P N we Se ms Γ ops l Q env:=by
 rw[<-xbv n l]
 cases hp:s9 N.n ops (l.take n) env with
 |none=>rw[hp]at h;exact h.elim
 |some a=>
  rw[hp]at h;refine UM _ _ _ _ hp ?_;exact ze8 live h k
end
structure QF(P:jp)(t:wT)(agg:wW)(size bytes:K)(zero:wN):Prop where
 und:∃d,P.underlying t=Z d/\(match d with|.struct _|.array _ _=>wF|_=>I)=agg
 info:∃i,P.info? t=Z i/\i.size=size/\i.bytes=bytes/\i.zero=Z zero
def tyB(P:jp)(t:wT):V (wW×K×K×V wN):=
 match P.underlying t,P.info? t with
 |some d,Z i=>Z ((match d with|.struct _|.array _ _=>wF|_=>I),i.size,i.bytes,i.zero)
 |_,_=>wL
def QF.of{P:jp}{t:wT}{agg:wW}{size bytes:K}{a:wN}(h:tyB P t=Z (agg,size,bytes,Z a)):QF P t agg size bytes a:=by
 unfold tyB at h;split at h
 ·next d i hd hi=>
  simp only[xar,xcO]at h;exact⟨⟨d,hd,h.1⟩,i,hi,h.2.1,h.2.2.1,h.2.2.2⟩
 ·cases h
def qE(b o j:K):(⟨b,o,wL⟩:JP).add j=⟨b,o+j,wL⟩:=by unfold Addr.add;split<;>simp_all
def Hh{P:jp}{t:wT}{agg:wW}{size bytes:K}{a:wN}(b:QF P t agg size bytes a)(w:wP):(isAgg t).run P w=.ok agg w:=by
 have⟨⟨d,hd,c⟩,_⟩:=b;unfold isAgg;simp only[xay,kw hd,xag];cases d<;>simp_all
def wh{P:jp}{t:wT}{agg:wW}{size bytes:K}{a:wN}(b:QF P t agg size bytes a)(w:wP):(WN t).run P w=.ok size w:=by
 have⟨_,i,hi,h1,_⟩:=b;simp[WN,WS,hi,h1]
def kD{P:jp}{t:wT}{agg:wW}{size bytes:K}{a:wN}(b:QF P t agg size bytes a)(w:wP):(am t).run P w=.ok a w:=by
 have⟨_,i,hi,_,_,h1⟩:=b;simp[am,WS,hi,h1]
def Mi{P:jp}{α:Type}{e:zV α}{t:wT}{bytes:K}{a:wN}(d:QF P t e.agg e.n bytes a){w w0:wP}{b o:K}{cs:N wN}{S:K->Prop}{x:α}
 (hp:e.p S x cs w0) (f:At w b o cs):(dL t ⟨b,o,wL⟩).run P w=.ok (e.val cs) w:=by
 unfold dL;rw[xay,Hh d];simp only[xag];cases hd:e.agg
 ·have hl:=e.len hp;rw[e.n1 hd]at hl;obtain⟨c,rfl⟩:=xcN.1 hl;have:=f.2 0 c O;simp only[xbK]at this;simp[this,zV.val,hd]
 ·have hl:=e.len hp;have hc:=Ut (P:=P) w ⟨b,o,wL⟩ cs (λj v hv=>by rw[qE];exact f.2 j v hv);rw[hl]at hc;simp[wh d,hc,zV.val,hd]
def cX{P:jp}{α:Type}{e:zV α}{t:wT}{bytes:K}{a:wN}(c:QF P t e.agg e.n bytes a){w:wP}{b o:K}{cs:N wN}{S:K->Prop}{x:α}
 (hp:e.p S x cs w) (d:At w b o cs):(dL t ⟨b,o,wL⟩).run P w=.ok (e.val cs) w:=Mi c hp d
section
variable{P:jp}{env:y8}{ms:xS MF}{Γ:xS FF}{d:ww Z9}{ty:wT}{pos:String}{aft:ul Edge}{g:ww (wr×wW)}
def zmN{α:Type}{e:zV α}{xs:N α}{v:wN}{x:v6}{a c:wT}(f:P.underlying a=Z (.slice c))(h:ev env x=v)(i:∀(S:K->Prop) (w:wP),zE S Γ w->(fV (eS e) xs v).p S w):
 MJ P ⟨d,.call ⟨.builtin .len,#[x],#[a]⟩,ty,pos,aft,g⟩ env ms Γ (λ_:Z4=> .int .i64 (X xs:J)) (λ_=>[]) (λ_=>X xs<=9223372036854775807):=by
 intro w S _ _ b;have⟨k,cap,hv,hc,j,_⟩:=xK.1<|i S w b;refine uB.of_value (w':=w) (v:=.int .i64 (X xs:J)) ?_ ⟨(),O,xal hc j,yw.refl _ _,wS⟩;simp[jP,Wr,V1,Ul,h,hv,Builtin.len_,eM,kw f]
def Nw{α:Type}{e:zV α}{t c:wT}{bytes:K}{a:wN}(f:P.underlying t=Z (.slice c))(h:QF P c e.agg e.n bytes a){w:wP}{b o n cap k:K}
 (i:k<n) (ik:Xs):(Instr.indexAt t (.slice (Z ⟨b,o,wL⟩) n cap) (.int ik (k:J))).run P w=.ok (.pointer<|some ⟨b,o+k*e.n,wL⟩) w:=by
 unfold Instr.indexAt;have:(0:J)<=(k:J)/\(k:J)<(n:J):=W
 simp only[V4,kw f,xay,xaG,xag,iq this,wh h,qE,xbc]
def zeo{α:Type}{e:zV α}{xs:N α}{v:wN}{x i:v6}{t l:wT}{bytes:K}{a:wN}{k:K}{y:α}{ik:Xs}(q:ev env x=v)(hi:ev env i=.int ik (k:J))
 (r:P.underlying t=Z (.slice l)) (hd:QF P l e.agg e.n bytes a) (f:xs[k]? =Z y) (s:∀(S:K->Prop) (w:wP),zE S Γ w->(fV (eS e) xs v).p S w):
 MJ P ⟨d,.indexAddr t x i,ty,pos,aft,g⟩ env ms Γ (λp:wN=>p) (λp=>[fP e y p]) (λ_=>XS):=by
 intro w S _ _ h;have⟨E,cap,hv,h1,F,u⟩:=xK.1<|s S w h;have z:=(xaq.1 f).1;obtain rfl|⟨b,o,cs,rfl,A,m,B⟩:=u
 ·simp at f
 ·refine uB.of_value (w':=w) (v:=.pointer<|some ⟨b,o+k*e.n,wL⟩) ?_ ⟨_,O,wS,yw.refl _ _,⟨⟨b,o+k*e.n,?_⟩,wS⟩⟩
  ·simp[jP,q,hi,hv,Nw r hd z]
  ·have⟨c,hc,C⟩:=B.get f;refine⟨c,O,A,⟨m.1,λj v hv=> ?_⟩,hc⟩;have D:j<e.n:=by rw[<-e.len hc];exact(xaq.1 hv).1
   rw[xcU];exact m.2 _ v<|by rw[C j D];exact hv
def zjS{α:Type}{e:zV α}{y:α}{p:wN}{x:v6}{t:wT}{bytes:K}{a:wN}(h:ev env x=p)(i:QF P t e.agg e.n bytes a)
 (j:∀(S:K->Prop) (w:wP),zE S Γ w->(fP e y p).p S w):
 MJ P ⟨d,.load t x,ty,pos,aft,g⟩ env ms Γ (λv:wN=>v) (λv=>[fV e y v]) (λ_=>XS):=by
 intro w S _ _ c;obtain⟨b,o,cs,rfl,l,k,f⟩:=j S w c;refine uB.of_value (w':=w) (v:=e.val cs) ?_ ⟨_,O,wS,yw.refl _ _,⟨⟨cs,O,f⟩,wS⟩⟩;simp[jP,h,Instr.loadAt,xfz,cX i f k]
def Pa{α:Type}{e:zV α}{xs:N α}{v:wN}{x:v6}{lo hi:V v6}{t j:wT}{bytes:K}{a:wN}{l h:K}(m:ev env x=v)
 (k:P.underlying t=Z (.slice j)) (q:QF P j e.agg e.n bytes a) (hl:(lo.map<|ev env)=Z (.int .i64 (l:J))\/(lo=wL/\l=0)) (c:(hi.map<|ev env)=Z (.int .i64 (h:J))\/(hi=wL/\h=X xs))
 (B:l<=h) (C:h<=X xs) (r:∀(S:K->Prop) (w:wP),zE S Γ w->(fV (eS e) xs v).p S w):
 MJ P ⟨d,.slice t x lo hi wL,ty,pos,aft,g⟩ env ms Γ (λp:wN=>p) (λp=>[fV (eS e) ((xs.drop l).take<|h-l) p]) (λ_=>XS):=by
 intro w S _ _ i;have⟨f,cap,hv,h1,D,s⟩:=xK.1<|r S w i;have b1:(0:J)<=(l:J)/\(l:J)<=(h:J):=W
 have b2:(0:J)<=(h:J)/\(h:J)<=(cap:J):=W
 have u:(xde t v (lo.map<|ev env) (hi.map<|ev env) wL).run P w=.ok (.slice (if cap=l then f else f.map (·.add (l*e.n))) (h-l)<|cap-l) w:=by
  unfold xde;rw[hv];simp only[xay,kw k,xag];unfold xfP;simp only[xay,kw k,xag];unfold xem
  obtain hl|⟨hl,rfl⟩:=hl<;>obtain c|⟨c,rfl⟩:=c<;>
   simp only[hl,c,xev,V4,Option.map_none,xay,xaG,xag,iq b1,iq b2,wh q,xbc]
 refine uB.of_value (w':=w) (v:=.slice (if cap=l then f else f.map (·.add (l*e.n))) (h-l)<|cap-l) ?_ ⟨_,O,wS,yw.refl _ _,⟨?_,wS⟩⟩
 ·simp[jP,m,u]
 ·have hd:X ((xs.drop l).take<|h-l)=h-l:=by simp;lia
  refine xK.2 ⟨_,cap-l,by rw[hd],by rw[hd];lia,W,?_⟩;obtain rfl|⟨b,o,cs,rfl,y,z,A⟩:=s
  ·left;simp
  ·by_cases hc:cap=l
   ·left;have:h-l=0:=W
    simp[this]
   ·right;refine⟨b,o+l*e.n,(cs.drop<|l*e.n).take<|(h-l)*e.n,by simp[hc,qE],y,(z.drop _).take _,(A.drop l).take<|h-l⟩
end
end
section
section
variable{P:jp}{env:y8}{Γ:xS FF}{d:ww Z9}{ty yt t:wT}{pos:String}{aft:ul Edge}{g:ww (wr×wW)}{x y:v6}
def w64{x:J}(h: -9223372036854775808<=x/\x<=9223372036854775807):xdi.wrap x=x:=IntWalk.i64_in x h
def ziH(n:K):xcs.wrap (n:J)=((n%18446744073709551616:K):J):=by
 simp only[xfU,xei,xeB];simp
theorem mG{n:K}(h:n<18446744073709551616):xcs.wrap (n:J)=(n:J):=by rw[ziH,xam h]
def B9(x:J):xcs.wrap x=x%18446744073709551616:=by
 simp only[xfU,xei,xeB];simp
def tH{c:V2}{k:Xs}{a b:J}{v:wN}(e:ev env x=.int k a)(f:ev env y=.int k b)(hv:∀w,(WR c t (.int k a) (.int k b)).run P w=.ok v w)(w:wP):
 (jP (ev env) ⟨d,.binOp c t x y yt,ty,pos,aft,g⟩).run P w=.ok (.value v) w:=by
 have:(V3 c t x y (.int k a) (.int k b)).run P w=.ok () w:=by
  unfold V3;cases c<;>simp
 simp only[jP,e,f,xay,this,xag,hv,xaG]
def BY{k:Xs}{a b c:J}(e:ev env x=.int k a)(f:ev env y=.int k b)(hc:k.wrap (a+b)=c)(w:wP):
 (jP (ev env) ⟨d,.binOp .add t x y yt,ty,pos,aft,g⟩).run P w=.ok (.value (.int k c)) w:=
 tH e f (λw=>by simp[WR,Op.intArith,hc]) w
def zdM{k:Xs}{a b c:J}(e:ev env x=.int k a)(f:ev env y=.int k b)(hc:k.wrap (a-b)=c)(w:wP):
 (jP (ev env) ⟨d,.binOp .sub t x y yt,ty,pos,aft,g⟩).run P w=.ok (.value (.int k c)) w:=
 tH e f (λw=>by simp[WR,Op.intArith,hc]) w
def zkL{k:Xs}{a b c:J}(e:ev env x=.int k a)(f:ev env y=.int k b)(hc:k.wrap (a*b)=c)(w:wP):
 (jP (ev env) ⟨d,.binOp .mul t x y yt,ty,pos,aft,g⟩).run P w=.ok (.value (.int k c)) w:=
 tH e f (λw=>by simp[WR,Op.intArith,hc]) w
def zkM{k:Xs}{a b c:J}(e:ev env x=.int k a)(f:ev env y=.int k b)(h0:b≠0)(hc:k.wrap (a.tdiv b)=c)(w:wP):
 (jP (ev env) ⟨d,.binOp .quo t x y yt,ty,pos,aft,g⟩).run P w=.ok (.value (.int k c)) w:=
 tH e f (λw=>by simp[WR,Op.intDiv,h0,hc]) w
def zkh{k:Xs}{a b c:J}(e:ev env x=.int k a)(f:ev env y=.int k b)(h0:b≠0)(hc:a.tmod b=c)(w:wP):
 (jP (ev env) ⟨d,.binOp .rem t x y yt,ty,pos,aft,g⟩).run P w=.ok (.value (.int k c)) w:=
 tH e f (λw=>by simp[WR,Op.intDiv,h0,hc]) w
def C8{k e:Xs}{a b c:J}(f:ev env x=.int k a)(h:ev env y=.int e b)(h0:0<=b)(hc:a.fdiv (2^(min b.toNat k.bits))=c)(w:wP):
 (jP (ev env) ⟨d,.binOp .shr t x y yt,ty,pos,aft,g⟩).run P w=.ok (.value (.int k c)) w:=by
 have:¬b<0:=W
 simp[jP,f,h,V3,WR,Op.shift,this,hc]
def zaJ{k e:Xs}{a b c:J}(f:ev env x=.int k a)(h:ev env y=.int e b)(h0:0<=b)(hc:k.wrap (a*2^(min b.toNat k.bits))=c)(w:wP):
 (jP (ev env) ⟨d,.binOp .shl t x y yt,ty,pos,aft,g⟩).run P w=.ok (.value (.int k c)) w:=by
 have:¬b<0:=W
 simp[jP,f,h,V3,WR,Op.shift,this,hc]
def zj7{k:Xs}{a b c:J}(e:ev env x=.int k a)(f:ev env y=.int k b)(hc:k.wrap (((a%2^k.bits).toNat &&& (b%2^k.bits).toNat:K):J)=c)(w:wP):
 (jP (ev env) ⟨d,.binOp .and t x y yt,ty,pos,aft,g⟩).run P w=.ok (.value (.int k c)) w:=
 tH e f (λw=>by simp[WR,Op.intBits,hc]) w
def zn4{k:Xs}{a b c:J}(e:ev env x=.int k a)(f:ev env y=.int k b)(hc:k.wrap (((a%2^k.bits).toNat|||(b%2^k.bits).toNat:K):J)=c)(w:wP):
 (jP (ev env) ⟨d,.binOp .or t x y yt,ty,pos,aft,g⟩).run P w=.ok (.value (.int k c)) w:=
 tH e f (λw=>by simp[WR,Op.intBits,hc]) w
def zkK{k:Xs}{a c:J}(b:ev env x=.int k a)(hc:k.wrap (0-a)=c)(w:wP):
 (jP (ev env) ⟨d,.unOp .neg t x,ty,pos,aft,g⟩).run P w=.ok (.value (.int k c)) w:=by
 simp only[jP,b,Op.unary,Op.intArith,hc,xay,xaG,xag]
def Vw{k e:Xs}{src b:wT}{f:TypeDesc}{a c:J}(h:P.underlying src=Z f)(hd:P.underlying b=Z (.int e))(i:ev env x=.int k a)(hc:e.wrap a=c)(w:wP):
 (jP (ev env) ⟨d,.convert src b x,ty,pos,aft,g⟩).run P w=.ok (.value (.int e c)) w:=by
 simp[jP,i,convert,kw h,kw hd,Conv.intToInt,hc]
def zn0{a b:J}{ts:ul wT}(c:ev env x=.int .i64 a)(f:ev env y=.int .i64 b)(w:wP):
 (jP (ev env) ⟨d,.call ⟨.builtin .max,#[x,y],ts⟩,ty,pos,aft,g⟩).run P w=.ok (.value (.int .i64<|max a b)) w:=by
 have e:(if b>a then b else a)=max a b:=by rw[Int.max_def];split<;>split<;>lia
 simp only[jP,Wr,V1,Ul,xdX,xcb,xeC,c,f,Builtin.max_,Builtin.max2,xay,xaG,xag,List.foldlM_cons,List.foldlM_nil,e]
def zoc{a b:J}{ts:ul wT}(c:ev env x=.int .i64 a)(f:ev env y=.int .i64 b)(w:wP):
 (jP (ev env) ⟨d,.call ⟨.builtin .min,#[x,y],ts⟩,ty,pos,aft,g⟩).run P w=.ok (.value (.int .i64<|min a b)) w:=by
 have e:(if b<a then b else a)=min a b:=by rw[Int.min_def];split<;>split<;>lia
 simp only[jP,Wr,V1,Ul,xdX,xcb,xeC,c,f,Builtin.min_,Builtin.min2,xay,xaG,xag,List.foldlM_cons,List.foldlM_nil,e]
end
end
section
def tj{α:Type}(l:N α){n:K}(h:X l<=n):l.drop n=[]:=xcd h
section
variable{P:jp}{N:Nd}{we:wP}{Se:wr->Prop}{ms:xS MF}{Γ:xS FF}{Q:Qs}{env:y8}{ops:ul uS}{rest:xS uS}
 {d:ww Z9}{ty yt t:wT}{pos:String}{aft:ul Edge}{g:ww (wr×wW)}{x y:v6}
def tK{e:V2}{k:Xs}{a b:J}{c:wW}(f:ev env x=.int k a)(h:ev env y=.int k b)
 (hc:∀w,(WR e t (.int k a) (.int k b)).run P w=.ok (.bool c) w) (w:wP):(jP (ev env) ⟨d,.binOp e t x y yt,ty,pos,aft,g⟩).run P w=.ok (.value (.bool c)) w:=tH f h hc w
def Te{k:Xs}{a b:J}(c:yW ops env ⟨d,.binOp .geq t x y yt,ty,pos,aft,g⟩=wF)(hd:q8 N.n d=wF)(e:ev env x=.int k a)(f:ev env y=.int k b)
 (k1:b<=a->TL P N we Se ms Γ ops rest Q (put env d (.bool wF))) (k2:¬b<=a->TL P N we Se ms Γ ops rest Q (put env d (.bool I))):
 TL P N we Se ms Γ ops (⟨d,.binOp .geq t x y yt,ty,pos,aft,g⟩::rest) Q env:=by
 by_cases h:b<=a
 ·exact Zp c hd (tK e f λw=>by simp[WR,xfQ,h])<|k1 h
 ·exact Zp c hd (tK e f λw=>by simp[WR,xfQ,h])<|k2 h
def zfW{k:Xs}{a b:J}(c:ev env x=.int k a)(e:ev env y=.int k b)(w:wP):(jP (ev env) ⟨d,.binOp .lss t x y yt,ty,pos,aft,g⟩).run P w=.ok (.value (.bool<|decide<|a<b)) w:=
 tK c e (λw=>by simp[WR,xfQ]) w
def ze3{k:Xs}{a b:J}(c:ev env x=.int k a)(e:ev env y=.int k b)(w:wP):(jP (ev env) ⟨d,.binOp .leq t x y yt,ty,pos,aft,g⟩).run P w=.ok (.value (.bool<|decide<|a<=b)) w:=
 tK c e (λw=>by simp[WR,xfQ]) w
def zdW{k:Xs}{a b:J}(c:ev env x=.int k a)(e:ev env y=.int k b)(w:wP):(jP (ev env) ⟨d,.binOp .gtr t x y yt,ty,pos,aft,g⟩).run P w=.ok (.value (.bool<|decide<|b<a)) w:=
 tK c e (λw=>by simp[WR,xfQ]) w
def zd6{k:Xs}{a b:J}(c:ev env x=.int k a)(e:ev env y=.int k b)(w:wP):(jP (ev env) ⟨d,.binOp .geq t x y yt,ty,pos,aft,g⟩).run P w=.ok (.value (.bool<|decide<|b<=a)) w:=
 tK c e (λw=>by simp[WR,xfQ]) w
def zhw{k:Xs}{a b:J}(c:ev env x=.int k a)(e:ev env y=.int k b)(w:wP):(jP (ev env) ⟨d,.binOp .eql t x y yt,ty,pos,aft,g⟩).run P w=.ok (.value (.bool<|decide<|a=b)) w:=
 tK c e (λw=>by simp[WR,xfQ];by_cases h:a=b<;>simp[h]) w
def zho{k:Xs}{a b:J}(c:ev env x=.int k a)(e:ev env y=.int k b)(w:wP):(jP (ev env) ⟨d,.binOp .neq t x y yt,ty,pos,aft,g⟩).run P w=.ok (.value (.bool (!decide (a=b)))) w:=
 tK c e (λw=>by simp[WR,xfQ];by_cases h:a=b<;>simp[h]) w
def eh{a b:wW}(c:P.underlying t=Z .bool)(w:wP):(Op.equal t (.bool a) (.bool b)).run P w=.ok (a==b) w:=by
 show(Op.equalIn (9999+1) t (.bool a) (.bool b)).run P w=_;unfold Op.equalIn;simp only[xay,kw c,xag,xaG]
def zpm{a b:wW}(c:P.underlying t=Z .bool)(e:ev env x=.bool a)(f:ev env y=.bool b)(w:wP):
 (jP (ev env) ⟨d,.binOp .eql t x y yt,ty,pos,aft,g⟩).run P w=.ok (.value (.bool<|a==b)) w:=by
 have h:(V3 .eql t x y (.bool a) (.bool b)).run P w=.ok () w:=by simp[V3]
 have i:(WR .eql t (.bool a) (.bool b)).run P w=.ok (.bool<|a==b) w:=by simp only[WR,xay,eh c,xag,xaG]
 simp only[jP,e,f,xay,h,i,xag,xaG]
def zoC{a b:wW}(c:P.underlying t=Z .bool)(e:ev env x=.bool a)(f:ev env y=.bool b)(w:wP):
 (jP (ev env) ⟨d,.binOp .neq t x y yt,ty,pos,aft,g⟩).run P w=.ok (.value (.bool (!(a==b)))) w:=by
 have h:(V3 .neq t x y (.bool a) (.bool b)).run P w=.ok () w:=by simp[V3]
 have i:(WR .neq t (.bool a) (.bool b)).run P w=.ok (.bool (!(a==b))) w:=by simp only[WR,xay,eh c,xag,xaG]
 simp only[jP,e,f,xay,h,i,xag,xaG]
def Ep(P:jp)(f:Z5):wW:=match P.funcs[f]? with
 |some fn=> !(fn.name== "runtime.NumGoroutine") && fn.body.isSome
 |none=>I
def kn{f:Z5}(h:Ep P f=wF)(args:ul wN)(w:wP):(eX f args).run P w=.ok (.enter f args) w:=by
 unfold Ep at h;unfold eX;split at h
 ·next fn a=>
  simp only[xab,xcV]at h;have b:fn.body.isNone=I:=by simpa using h.2
  simp only[xay,run_program,xag,a,h.1,b,xak,ut,xaG]
 ·cases h
def zpo{U:Type}{b:U->wN}{a:U->xS FF}{ok:U->Prop}{c:xS FF}{f:Z5}{asv:xS v6}{ts:ul wT}{args:xS wN}(i:Ep P f=wF)
 (j:Fn P f args.toArray c b a ok) (k:asv.map (ev env)=args) (l:∀(S:K->Prop) (w:wP),zE S Γ w->zE S c w):
 MJ P ⟨d,.call ⟨.value (.func f),asv.toArray,ts⟩,ty,pos,aft,g⟩ env ms Γ b a ok:=by
 intro w S m _ h;unfold uB;have:(jP (ev env) ⟨d,.call ⟨.value (.func f),asv.toArray,ts⟩,ty,pos,aft,g⟩).run P w=.ok (.enter f args.toArray) w:=by simp[jP,Wr,ev,xdJ,V1,kn i,k]
 rw[this];exact(j w S m<|l S w h).mono λe w' ⟨u,n,o,p,hc⟩=>⟨b u,n,u,O,o,p,hc⟩
def pE{U:Type}{b:U->wN}{a:U->xS FF}{ok:U->Prop}{c:xS FF}{f:Z5}{asv:xS v6}{ts:ul wT}{args UU:xS wN}{x:v6}(j:Ep P f=wF)
 (h:ev env x=.func (.func f) #[] UU.toArray) (k:Fn P f (args++UU).toArray c b a ok) (l:asv.map (ev env)=args) (m:∀(S:K->Prop) (w:wP),zE S Γ w->zE S c w):
 MJ P ⟨d,.call ⟨.value x,asv.toArray,ts⟩,ty,pos,aft,g⟩ env ms Γ b a ok:=by
 intro w S n _ i;unfold uB;have:(jP (ev env) ⟨d,.call ⟨.value x,asv.toArray,ts⟩,ty,pos,aft,g⟩).run P w=.ok (.enter f (args++UU).toArray) w:=by simp[jP,Wr,h,xdJ,V1,kn j,l]
 rw[this];exact(k w S n<|m S w i).mono λe w' ⟨u,o,p,h,hc⟩=>⟨b u,o,u,O,p,h,hc⟩
def rU(off:K):∀(c:xS wN) (k:K) (a:ul wN),off+k+X c<=a.size->
 ((c.zipIdx k).foldl (λcs (x:wN×K)=>cs.setIfInBounds (off+x.2) x.1) a).toList=a.toList.take (off+k)++c++a.toList.drop (off+k+X c)
 |[],k,a,h=>by simp
 |v::c,k,a,h=>by
  simp only[xau]at h;rw[List.zipIdx_cons,List.foldl_cons];have:=rU off c (k+1) (a.setIfInBounds (off+k) v) (by simp;lia);rw[this];simp only[Array.toList_setIfInBounds,xau];have b:off+k<X a.toList:=by simp;lia
  rw[(W:off+(k+1)=off+k+1),xdZ,iq b];have e1:X (a.toList.take<|off+k)=off+k:=by simp;lia
  rw[List.take_append,List.drop_append,e1];simp only[(W:off+k+1-(off+k)=1),xes,List.take_zero,(W:off+k+1+X c-(off+k)=X c+1),List.drop_succ_cons];rw[xaQ (by rw[e1];lia),tj (xdB (off+k) a.toList) (by rw[e1];lia),List.drop_drop];simp only[xby,xaf,xbF,xby];congr 3;congr 1;lia
def qU(parts:xS (K×wN)):xS wN:=parts.flatMap λx=>x.2.cells.toList
def U1(a:K->V (K×K)):xS (K×wN)->K->Prop
 |[],_=>XS
 |(i,v)::r,off=>a i=Z (off,v.cells.size)/\U1 a r (off+v.cells.size)
def mF{c:K->V (K×K)}:∀(parts:xS (K×wN)) (b z:xS wN),U1 c parts (X b)->X (qU parts)<=X z->
 xdt c (b++z).toArray parts=Z (b++qU parts++z.drop (X (qU parts))).toArray
 |[],b,z,_,_=>by simp[xdt,qU]
 |(i,v)::r,b,z,⟨h1,e⟩,hl=>by
  simp only[qU,List.flatMap_cons,xap,xeU]at hl;have f:¬(X b+v.cells.size>(b++z).toArray.size):=by simp;lia
  have h:v.cells.zipIdx.foldl (λcs (x:wN×K)=>cs.setIfInBounds (X b+x.2) x.1) (b++z).toArray=((b++v.cells.toList)++z.drop v.cells.size).toArray:=by
   apply Array.ext';rw[<-Array.foldl_toList,Array.toList_zipIdx,rU (X b) v.cells.toList 0 _<|by simp;lia];simp
  unfold xdt;simp only[h1];rw[ir<|by simp only[ne_eq,cE,decide_false,xet,WW];exact f];have:=mF r (b++v.cells.toList) (z.drop v.cells.size) (by simpa using e) (by simp[qU]at*;lia);refine(kW (λa=>xdt c a r) h).trans<|this.trans ?_;simp[qU,xaf,List.drop_drop]
def FY(i:K)(v:wN)(r:xS (K×wN)):qU ((i,v)::r)=v.cells.toList++qU r:=by simp[qU]
def PN{α:Type}{e:zV α}{z:α}{bytes:K}{a:wN}{parts:xS (K×v6)}{vs:xS (K×wN)}(o:QF P t wF e.n bytes a)(u:e.agg=wF)(A:a.cells.size=e.n)
 (hv:parts.map (λx=>(x.1,ev env x.2))=vs)
 (hc:(∃fs,P.underlying t=Z (.struct fs)/\∃pl:ul (K×K),(∀w,(fs.mapM (λf=>do pure (f.offset,<-WN f.type)):Sem (ul<|K×K)).run P w=.ok pl w)/\(∀(S:K->Prop) (w:wP),zE S Γ w->U1 (pl[·]?) vs 0))\/
  (∃k l n b2 z2 j,P.underlying t=Z (.array k l)/\QF P l j n b2 z2/\(∀(S:K->Prop) (w:wP),zE S Γ w->U1 (λi=>Z (i*n,n)) vs 0)))
 (hp:∀(S:K->Prop) (w:wP),zE S Γ w->e.p S z (qU vs) w):
 MJ P ⟨d,.build t parts.toArray,ty,pos,aft,g⟩ env ms Γ (λv:wN=>v) (λv=>[fV e z v]) (λ_=>XS):=by
 intro w S _ _ c;have q:=hp S w c;have hl:=e.len q;have r:X a.cells.toList=e.n:=by simpa using A
 refine uB.of_value (w':=w) (v:=.agg (qU vs).toArray) ?_ ⟨_,O,wS,yw.refl _ _,⟨⟨qU vs,by simp[zV.val,u],q⟩,wS⟩⟩;have s:∀b,U1 b vs 0->xdt b a.cells vs=Z (qU vs).toArray:=by
  intro b h;have:=mF vs [] a.cells.toList h (by rw[hl,r];exact Nm _);simpa[tj a.cells.toList (n:=X (qU vs))<|by rw[hl,r];exact Nm _]using this
 have hi:parts.toArray.map (λx=>(x.1,ev env x.2))=vs.toArray:=by rw[<-hv];simp
 simp only[jP,xay];have B:(Instr.build t<|parts.toArray.map λx=>(x.1,ev env x.2)).run P w=.ok (.agg (qU vs).toArray) w:=by
  rw[hi];unfold Instr.build;rcases hc with⟨fs,m,pl,hc,hd⟩|⟨k,l,n,b2,z2,j,m,C,hd⟩
  ·simp only[xay,kD o,xag,kw m,hc,s _<|hd S w c,xaG]
  ·simp only[xay,kD o,xag,kw m,wh C,s _<|hd S w c,xaG]
 rw[B];rfl
def zbB{α:Type}{e:zV α}{y:α}{v:wN}{S:K->Prop}{w:wP}(h:(fV e y v).p S w):v.cells.size=e.n:=by
 have:=e.len<|uY h;simpa using this
def Et{α:Type}{e:zV α}{c:wT}{zs:xS α}{len bytes:K}{a:wN}{parts:xS (K×v6)}{vs:xS (K×wN)}(m:P.underlying t=Z (.slice c))(j:QF P c e.agg e.n bytes a)
 (hn:0<e.n) (hd:X zs=len) (u:len*e.n<=16777216) (hv:parts.map (λx=>(x.1,ev env x.2))=vs)
 (o:∀(S:K->Prop) (w:wP),zE S Γ w->U1 (λi=>Z (i*e.n,e.n)) vs 0) (hp:∀(S:K->Prop) (w:wP),zE S Γ w->yJ e S zs (qU vs) w):
 MJ P ⟨d,.buildSlice t len parts.toArray,ty,pos,aft,g⟩ env ms Γ (λv:wN=>v) (λv=>[fV (eS e) zs v]) (λ_=>XS):=by
 intro w S p _ h;have k:=hp S w h;have hl:X (qU vs)=len*e.n:=by rw[k.len,hd]
 have x:=KD.alloc w (.cells (qU vs).toArray c);refine uB.of_value (w':=w.alloc (.cells (qU vs).toArray c)) (v:=.slice (Z ⟨w.heap.size,0,wL⟩) len len) ?_ ⟨_,O,wS,x,⟨xK.2 ?_,wS⟩⟩
 ·have hi:parts.toArray.map (λx=>(x.1,ev env x.2))=vs.toArray:=by rw[<-hv];simp
  have hc:xdt (λi=>Z (i*e.n,e.n)) ((xeV<|len*e.n).map (a.cells[·%a.cells.size]!)) vs=Z (qU vs).toArray:=by
   have:=mF vs [] ((xeV<|len*e.n).map (a.cells[·%a.cells.size]!)).toList (o S w h) (by simp[hl]);rw[xby,xcX,xby,xcd (by simp[hl]),xbP]at this;exact this
  have q:(xew t len<|parts.toArray.map λx=>(x.1,ev env x.2)).run P w=.ok (.slice (Z ⟨w.heap.size,0,wL⟩) len len) (w.alloc (.cells (qU vs).toArray c)):=by
   rw[hi];unfold xew;simp only[xay,kw m,xag,wh j,ir (W:¬len*e.n>2^24),aC];by_cases h0:len*e.n=0
   ·have z:qU vs=[]:=xbm (by rw[hl,h0]);have r:xdt (λi=>Z (i*e.n,e.n)) ((xeV 0).map ((#[]:ul wN)[·%(#[]:ul wN).size]!)) vs=Z (qU vs).toArray:=by
     have l:∀f:K->wN,(xeV 0).map f= #[]:=λf=>by simp
     rw[<-hc,h0,l,l]
    simp only[h0,uL];simp only[r,xay,WD,xag,xaG]
   ·simp only[ir h0,xay,kD j,xag,xaG,hc,WD]
  simp only[jP,xay,q,xag,xaG]
 ·have s:At (w.alloc (.cells (qU vs).toArray c)) w.heap.size 0 (qU vs):=by
   have:=At.row (b:=w.heap.size) (cs:=(qU vs).toArray) (t:=c) (fr:=(0,0))<|WF w _;simpa using this
  refine SlP.of_at (p _<|Nm _) s (k.keep x.to) hd.symm W ?_;have:len<=len*e.n:=xcf _ hn;unfold WP;lia
def zmx{α:Type}{e:zV α}{E:wT}{z:α}{v:wN}(c:ev env x=v)(f:∀(S:K->Prop) (w:wP),zE S Γ w->(fV e z v).p S w):
 MJ P ⟨d,.box E x,ty,pos,aft,g⟩ env ms Γ (λv:wN=>v) (λp=>[fP e z p]) (λ_=>XS):=by
 intro w S i _ a;have h:=uY<|f S w a;have b:=KD.alloc w (.cells v.cells E);refine uB.of_value (w':=w.alloc (.cells v.cells E)) (v:=.pointer<|some ⟨w.heap.size,0,wL⟩) ?_ ⟨_,O,wS,b,⟨⟨w.heap.size,0,v.cells.toList,O,i _<|Nm _,At.row<|WF w _,e.keep h b.to⟩,wS⟩⟩;simp[jP,c,Instr.box,newVar,aC]
end
end
section
def Sub{α β:Type}(e:sS α)(x:α)(o:K)(d:zV β)(g:β)(up:β->α):Prop:=
 ∀(S:K->Prop) (w:wP) (cs:N wN),e.p S x cs w->∃b c a,cs=b++c++a/\X b=o/\d.p S g c w/\∀(w':wP) y f,yw S w w'->d.p S y f w'->e.p S (up y) (b++f++a) w'
def Sub.self{α:Type}(e:zV α)(x:α):Sub e.c x 0 e x id:=
 λ_ _ cs h=>⟨[],cs,[],gT,O,h,λ_ y b _ a=>by simpa[zV.c]using a⟩
def Sub.fst{α β:Type}(e:zV α)(f:zV β)(x:α×β):Sub (eP e f).c x 0 e x.1 (λy=>(y,x.2)):=by
 rintro S w cs ⟨c,d,rfl,hc,hd⟩;exact⟨[],c,d,gT,O,hc,λw' y a k b=>⟨a,d,gT,b,f.keep hd k⟩⟩
def Sub.snd{α β:Type}(e:zV α)(f:zV β)(x:α×β):Sub (eP e f).c x e.n f x.2 (λy=>(x.1,y)):=by
 rintro S w cs ⟨c,d,rfl,hc,hd⟩;exact⟨c,d,[],gT,e.len hc,hd,λw' y a k b=>⟨c,a,gT,e.keep hc k,b⟩⟩
def Sub.nth{α:Type}(k:K)(e:zV α)(xs:N α)(i:K)(x:α)(d:xs[i]? =Z x):Sub (eA k e).c xs (i*e.n) e x (λy=>xs.set i y):=by
 rintro S w cs ⟨hl,a⟩;obtain⟨hi,rfl⟩:=xaq.1 d;have hd:=a.drop i;rw[xbT hi]at hd;have⟨c,r,h1,f,g⟩:=hd;have l:i*e.n<=X cs:=by rw[a.len];exact xan _ W
 refine⟨cs.take<|i*e.n,c,r,?_,by simp;lia,f,λw' y h b j=>⟨by simpa using hl,?_⟩⟩
 ·rw[xaf,<-h1,xbv]
 ·show yJ e S (xs.set i y) _ w';rw[xdZ,iq hi,xaf];exact((a.keep b).take i).append ⟨h,r,O,j,g.keep b⟩
def Sub.row{α:Type}(e:zV α)(xs:N α)(i:K)(x:α)(d:xs[i]? =Z x):Sub (zoY e) xs (i*e.n) e x (λy=>xs.set i y):=by
 intro S w cs f;have⟨hi,_⟩:=xaq.1 d;have⟨b,c,a,h1,g,h,j⟩:=Sub.nth (X xs) e xs i x d S w cs ⟨O,f⟩;exact⟨b,c,a,h1,g,h,λw' y k l m=>(j w' y k l m).2⟩
def Sub.comp{α β γ:Type}{e:sS α}{x:α}{o m:K}{f:zV β}{y:β}{g:zV γ}{z:γ}{up:β->α}{b:γ->β}(h:Sub e x o f y up)(n:Sub f.c y m g z b):
 Sub e x (o+m) g z (λt=>up<|b t):=by
 intro S w cs p;obtain⟨j,c,d,rfl,h1,q,r⟩:=h S w cs p;obtain⟨i,s,a,rfl,u,hd,v⟩:=n S w c q;refine⟨j++i,s,a++d,by simp[xaf],by simp[h1,u],hd,λw' t l k hc=> ?_⟩;have:=r w' _ _ k<|v w' t l k hc;simpa[xaf]using this
section
variable{P:jp}{N:Nd}{we:wP}{Se:wr->Prop}{ms:xS MF}{Γ:xS FF}{Q:Qs}{env:y8}{ops:ul uS}{rest:xS uS}
 {d:ww Z9}{ty yt t:wT}{pos:String}{aft:ul Edge}{g:ww (wr×wW)}{x y:v6}
def AW{c:wT}{ag:wW}{e bytes:K}{a:wN}{b o n cap k:K}{ik:Xs}(f:P.underlying t=Z (.slice c))(h:QF P c ag e bytes a)
 (i:ev env x=.slice (Z ⟨b,o,wL⟩) n cap) (hi:ev env y=.int ik (k:J)) (j:k<n) (w:wP):
 (jP (ev env) ⟨d,.indexAddr t x y,ty,pos,aft,g⟩).run P w=.ok (.value (.pointer<|some ⟨b,o+k*e,wL⟩)) w:=by
 have:(0:J)<=(k:J)/\(k:J)<(n:J):=W
 simp only[jP,i,hi,Instr.indexAt,V4,kw f,xay,xaG,xag,iq this,wh h,qE,xbc]
def OH{c:wT}{ag:wW}{e bytes:K}{a:wN}{b o n k:K}{ik:Xs}(f:P.underlying t=Z (.array n c))(h:QF P c ag e bytes a)
 (i:ev env x=.pointer (Z ⟨b,o,wL⟩)) (hi:ev env y=.int ik (k:J)) (j:k<n) (w:wP):
 (jP (ev env) ⟨d,.indexAddr t x y,ty,pos,aft,g⟩).run P w=.ok (.value (.pointer<|some ⟨b,o+k*e,wL⟩)) w:=by
 have:(0:J)<=(k:J)/\(k:J)<(n:J):=W
 simp only[jP,i,hi,Instr.indexAt,xfz,V4,kw f,xay,xaG,xag,iq this,wh h,qE,xbc]
def zbY{α β:Type}{e:zV α}{f:zV β}{z:α}{z':β}{up:β->α}{p:wN}{l:wT}{ag:wW}{h bytes:K}{a:wN}{n k:K}{ik:Xs}(r:P.underlying t=Z (.array n l))(hd:QF P l ag h bytes a)
 (s:ev env x=p) (hi:ev env y=.int ik (k:J)) (u:k<n) (hc:Sub e.c z (k*h) f z' up) (A:∀(S:K->Prop) (w:wP),zE S Γ w->(fP e z p).p S w):
 MJ P ⟨d,.indexAddr t x y,ty,pos,aft,g⟩ env ms Γ (λp:wN=>p) (λp=>[fP f z' p]) (λ_=>XS):=by
 intro w S _ _ i;obtain⟨b,o,cs,rfl,B,m,C⟩:=A S w i;obtain⟨D,c,q,rfl,h1,E,_⟩:=hc S w cs C;refine uB.of_value (OH r hd s hi u w) ⟨_,O,wS,yw.refl _ _,⟨⟨b,o+k*h,c,O,B,⟨m.1,λj v hv=> ?_⟩,E⟩,wS⟩⟩;rw[xcU,<-h1];refine m.2 _ v ?_;rw[xaf,xbj W,xff,xaR (xaq.1 hv).1];exact hv
def SM(P:jp)(t:wT)(i:K):V K:=match P.underlying t with
 |some (.struct fs)=>match fs[i]? with
  |some f=>match P.info? f.type with
   |some a=>if a.size=0 then wL else Z f.offset
   |none=>wL
  |none=>wL
 |_=>wL
def OZ{i off b o:K}(h:SM P t i=Z off)(w:wP):(Instr.fieldAt t (.pointer<|some ⟨b,o,wL⟩) i).run P w=.ok (.pointer<|some ⟨b,o+off,wL⟩) w:=by
 unfold SM at h;split at h
 ·next fs a=>
  split at h
  ·next f c=>
   split at h
   ·next e hi=>
    split at h
    ·cases h
    ·next j=>
     cases h;simp only[Instr.fieldAt,xay,kw a,xag,c,xfz,xaG,fieldPlace,WN,WS,run_program,hi,ir j,qE]
   ·cases h
  ·cases h
 ·cases h
def ot{i off b o:K}(h:SM P t i=Z off)(a:ev env x=.pointer (Z ⟨b,o,wL⟩))(w:wP):
 (jP (ev env) ⟨d,.fieldAddr t x i,ty,pos,aft,g⟩).run P w=.ok (.value (.pointer<|some ⟨b,o+off,wL⟩)) w:=by
 simp only[jP,a,xay,OZ h,xag,xaG]
def zf2{α β:Type}{e:zV α}{f:zV β}{z:α}{z':β}{up:β->α}{p:wN}{i off:K}(h:SM P t i=Z off)(m:ev env x=p)(hc:Sub e.c z off f z' up)
 (n:∀(S:K->Prop) (w:wP),zE S Γ w->(fP e z p).p S w):MJ P ⟨d,.fieldAddr t x i,ty,pos,aft,g⟩ env ms Γ (λp:wN=>p) (λp=>[fP f z' p]) (λ_=>XS):=by
 intro w S _ _ a;obtain⟨b,o,cs,rfl,q,k,r⟩:=n S w a;obtain⟨s,c,l,rfl,h1,u,_⟩:=hc S w cs r;refine uB.of_value (ot h m w) ⟨_,O,wS,yw.refl _ _,⟨⟨b,o+off,c,O,q,⟨k.1,λj v hv=> ?_⟩,u⟩,wS⟩⟩;rw[xcU,<-h1];refine k.2 _ v ?_;rw[xaf,xbj W,xff,xaR (xaq.1 hv).1];exact hv
theorem St.muts{i:K}{m:MF}{w:wP}(h:St we Se ms Γ w)(hi:ms[i]? =Z m):∃S:K->Prop,m.p S w/\yL S ms w/\zE S Γ w:=by
 have⟨h1,c,e,S,f,j,k,a,b⟩:=h;exact⟨S,yL.get a hi,a,b⟩
def St.mut{i:K}{m:MF}{w:wP}(h:St we Se ms Γ w)(hi:ms[i]? =Z m):∃S:K->Prop,(∀k,w.heap.size<=k->S k)/\m.p S w/\zE S Γ w/\∀(Δ:xS FF),zE S Δ w->St we Se ms Δ w:=by
 have⟨h1,e,f,S,j,b,l,c,n⟩:=h;exact⟨S,b,yL.get c hi,n,λΔ a=>⟨h1,e,f,S,j,b,l,c,a⟩⟩
def At.mid{w:wP}{b:K}{cs:ul wN}{E:wT}{a c e:xS wN}(h:w.heap[b]? =Z (.cells cs E (0,0)))(f:cs.toList=a++c++e):At w b (X a) c:=by
 have:=((At.row h).drop (X a)).take (X c);rw[f]at this;simpa using this
def WX{α β:Type}{e:sS α}{E b:K}{z:α}{f:zV β}{o:K}{z':β}{up:β->α}{bytes:K}{a:wN}(i:K)
 (k:ms[i]? =Z (mB e E b z)) (l:ev env x=.pointer (Z ⟨b,o,wL⟩)) (hc:Sub e z o f z' up) (m:QF P t f.agg f.n bytes a):
 MJ P ⟨d,.load t x,ty,pos,aft,g⟩ env ms Γ (λv:wN=>v) (λv=>[fV f z' v]) (λ_=>XS):=by
 intro w S _ p q;have⟨cs,r,hp⟩:=yL.get p k;have⟨s,c,h,hd,h1,j,_⟩:=hc S w cs.toList hp;have u:At w b o c:=h1▸At.mid r hd;refine uB.of_value (w':=w) (v:=f.val c) ?_ ⟨_,O,wS,yw.refl _ _,zpa j,wS⟩;simp[jP,l,Instr.loadAt,xfz,cX m j u]
def VY(w:wP)(b:K)(cs:ul wN):yw (λk=>k≠b) w (w.setRow b cs):=
 ⟨O,O,O,by simp[World.setRow],λk _ a=>setRow_other w b k cs a⟩
def IA{ag:wW}{n bytes:K}{f:wN}(j:QF P t ag n bytes f){w:wP}{b:K}{cs:ul wN}{E:wT}{a c e:xS wN}{v:wN}
 (h:w.heap[b]? =Z (.cells cs E (0,0))) (i:cs.toList=a++c++e) (hc:X c=n) (hv:X v.cells.toList=n) (h1:∀u∈v.cells.toList,u.oneCell'=wF):
 (storeVar t ⟨b,X a,wL⟩ v).run P w=.ok () (w.setRow b (a++v.cells.toList++e).toArray):=by
 unfold storeVar;have hd:cs.size=X (a++c++e):=by rw[<-i];simp
 have k:=US P b (X a) E v.cells.toList 0 cs w h (by rw[hd,hv];simp;lia) h1;have l:v.cells.size=n:=by simpa using hv
 simp only[xay,wh j,xag,l,ne_eq,cE,ut];refine k.trans ?_;congr 2;rw[i,hv,xbK];congr 2
 ·rw[xaf,xfR O]
 ·rw[<-hc,<-xap,xfd O]
def kH{α β:Type}{e:sS α}{E b:K}{z:α}{f:zV β}{o:K}{z' y':β}{up:β->α}{bytes:K}{q v:wN}(i:K)(B:ms[i]? =Z (mB e E b z))(H:ev env x=.pointer (Z ⟨b,o,wL⟩))(J:ev env y=v)(hd:Sub e z o f z' up)(L:QF P t f.agg f.n bytes q)
 (hv:∀(S:K->Prop) (w:wP),zE S Γ w->(fV f y' v).p S w):OG P ⟨wL,.store t x y,ty,pos,aft,g⟩ env we Se ms Γ (λ_:Z4=>uP) (λ_=>(ms.set i<|mB e E b<|up y')) (λ_=>Γ) (λ_=>XS):=by
 intro w hi;have⟨S0,_,⟨a,r,M⟩,R,_⟩:=hi.mut B;have⟨j,c0,h,s,u,C,_⟩:=hd S0 w a.toList M;have hn:=uY<|hv S0 w R;have T:(jP (ev env) ⟨wL,.store t x y,ty,pos,aft,g⟩).run P w=.ok .skip (w.setRow b (j++v.cells.toList++h).toArray):=by
  have:=IA L r s (f.len C) (f.len hn)<|f.one hn;rw[u]at this;simp only[jP,H,J,Instr.storeAt,xfz,xay,xaG,xag,this]
 refine uB.of_skip T ⟨(),O,wS,hi.write B O O (VY w b _) ?_⟩;rintro S U ⟨cs,D,hp⟩ V;rw[r]at D;cases D;have⟨m,c,l,F,hl,hc,Y⟩:=hd S w a.toList hp;have e1:m=j:=by
  have h1:m=a.toList.take o:=by rw[F,xaf,<-hl,xfR O]
  have A:j=a.toList.take o:=by rw[s,xaf,<-u,xfR O]
  rw[h1,A]
 have e2:l=h:=by
  have h1:l=a.toList.drop (o+f.n):=by rw[F,<-hl,<-f.len hc,<-xap,xfd O]
  have A:h=a.toList.drop (o+f.n):=by rw[s,<-u,<-f.len C,<-xap,xfd O]
  rw[h1,A]
 subst e1 e2;have G:yw S w (w.setRow b (m++v.cells.toList++l).toArray):=(VY w b _).weak λk _ hk=>U k hk;exact⟨_,cS w b a _ E (0,0) r,by simpa using Y _ y' _ G (f.keep (uY<|hv S w V) G)⟩
def zaA{α:Type}{e:zV α}{c:wT}{z:α}{n bytes:K}{zero:wN}{q:v6}{r s:Xs}(u:P.underlying t=Z (.slice c))(A:QF P c e.agg e.n bytes zero)(B:ev env x=.int r (n:J))(C:ev env q=.int s (n:J))(D:bytes*n<=281474976710656)(hn:n<=9223372036854775807)
 (f:∀(S:K->Prop) (w:wP),e.p S z zero.cells.toList w):OG P ⟨d,.makeSlice t x q,ty,pos,aft,g⟩ env we Se ms Γ (λb=>(.slice (Z ⟨b,0,wL⟩) n n)) (λb=>(mR e c b (xac n z)::ms)) (λ_=>Γ) (λ_=>XS):=by
 intro w E;have⟨i,hi,h1,F,G⟩:=A.info;have H:=run_make (P:=P) w t c i zero u hi G r s (n:J) (n:J) W W (by rw[F,<-xfS];exact Int.ofNat_le.2 D) W;have hd:X zero.cells.toList=e.n:=e.len<|f (λ_=>XS) w;have hc:(cO zero.cells<|n*i.size).toList=(xac n zero.cells.toList).flatten:=by
  rw[h1];apply xcH;intro j;have L:zero.cells.size=e.n:=by simpa using hd
  by_cases a:j<n*e.n
  ·have k:0<e.n:=xco λh0=>by rw[h0]at a;simp at a
   have e1:(cO zero.cells<|n*e.n).toList[j]? =zero.cells.toList[j%e.n]? :=by
    have o:=xaS j k;simp[cO,a,L,o]
   have M:((xac n zero.cells.toList).flatten)[j]? =zero.cells.toList[j%e.n]? :=by
    have:=(yJ.replicate (f (λ_=>XS) w) n).get (i:=j/e.n) (x:=z) (by rw[List.getElem?_replicate,iq<|(xaX k).2 a]);exact flatten_get zero.cells.toList e.n hd k n j a
   rw[e1,M]
  ·rw[xbD (by simp[size_madeCells];lia),xbD<|by simp[hd];lia]
 refine uB.of_value (w':=w.alloc (.cells (cO zero.cells<|n*i.size) c)) (v:=.slice (Z ⟨w.heap.size,0,wL⟩) n n) ?_ ⟨_,O,wS,E.fresh (KD.alloc w _) O gT ?_⟩
 ·simp only[jP,B,C,xay,H,xag,xaG,xbc]
 ·intro S _ _;refine⟨_,WF w _,?_⟩;rw[hc];exact yJ.replicate (f _ _) n
 where
 flatten_get (l:xS wN) (m:K) (hl:X l=m) (o:0<m):∀(n j:K),j<n*m->((xac n l).flatten)[j]? =l[j%m]?
  |0,j,h=>by simp at h
  |n+1,j,h=>by
   rw[xds,List.flatten_cons];by_cases a:j<m
   ·rw[xaR W,xam a]
   ·rw[xbj W,hl,flatten_get l m hl o n (j-m) (by rw[xbb]at h;lia),<-Nat.mod_eq_sub_mod W]
end
end
section
section
variable{we:wP}{Se:wr->Prop}{ms:xS MF}{Γ Δ:xS FF}{w w':wP}
theorem St.growM{i:K}{m m':MF}(h:St we Se ms Γ w)(hi:ms[i]? =Z m)(x:yw (λk=>¬m.blk k) w w')(s:∀k,m'.blk k->m.blk k\/w.heap.size<=k)
 (n:∀S:K->Prop,(∀k,S k->¬m.blk k)->yL S ms w->zE S Γ w->m'.p S w'):St we Se (ms.set i m') Γ w':=by
 have⟨h1,E,u,S,F,G,q,t,v⟩:=h;have o:=xbq hi;have y:∀k,S k->¬m.blk k:=λk a e=>(q m o k e).1 a;have hd:∀k,k<w.heap.size->S k->S k/\¬m'.blk k:=λk a z=>⟨z,λe=>by
  obtain h|h:=s k e
  ·exact y k z h
  ·lia⟩
 have A:∀k,(S k/\¬m'.blk k)->¬m.blk k:=λk a=>y k a.1;have B:yw (λk=>S k/\¬m'.blk k) w w':=x.weak λk _ a=>A k a;have C:=λb f=>yL.lt t b f;have other:∀(j:K) (b:MF),j≠i->ms[j]? =Z b->∀k,b.blk k->¬m.blk k/\¬m'.blk k:=λj b g f k a=>by
  have h1:¬m.blk k:=λe=>eo u hi k e j b g f a;refine⟨h1,λe=> ?_⟩;obtain h|h:=s k e
  ·exact h1 h
  ·have:=C b (xbq f) k a;lia
 have D:=n _ A (yL.sub hd t)<|zE.sub hd v;refine⟨h1.behind x (λk a e=>by have:=(q m o k e).2;lia),E,?_,λk=>S k/\¬m'.blk k,λk a=>F k a.1,?_,?_,?_,?_⟩
 ·exact c i m' u<|λj b g f k a=>(other j b g f k a).2
 ·exact λk a=>⟨G k<|xal x.size a,λe=>by have:=m'.lt D k e;lia⟩
 ·intro b f k a;obtain⟨j,g,rfl⟩:=xcr f;rw[xfJ]at a;rw[xbC]at g;split at a
  ·refine⟨λhc=>hc.2 a,?_⟩;obtain h|h:=s k a
   ·exact(q m o k h).2
   ·have:=h1.size;lia
  ·exact⟨λhc=>(q _ (xbE g) k a).1 hc.1,(q _ (xbE g) k a).2⟩
 ·exact d i m' B D (λj b g f k a=>x.block k (C b (xbq f) k a) (other j b g f k a).1)<|yL.sub hd t
 ·exact zE.keep B<|zE.sub hd v
 where
 c:∀{ms:N MF} (i:K) (m':MF),VU ms->(∀(j:K) (b:MF),j≠i->ms[j]? =Z b->∀k,b.blk k->¬m'.blk k)->VU (ms.set i m')
  |[],_,_,h,_=>by simpa using h
  |m::r,0,m',h,l=>⟨λk a b f hc=>by
   obtain⟨j,g,rfl⟩:=xcr f;exact l (j+1) r[j] W (by simp[g]) k hc a,h.2⟩
  |m::r,i+1,m',h,l=>by
   refine⟨λk a b f=> ?_,c i m' h.2<|λj b g f=>l (j+1) b W<|by simpa using f⟩;obtain⟨j,g,rfl⟩:=xcr f;rw[xfJ];split
   ·exact l 0 m W O k a
   ·exact h.1 k a _<|xbE _
 d {S:K->Prop}:∀{ms:N MF} (i:K) (m':MF),yw S w w'->m'.p S w'->(∀(j:K) (b:MF),j≠i->ms[j]? =Z b->∀k,b.blk k->w'.heap[k]? =w.heap[k]?)->yL S ms w->yL S (ms.set i m') w'
  |[],_,_,_,_,_,_=>trivial
  |m::r,0,m',x,o,l,h=>⟨o,yL.keep x (λb f k a=>by
   obtain⟨j,g,rfl⟩:=xcr f;exact l (j+1) r[j] W (by simp[g]) k a) h.2⟩
  |m::r,i+1,m',x,o,l,h=>⟨m.keep h.1 x<|λk a=>l 0 m W O k a,d i m' x o (λj b g f=>l (j+1) b W<|by simpa using f) h.2⟩
theorem St.grow{i:K}{m m':MF}(h:St we Se ms Γ w)(hi:ms[i]? =Z m)(x:yw (λk=>¬m.blk k) w w')(a:∀k,m'.blk k->m.blk k\/w.heap.size<=k)
 (n:∀S:K->Prop,(∀k,S k->¬m.blk k)->m.p S w->zE S Γ w->m'.p S w'):St we Se (ms.set i m') Γ w':=by grind [St.growM,yL.get]
theorem St.conv{i:K}{m m':MF}(h:St we Se ms Γ w)(hi:ms[i]? =Z m)(a:m'.blk=m.blk)(n:∀S:K->Prop,m.p S w->m'.p S w):St we Se (ms.set i m') Γ w:=by grind [St.grow,yw.refl]
def St.nilO{α:Type}{e:zV α}{E:wT}(h:St we Se ms Γ w):St we Se (mO e E (.slice wL 0 0) []::ms) Γ w:=by
 have⟨h1,b,c,S,d,f,g,i,j⟩:=h;refine⟨h1,b,⟨(λ_ a=>by cases a),c⟩,S,d,f,?_,⟨⟨[],World.ownsRow_nil _ _ _ _,O⟩,i⟩,j⟩;intro m hm k a;obtain rfl|hm:=xaa.1 hm
 ·cases a
 ·exact g m hm k a
end
section
variable{P:jp}{N:Nd}{we:wP}{Se:wr->Prop}{ms:xS MF}{Γ:xS FF}{Q:Qs}{env:y8}{ops:ul uS}{rest:xS uS}
 {d:ww Z9}{ty yt t:wT}{pos:String}{aft:ul Edge}{g:ww (wr×wW)}{x y:v6}
def rf{α:Type}{e:sS α}{z:α}{ag:wW}{c bytes:K}{a:wN}{E:wT}(f:QF P E ag c bytes a)
 (h:∀(S:K->Prop) (w:wP),e.p S z a.cells.toList w):OG P ⟨d,.alloc E,ty,pos,aft,g⟩ env we Se ms Γ (λb=>(.pointer<|some ⟨b,0,wL⟩)) (λb=>(mB e E b z::ms)) (λ_=>Γ) (λ_=>XS):=by
 intro w i;refine uB.of_value (w':=w.alloc (.cells a.cells E)) (v:=.pointer<|some ⟨w.heap.size,0,wL⟩) ?_ ⟨_,O,wS,i.fresh (KD.alloc w _) O gT λS _ _=>⟨_,WF w _,h _ _⟩⟩;simp only[jP,Instr.alloc,xay,kD f,xag,newVar,aC,WD,xaG]
def zh1{α:Type}{e:zV α}{z:α}{v:wN}{E:wT}(f:ev env x=v)
 (h:∀(S:K->Prop) (w:wP),zE S Γ w->(fV e z v).p S w):OG P ⟨d,.box E x,ty,pos,aft,g⟩ env we Se ms Γ (λb=>(.pointer<|some ⟨b,0,wL⟩)) (λb=>(mB e.c E b z::ms)) (λ_=>Γ) (λ_=>XS):=by
 intro w i;refine uB.of_value (w':=w.alloc (.cells v.cells E)) (v:=.pointer<|some ⟨w.heap.size,0,wL⟩) ?_ ⟨_,O,wS,i.fresh (KD.alloc w _) O gT λS l a=>⟨_,WF w _,?_⟩⟩
 ·simp only[jP,f,Instr.box,newVar,aC,xay,WD,xag,xaG]
 ·exact e.keep (e.sub (uY<|h S w a) λk m j=>⟨j,W⟩) (KD.alloc w _).to
def cM(w:wP)(t ty e:wT)(i:fD)(z:wN)(size bytes:K)(l:P.underlying t=Z (.slice e))(hi:P.info? e=Z i)(s:i.zero=Z z)
 (A:i.size=size) (hn:i.bytes=bytes) (hv:z.cells.size=size) (C:0<size)
 (v:wN) (n:K) (xs:xS wN) (hd:w.ownsRow 0 e size v n xs)
 (a:JP) (m c:K) (b:xS wN) (hl:X b=m*size) (r:∀j u,b[j]? =Z u->w.cell? (a.add j)=Z u) (h1:∀u∈b,u.oneCell'=wF)
 (hp:n+m<=WP) (hc:(n+m)*bytes<=140737488355328):
 ∃p w',(xch #[t,t] ty #[v,.slice (Z a) m c]).run P w=.ok p w'/\w'.ownsRow 0 e size p (n+m) (xs++b)/\w.grownBy w' v.ownBlock/\
  ∀k,p.ownBlock=Z k->v.ownBlock=Z k\/w.heap.size<=k:=by
 have⟨p,w',h,D,E,_⟩:=run_append_own (P:=P) w 0 t ty e i z size bytes l hi s A hn hv C v n xs hd a m c b hl r h1 hp hc<|xai _;refine⟨p,w',h,D,E,?_⟩;subst A hn;have R:n+m<=9223372036854775807:=by simp only[WP]at hp;lia
 rcases hd.2 with⟨rfl,rfl⟩|⟨g,cap,q,rfl,S,F,T,U,G,V⟩
 ·by_cases H:m=0
  ·subst H;have:=f (w:=w) t ty e i l hi a c;rw[this]at h;cases h;exact λk o=>by cases o
  ·have:=run_append_nil (P:=P) w t ty e i z l hi s a m c b hl r W W (by have J:=hc;simp only[xaJ]at J;lia);rw[this]at h;cases h;exact λk o=> .inr<|by cases o;exact Nm _
 ·by_cases B:n+m<=cap
  ·have L:n*i.size+X b<=q.size:=by rw[hl,G,<-xbb];exact xan _ B
   have:=run_append_room (P:=P) w t ty e i l hi g n cap q F a m c b hl r h1 B L;rw[this]at h;cases h;exact λk o=> .inl o
  ·have M:∀j u,xs[j]? =Z u->w.cell? ((⟨g,0,wL⟩:JP).add j)=Z u:=hd.cells (g:=g) O;have:=run_append_grow (P:=P) w t ty e i z l hi s ⟨g,0,wL⟩ n cap xs hd.1 M a m c b hl r W W<|bi W hc;rw[this]at h;cases h;exact λk o=> .inr<|by cases o;exact Nm _
 where
 f {w:wP} (t ty e:wT) (i:fD) (l:P.underlying t=Z (.slice e)) (hi:P.info? e=Z i) (a:JP) (c:K):
  (xch #[t,t] ty #[.slice wL 0 0,.slice (Z a) 0 c]).run P w=.ok (.slice wL 0 0) w:=by
  simp[xch,kw l,WN,WS,hi,xfN,xez,loadCells,loadCellsFrom]
def SlQ{α:Type}(e:zV α)(S:K->Prop)(xs:xS α)(v:wN)(w:wP):Prop:=
 ∃a cap,v=.slice a (X xs) cap/\X xs<=cap/\cap<=WP/\(xs=[]\/∃b o cs,a=Z ⟨b,o,wL⟩/\At w b o cs/\yJ e S xs cs w)
def SlQ.of{α:Type}{e:zV α}{S:K->Prop}{xs:xS α}{v:wN}{w:wP}(h:(fV (eS e) xs v).p S w):SlQ e S xs v w:=by
 have⟨c,cap,h1,f,i,a⟩:=xK.1 h;refine⟨c,cap,h1,f,i,?_⟩;obtain a|⟨b,o,cs,j,k,a3,a4⟩:=a
 ·exact .inl a
 ·exact .inr ⟨b,o,cs,j,a3,a4⟩
def af{α:Type}{e:zV α}{z:wT}{xs ys:xS α}{v u:wN}{bytes:K}{zero:wN}(i:K)(D:P.underlying t=Z (.slice z))(hK:QF P z e.agg e.n bytes zero)(hD:zero.cells.size=e.n)(hn:0<e.n)
 (L:ms[i]? =Z (mO e z v xs)) (hx:ev env x=v) (hy:ev env y=u) (hf:∀(S:K->Prop) (w:wP),yL S ms w->zE S Γ w->SlQ e S ys u w)
 (h4:X xs+X ys<=9223372036854775807) (hb:(X xs+X ys)*bytes<=140737488355328):OG P ⟨d,.call ⟨.builtin .append,#[x,y],#[t,t]⟩,ty,pos,aft,g⟩ env we Se ms Γ (λq=>q) (λq=>(ms.set i<|mO e z q<|xs++ys)) (λ_=>Γ) (λ_=>XS):=by
 intro w hE;have⟨S,⟨cs,E,he⟩,h7,h8⟩:=hE.muts L;have⟨ao,cap,M,h1,h2,h3⟩:=hf S w h7 h8;have⟨T,hi,i1,i2,i3⟩:=hK.info;have hL:∀q w',(xch #[t,t] ty #[v,u]).run P w=.ok q w'->(jP (ev env) ⟨d,.call ⟨.builtin .append,#[x,y],#[t,t]⟩,ty,pos,aft,g⟩).run P w=.ok (.value q) w':=λq w' B=>by simp only[jP,Wr,V1,Ul,xdX,xcb,xeC,hx,hy,xay,B,xaG,xag]
 have hz:X xs+X ys<=WP:=by unfold WP;lia
 have F:∃q w',(xch #[t,t] ty #[v,u]).run P w=.ok q w'/\w.grownBy w' v.ownBlock/\(∀k,q.ownBlock=Z k->v.ownBlock=Z k\/w.heap.size<=k)/\
  ∀S:K->Prop,(∀k,S k->v.ownBlock≠Z k)->yL S ms w->zE S Γ w->(mO e z q<|xs++ys).p S w':=by
  have G:∀(w':wP) (q:wN) (m:xS wN),w.grownBy w' v.ownBlock->w'.ownsRow 0 z e.n q (X xs+X ys) (cs++m)->
   (∀S:K->Prop,yL S ms w->zE S Γ w->yJ e S ys m w)->∀S:K->Prop,(∀k,S k->v.ownBlock≠Z k)->yL S ms w->zE S Γ w->(mO e z q<|xs++ys).p S w':=by
   intro w' q m s hd hB S hS hM U;have⟨C,hF,hN⟩:=yL.get hM L;have hO:C=cs:=by
    rcases E.2 with⟨rfl,h0⟩|⟨g,cap,V,rfl,_,hP,_,_,_,hQ⟩
    ·have a1:=E.1;have a2:=hF.1;rw[h0]at a1 a2;have c1:cs=[]:=xbm (by simpa using a1);have c2:C=[]:=xbm (by simpa using a2);rw[c1,c2]
    ·rcases hF.2 with⟨hc,_⟩|⟨g',a0,a3,hR,_,hA,_,_,_,hG⟩
     ·cases hc
     ·cases hR;rw[hP]at hA;cases hA;rw[<-hQ,<-hG]
   subst hO;have kk:yw S w w':=⟨s.os,s.tape,s.output,s.size,λk Y hs=>s.block k Y<|λe=>hS k hs e.symm⟩;exact⟨C++m,by rw[xap];exact hd,(hN.keep kk).append<|(hB S hM U).keep kk⟩
  have A:ys=[]->(ao=wL->u=.slice wL 0 cap)->∃q w',(xch #[t,t] ty #[v,u]).run P w=.ok q w'/\w.grownBy w' v.ownBlock/\(∀k,q.ownBlock=Z k->v.ownBlock=Z k\/w.heap.size<=k)/\
   ∀S:K->Prop,(∀k,S k->v.ownBlock≠Z k)->yL S ms w->zE S Γ w->(mO e z q<|xs++ys).p S w':=by
   intro R hC
   subst R
   cases ao with
   |none=>
    have hT:=hC O
    have B:=f (w:=w) t ty z T e.n D hi v (X xs) cs E cap
    rw[<-hT]at B
    exact⟨v,w,B,⟨O,O,O,Nm _,λ_ _ _=>O⟩,λk Y=> .inl Y,λS _ hp _=>by simpa using yL.get hp L⟩
   |some a=>
    have⟨q,w',B,hd,s,hl⟩:=cM w t ty z T zero e.n bytes D hi i3 i1 i2 hD hn v (X xs) cs E a 0 cap [] gT gT gT (by simpa using hz)<|by simpa using hb
    exact⟨q,w',by rw[M];exact B,s,hl,G w' q [] s (by simpa using hd)<|λ_ _ _=>O⟩
  obtain R|⟨b,o,m,rfl,ha,H⟩:=h3
  ·exact A R<|λh=>by rw[M,h,R];rfl
  ·have⟨q,w',B,hd,s,hl⟩:=cM w t ty z T zero e.n bytes D hi i3 i1 i2 hD hn v (X xs) cs E ⟨b,o,wL⟩ (X ys) cap m H.len
    (λj c hc=>by rw[qE];exact ha.2 j c hc) H.one hz hb
   refine⟨q,w',by rw[M];exact B,s,hl,G w' q m s hd λS2 hU hV=> ?_⟩;have⟨a5,a4,hH,_,_,hW⟩:=hf S2 w hU hV;rw[M]at hH;cases hH;obtain rfl|⟨b2,o2,r,hX,hY,hv⟩:=hW
   ·have:=H.len;rw[xbH,xcu]at this;rw[xbm this];rfl
   ·cases hX;have:r=m:=by
     apply xcH;intro j;by_cases J:j<X m
     ·have e1:=ha.2 j m[j] (by simp[J]);have hI:j<X r:=by rw[hv.len,<-H.len];exact J
      have e2:=hY.2 j r[j] (by simp[hI]);rw[e1]at e2;rw[xah J,xah hI,e2]
     ·have h5:X r=X m:=by rw[hv.len,<-H.len]
      rw[xbD (l:=m) W,xbD (l:=r) W]
    rw[<-this];exact hv
 have⟨q,w',B,s,hl,hp⟩:=F;exact uB.of_value (hL q w' B) ⟨q,O,wS,hE.growM L ⟨s.os,s.tape,s.output,s.size,λj J hs=>s.block j J<|λe=>hs e.symm⟩ hl hp⟩
 where
 f {w:wP} (t ty e:wT) (i:fD) (size:K) (D:P.underlying t=Z (.slice e)) (hi:P.info? e=Z i)
  (v:wN) (n:K) (xs:xS wN) (hJ:w.ownsRow 0 e size v n xs) (c:K):
  (xch #[t,t] ty #[v,.slice wL 0 c]).run P w=.ok v w:=by
  rcases hJ.2 with⟨rfl,rfl⟩|⟨g,cap,V,rfl,_,_,hZ,_⟩
  ·simp[xch,kw D,WN,WS,hi,xfN,xez]
  ·simp[xch,kw D,WN,WS,hi,xfN,xez,hZ,storeCells]
def RY{α:Type}{e:zV α}{b:wT}{xs ys:xS α}{v u:wN}{bytes:K}{a:wN}(i:K)(f:yW ops env ⟨d,.call ⟨.builtin .append,#[x,y],#[t,t]⟩,ty,pos,aft,g⟩=wF)(hd:q8 N.n d=wF)
 (h:P.underlying t=Z (.slice b)) (j:QF P b e.agg e.n bytes a) (hc:a.cells.size=e.n) (hn:0<e.n)
 (l:ms[i]? =Z (mO e b v xs)) (m:ev env x=v) (o:ev env y=u) (p:∀(S:K->Prop) (w:wP),yL S ms w->zE S Γ w->SlQ e S ys u w)
 (q:X xs+X ys<=9223372036854775807) (r:(X xs+X ys)*bytes<=140737488355328)
 (k:∀c,TL P N we Se (ms.set i<|mO e b c<|xs++ys) Γ ops rest Q<|put env d c):TL P N we Se ms Γ ops (⟨d,.call ⟨.builtin .append,#[x,y],#[t,t]⟩,ty,pos,aft,g⟩::rest) Q env:=
 zkF f hd (af i h j hc hn l m o p q r) λc _=>k c
def zci{α:Type}{e:zV α}{b:wT}{xs ys:xS α}{v u:wN}{bytes:K}{a:wN}(i:K)(f:yW ops env ⟨d,.call ⟨.builtin .append,#[x,y],#[t,t]⟩,ty,pos,aft,g⟩=wF)(hd:q8 N.n d=wF)
 (j:P.underlying t=Z (.slice b)) (l:QF P b e.agg e.n bytes a) (hc:a.cells.size=e.n) (hn:0<e.n)
 (m:ms[i]? =Z (mO e b v xs)) (o:ev env x=v) (q:ev env y=u) (r:∀(S:K->Prop) (w:wP),zE S Γ w->(fV (eS e) ys u).p S w)
 (s:X xs+X ys<=9223372036854775807) (z:(X xs+X ys)*bytes<=140737488355328)
 (k:∀c,TL P N we Se (ms.set i<|mO e b c<|xs++ys) Γ ops rest Q<|put env d c):TL P N we Se ms Γ ops (⟨d,.call ⟨.builtin .append,#[x,y],#[t,t]⟩,ty,pos,aft,g⟩::rest) Q env:=
 RY i f hd j l hc hn m o q (λS w _ h=>SlQ.of<|r S w h) s z k
def zm3{α:Type}{e:zV α}{E b:K}{z:α}{w:wP}(i:K)(h:St we Se ms Γ w)(a:ms[i]? =Z (mB e.c E b z)):
 St we Se (ms.eraseIdx i) (fP e z (.pointer<|some ⟨b,0,wL⟩)::Γ) w:=
 h.freeze a λS k f j hp=>zl8 f (j b O) hp
def MC{α:Type}{e:zV α}{E:K}{v:wN}{xs:xS α}{w:wP}(i:K)(h:St we Se ms Γ w)(a:ms[i]? =Z (mO e E v xs)):
 St we Se (ms.eraseIdx i) (fV (eS e) xs v::Γ) w:=
 h.freeze a λS f b c hp=>o5 b c hp
def zix{α:Type}{e:zV α}{E b:K}{xs:xS α}{n:K}{w:wP}(i:K)(h:St we Se ms Γ w)(c:ms[i]? =Z (mR e E b xs))(hn:n=X xs)(j:X xs<=9223372036854775807):
 St we Se (ms.set i<|mO e E (.slice (Z ⟨b,0,wL⟩) n n) xs) Γ w:=
 h.conv c O λS ⟨cs,f,a⟩=>by
  subst hn;have hl:cs.size=X xs*e.n:=by have:=yJ.len (e:=e) a;simpa using this
  refine⟨cs.toList,⟨by simpa using hl,.inr ⟨b,X xs,cs,O,xai _,f,Nm _,by unfold WP;lia,hl,?_⟩⟩,a⟩;rw[xaQ<|by simp[hl]]
end
end
section
def Yb{a b:K}(h:a≠b):E a b=I:=by grind [E,xcP]
def B3{a b:K}(h:b<=a):xdh a b=I:=by
 cases c:xdh a b
 ·rfl
 ·have:=xbJ c;omega
structure Pr where
 p:(K->Prop)->wN->wP->Prop
 keepS:∀{S:K->Prop}{v:wN}{w w':wP},p S v w->yw S w w'->p S v w'
 sub:∀{S S':K->Prop}{v:wN}{w:wP},p S v w->(∀k,k<w.heap.size->S k->S' k)->p S' v w
def Pr.keep(a:Pr){S:K->Prop}{v:wN}{w w':wP}(h:a.p S v w)(x:KD w w'):a.p S v w':=a.keepS h x.to
def prV(v:wN):Pr where
 p _ u _:=u=v
 keepS h _:=h
 sub h _:=h
def fT(d:V Z9)(a:Pr)(K:N (Z9×Pr)):N (Z9×Pr):=match d with
 |some d=>(d,a)::K
 |none=>K
def Yx(K:N (Z9×Pr))(env0 env:y8)(S:wr->Prop)(w:wP)(t:Z9):Prop:=match K.find? (λx=>E x.1 t)with
 |some x=>x.2.p S (env t) w
 |none=>env t=env0 t
def VR(K:N (Z9×Pr))(env0 env:y8)(S:wr->Prop)(w:wP):N Z9->Prop
 |[]=>XS
 |t::ts=>Yx K env0 env S w t/\VR K env0 env S w ts
def Ob(P:jp)(a:ul uS)(ms:N MF)(Γ:N FF)(env0:y8)(K:N (Z9×Pr))(o:uS)(b:Pr):Prop:=
 ∀(S:wr->Prop) (w:wP) (env:y8),(∀k,w.heap.size<=k->S k)->yL S ms w->zE S Γ w->VR K env0 env S w (o.looksAt a)->
  (yW a env o=wF->uB P o env w (λv w'=>KD w w'/\b.p S v w'))/\(yW a env o=I->b.p S uP w)
def Obs(P:jp)(a:ul uS)(ms:N MF)(Γ:N FF)(env0:y8):N (uS×Pr)->N (Z9×Pr)->Prop
 |[],_=>XS
 |(o,b)::r,K=>Ob P a ms Γ env0 K o b/\Obs P a ms Γ env0 r (fT o.dst b K)
def OQ:N (uS×Pr)->N (Z9×Pr)->N (Z9×Pr)
 |[],K=>K
 |(o,a)::r,K=>OQ r<|fT o.dst a K
def VQ(o:uS)(i:K):wW:=o.after.toList.any λe=>xcv .any e && E e.on i
def zZ(l:N uS)(i:K):uS:=l.getD i default
def SX(l:N uS)(m:K):wW:=xfY m (X l) && (xaH (X l)).all λj=>
 ((zZ l j).after.toList.all λe=> !xcv .any e||xdh e.on j) &&
 (bif xdh j m then(xaH m).all λi=>E i j||(match(zZ l i).dst with
  |some t=> !((xbA l.toArray<|zZ l j).contains t||(zZ l j).dst==Z t)||(bif xdh i j then VQ (zZ l j) i else VQ (zZ l i) j)
  |none=>wF)
  else(xaH j).all λk=>VQ (zZ l j) k)
def qj(l:N uS):K->K->K->wW
 |0,i,k=>VQ (zZ l i) k
 |f+1,i,k=>VQ (zZ l i) k||(zZ l i).after.toList.any λe=>xcv .any e && qj l f e.on k
def Wv(l:N uS)(m:K):wW:=xfY m (X l) && (xaH (X l)).all λj=>
 ((zZ l j).after.toList.all λe=> !xcv .any e||xdh e.on j) &&
 (bif xdh j m then(xaH m).all λi=>E i j||(match(zZ l i).dst with
  |some t=> !((xbA l.toArray<|zZ l j).contains t||(zZ l j).dst==Z t)||(bif xdh i j then VQ (zZ l j) i else VQ (zZ l i) j)
  |none=>wF)
  else bif E j m then(xaH m).all λk=>qj l 16 m k else VQ (zZ l j) (j-1))
section
variable{l:xS uS}{m:wr}
def ua{o:uS}{i:K}(h:VQ o i=wF):∃e∈o.after,xcv .any e=wF/\e.on=i:=by
 unfold VQ at h;rw[xeR]at h;have⟨e,b,a⟩:=h;rw[xab]at a;exact⟨e,xdo.1 b,a.1,xcP a.2⟩
def R2(h:SX l m=wF):m<=X l/\
 (∀j,j<X l->∀e∈(zZ l j).after,xcv .any e=wF->e.on<j)/\
 (∀j i t,j<m->i<m->i≠j->(zZ l i).dst=Z t->(t∈xbA l.toArray (zZ l j)\/(zZ l j).dst=Z t)->(i<j->VQ (zZ l j) i=wF)/\(j<i->VQ (zZ l i) j=wF))/\
 (∀j,m<=j->j<X l->∀k,k<j->VQ (zZ l j) k=wF):=by
 unfold SX at h;rw[xab,xaN]at h;have⟨h0,h1⟩:=h;have d:=xbJ h0;refine⟨d,λj a e f g=> ?_,λj i t a hi hc n hl=> ?_,λj hd a k o=> ?_⟩
 ·have:=h1 j<|xbe.2 a;rw[xab,xaN]at this;have:=this.1 e<|xdo.2 f;rw[g]at this;simpa using this
 ·have:=h1 j (xbe.2 gC);rw[xab]at this;have b:=this.2;rw[show xdh j m=wF by simpa using a,Z0,xaN]at b;have c:=b i<|xbe.2 hi;rw[Yb hc,xet,n]at c;have p:((xbA l.toArray<|zZ l j).contains t||(zZ l j).dst==Z t)=wF:=by
   rw[xdQ];obtain hl|hl:=hl
   ·left;simpa using hl
   ·right;simp[hl]
  simp only[p,xcW,xet]at c;constructor
  ·intro q;rwa[show xdh i j=wF by simpa using q,Z0]at c
  ·intro r;rwa[B3 gC,Z2]at c
 ·have:=h1 j<|xbe.2 a;rw[xab]at this;have b:=this.2;rw[B3 hd,Z2,xaN]at b;exact b k<|xbe.2 o
def uQ(h:Wv l m=wF):m<=X l/\
 (∀j,j<X l->∀e∈(zZ l j).after,xcv .any e=wF->e.on<j)/\
 (∀j i t,j<m->i<m->i≠j->(zZ l i).dst=Z t->(t∈xbA l.toArray (zZ l j)\/(zZ l j).dst=Z t)->(i<j->VQ (zZ l j) i=wF)/\(j<i->VQ (zZ l i) j=wF))/\
 (∀j,m<j->j<X l->VQ (zZ l j) (j-1)=wF)/\(m<X l->∀k,k<m->qj l 16 m k=wF):=by
 unfold Wv at h;rw[xab,xaN]at h;have⟨h0,h1⟩:=h;have d:=xbJ h0;refine⟨d,λj b e f g=> ?_,λj i t b hi hc n hl=> ?_,λj r b=> ?_,λo k p=> ?_⟩
 ·have:=h1 j<|xbe.2 b;rw[xab,xaN]at this;have:=this.1 e<|xdo.2 f;rw[g]at this;simpa using this
 ·have:=h1 j (xbe.2 gC);rw[xab]at this;have a:=this.2;rw[show xdh j m=wF by simpa using b,Z0,xaN]at a;have c:=a i<|xbe.2 hi;rw[Yb hc,xet,n]at c;have q:((xbA l.toArray<|zZ l j).contains t||(zZ l j).dst==Z t)=wF:=by
   rw[xdQ];obtain hl|hl:=hl
   ·left;simpa using hl
   ·right;simp[hl]
  simp only[q,xcW,xet]at c;constructor
  ·intro hd;rwa[show xdh i j=wF by simpa using hd,Z0]at c
  ·intro s;rwa[B3 gC,Z2]at c
 ·have:=h1 j<|xbe.2 b;rw[xab]at this;have a:=this.2;rw[B3 gC,Z2,Yb gC,Z2]at a;exact a
 ·have:=h1 m<|xbe.2 o;rw[xab]at this;have a:=this.2;rw[B3<|Nm m,Z2,Nat.beq_refl,Z0,xaN]at a;exact a k<|xbe.2 p
def aj{a:ul wW}(g:∀i,i<X l->a.getD i I=wF->∀e∈(zZ l i).after,xcv .any e=wF->a.getD e.on I=wF)
 (h1:∀j,j<X l->∀e∈(zZ l j).after,xcv .any e=wF->e.on<j):∀(f i k:K),i<X l->(∀e∈(zZ l i).after,xcv .any e=wF->a.getD e.on I=wF)->qj l f i k=wF->a.getD k I=wF
 |0,i,k,hi,hd,h=>by
  have⟨e,b,d,hc⟩:=ua h;have:=hd e b d;rwa[hc]at this
 |f+1,i,k,hi,hd,h=>by
  unfold qj at h;rw[xdQ]at h;obtain h|h:=h
  ·have⟨e,b,d,hc⟩:=ua h;have:=hd e b d;rwa[hc]at this
  ·rw[xeR]at h;have⟨e,b,c⟩:=h;rw[xab]at c;have n:=xdo.1 b;have o:=h1 i hi e n c.1;exact aj g h1 f e.on k gC (g e.on gC<|hd e n c.1) c.2
def ZR{i:K}(h:i<X l):l.toArray[i]? =Z (zZ l i):=by
 simp[zZ,h]
end
def cvt{α:Type}{e:zV α}{x y:α}{v:wN}{S:K->Prop}{w:wP}(h:x=y)(hp:(fV e x v).p S w):(fV e y v).p S w:=h▸hp
def zet{α:Type}{e:zV α}{S:K->Prop}{w:wP}:(fV (eS e) [] (.slice wL 0 0)).p S w:=xK.2 SlP.nil
def getD_some{α:Type}{l:N α}{k:K}(z:α)(h:k<X l):l[k]? =Z (l.getD k z):=by grind [xah]
def zlw{α:Type}{e:zV α}{xs:N α}{v:wN}{S:K->Prop}{w:wP}(h:(fV (eS e) xs v).p S w):X xs<=9223372036854775807:=by
 have⟨b,cap,hv,hc,a,_⟩:=xK.1 h;exact xal hc a
def yJ.all_u{S:K->Prop}{w:wP}:∀{xs:N K}{cs:N wN},yJ eU S xs cs w->∀x∈xs,x<18446744073709551616
 |[],_,_=>λx hx=>wR hx IR
 |y::ys,_,⟨c,r,_,hc,a⟩=>λx hx=>by
  obtain rfl|hx:=xaa.1 hx
  ·exact hc.2
  ·exact yJ.all_u a x hx
def zm(l:N K):Prop:=∀x∈l,x<18446744073709551616
def zeI{xs:N K}{v:wN}{S:K->Prop}{w:wP}(h:(fV (eS eU) xs v).p S w):zm xs:=by
 have⟨e,cap,hv,hc,f,a⟩:=xK.1 h;obtain rfl|⟨b,o,cs,_,_,_,c⟩:=a
 ·exact λx d=>wR d IR
 ·exact c.all_u
def n5(t:Z9):∀(r:N (uS×Pr)) (K:N (Z9×Pr)),
 (∃(i:wr) (x:uS×Pr),r[i]? =Z x/\x.1.dst=Z t/\(∀(a:wr) (b:uS×Pr),r[a]? =Z b->b.1.dst=Z t->a<=i)/\(OQ r K).find? (λy=>E y.1 t)=Z (t,x.2))\/
 ((∀(i:wr) (x:uS×Pr),r[i]? =Z x->x.1.dst≠Z t)/\(OQ r K).find? (λy=>E y.1 t)=K.find? (λy=>E y.1 t))
 |[],K=> .inr ⟨λi x h=>by simp at h,O⟩
 |(o,c)::r,K=>by
  rcases n5 t r (fT o.dst c K)with⟨i,x,h1,f,k,l⟩|⟨h1,f⟩
  ·refine .inl ⟨i+1,x,by simpa using h1,f,λa b g hd=> ?_,l⟩
   cases a with
   |zero=>omega
   |succ a=>have:=k a b (by simpa using g) hd;omega
  ·by_cases hd:o.dst=Z t
   ·refine .inl ⟨0,(o,c),O,hd,λa b g hc=> ?_,?_⟩
    ·cases a with
     |zero=>omega
     |succ a=>exact wR hc<|h1 a b<|by simpa using g
    ·show(OQ r<|fT o.dst c K).find? _=_;rw[f,hd];simp[fT]
   ·refine .inr ⟨λi x j=> ?_,?_⟩
    ·cases i with
     |zero=>simp at j;subst j;exact hd
     |succ i=>exact h1 i x<|by simpa using j
    ·show(OQ r<|fT o.dst c K).find? _=_;rw[f]
     cases m:o.dst with
     |none=>rfl
     |some d=>
      have:E d t=I:=Yb λe=>hd (by rw[m,e]);simp[fT,this]
def zbO{P:jp}{a:ul uS}{ms:N MF}{Γ:N FF}{env0:y8}:∀(r:N (uS×Pr)) (K:N (Z9×Pr)) (i:wr) (x:uS×Pr),Obs P a ms Γ env0 r K->r[i]? =Z x->Ob P a ms Γ env0 (OQ (r.take i) K) x.1 x.2
 |[],_,_,_,_,h=>by simp at h
 |(o,c)::r,K,0,x,h,b=>by simp at b;subst b;exact h.1
 |(o,c)::r,K,i+1,x,h,b=>by
  have:=zbO r (fT o.dst c K) i x h.2 (by simpa using b);simpa[OQ]using this
def Ux{K:N (Z9×Pr)}{env0 env:y8}{S:wr->Prop}{w:wP}:∀(ts:N Z9),(∀t∈ts,Yx K env0 env S w t)->VR K env0 env S w ts
 |[],_=>trivial
 |t::ts,h=>⟨h t<|FS,Ux ts λu a=>h u<|UV _ a⟩
def sn{a:ul wW}{i:K}(hi:i<a.size)(c:a.getD i wF=I):∀(r:N K),
 (r.countP λk=> !(a.setIfInBounds i wF).getD k wF)<=(r.countP λk=> !a.getD k wF)/\
 (i∈r->(r.countP λk=> !(a.setIfInBounds i wF).getD k wF)<(r.countP λk=> !a.getD k wF))
 |[]=>⟨Nm _,λh=>by cases h⟩
 |k::r=>by
  have d:=sn hi c r;rw[List.countP_cons,List.countP_cons];by_cases b:i=k
  ·subst b;have e1:(a.setIfInBounds i wF).getD i wF=wF:=by simp[hi]
   simp only[e1,c,xcW,xeQ,uL,xak,ut];exact⟨gC,λ_=>by omega⟩
  ·rw[Wt wF b];refine⟨gC,λh=> ?_⟩;have:=d.2<|(xaa.1 h).resolve_left b;omega
section
variable{P:jp}{N:Nd}{we:wP}{Se:wr->Prop}{ms:xS MF}{Γ:xS FF}{Q:Qs}{env0:y8}{l:xS uS}{m:wr}
def zoB(hc:SX l m=wF){q:bI->Jp->wP->Prop}:∀(c j:K) (b:ul wW) (a:Jp) (w:wP),m<=j->j<=X l->X l-j<=c->b.size=X l->
 (∀k,k<X l->b.getD k wF=decide (k<j))->Ww N.F 0 P l.toArray q (l.drop j) a w->UP N.F 0 P .any l.toArray q c b a w:=by
 have⟨h0,h1,S,B⟩:=R2 hc;have hd:∀(j:K) (b:ul wW),m<=j->j<=X l->b.size=X l->(∀k,k<X l->b.getD k wF=decide (k<j))->∀i,i∈xea .any l.toArray b->i=j:=by
  intro j b hn hp p d i hi;have⟨s,o,n,hv⟩:=mem_ready.1 hi;have t:i<X l:=by simpa using(xbi.1 n).1
  rw[d i t]at s;have T:j<=i:=by simpa using s
  rw[ZR t]at n;cases n;obtain g|hge:=xbW j i
  ·have⟨e,u,v,C⟩:=ua<|B i gC t j g;have hl:=hv e u v;rw[C]at hl;have x:=d j gC;have D:j<b.size:=gC
   simp only[xbl,xcI D,xeS]at hl x;rw[hl]at x;simp at x
  ·omega
 intro c
 induction c with
 |zero=>
  intro j b a w hn hp E p d f;have:j=X l:=gC
  subst this;refine⟨?_,by simpa[Ww]using f⟩
  cases G:xea .any l.toArray b with
  |nil=>rfl
  |cons i r=>
   have hi:i∈xea .any l.toArray b:=by rw[G];exact FS
   have H:=hd _ b hn hp p d i hi;have⟨s,o,n,_⟩:=mem_ready.1 hi;have:=(xbi.1 n).1;simp at this;omega
 |succ c J=>
  intro j b a w hn hp E p d f;rcases xbW j (X l) with g|hge
  ·have z:j∈xea .any l.toArray b:=by
    refine mem_ready.2 ⟨by rw[d j g];simp,zZ l j,ZR g,λe u v=> ?_⟩;have:=h1 j g e u v;have hl:=d e.on gC;have L:e.on<b.size:=gC
    simp only[xbl,xcI L,xeS]at hl⊢;rw[hl];simpa using this
   refine⟨λh=>(by rw[h]at z;cases z),λi hi=> ?_⟩;have:=hd j b hn hp p d i hi;subst this;rw[xbT g]at f;have M:l[i]=zZ l i:=by simp[zZ,g]
   unfold Ww at f;unfold wpOpIn;rw[ZR g];simp only[<-M];have next:∀a w,Ww N.F 0 P l.toArray q (l.drop<|i+1) a w->UP N.F 0 P .any l.toArray q c (b.setIfInBounds i true) a w:=λa w h=>
    J (i+1) _ a w gC gC gC (by simpa using p) (λk R=>by
     by_cases A:i=k
     ·subst A;have:i<b.size:=gC
      simp[this]
     ·rw[Wt wF A,d k R];simp only[decide_eq_decide];omega) h
   split
   ·rename_i y;rw[iq y]at f;exact Oper.wpIn_mono next f
   ·rename_i y;rw[ir y]at f;exact⟨f.1,next _ _ f.2⟩
  ·have:j=X l:=gC
   subst this;refine⟨λ_=>by simpa[Ww]using f,λi hi=> ?_⟩;have H:=hd _ b hn hp p d i hi;have⟨s,o,n,_⟩:=mem_ready.1 hi;have:=(xbi.1 n).1;simp at this;omega
def fE(hc:Wv l m=wF){q:bI->Jp->wP->Prop}:∀(c j:K) (b:ul wW) (a:Jp) (w:wP),m<=j->j<=X l->X l-j<=c->b.size=X l->
 (∀k,k<X l->b.getD k wF=decide (k<j))->Ww N.F 0 P l.toArray q (l.drop j) a w->UP N.F 0 P .any l.toArray q c b a w:=by
 have⟨h0,h1,S,B,_⟩:=uQ hc;have hd:∀(j:K) (b:ul wW),m<=j->j<=X l->b.size=X l->(∀k,k<X l->b.getD k wF=decide (k<j))->∀i,i∈xea .any l.toArray b->i=j:=by
  intro j b hn hp p d i hi;have⟨s,o,g,hv⟩:=mem_ready.1 hi;have t:i<X l:=by simpa using(xbi.1 g).1
  rw[d i t]at s;have T:j<=i:=by simpa using s
  rw[ZR t]at g;cases g;obtain n|hge:=xbW j i
  ·have⟨e,u,v,C⟩:=ua<|B i gC t;have hl:=hv e u v;rw[C]at hl;have x:=d (i-1) gC;have D:i-1<b.size:=gC
   simp only[xbl,xcI D,xeS]at hl x;rw[hl]at x;simp at x;omega
  ·omega
 intro c
 induction c with
 |zero=>
  intro j b a w hn hp E p d f;have:j=X l:=gC
  subst this;refine⟨?_,by simpa[Ww]using f⟩
  cases G:xea .any l.toArray b with
  |nil=>rfl
  |cons i r=>
   have hi:i∈xea .any l.toArray b:=by rw[G];exact FS
   have H:=hd _ b hn hp p d i hi;have⟨s,o,g,_⟩:=mem_ready.1 hi;have:=(xbi.1 g).1;simp at this;omega
 |succ c J=>
  intro j b a w hn hp E p d f;rcases xbW j (X l) with n|hge
  ·have z:j∈xea .any l.toArray b:=by
    refine mem_ready.2 ⟨by rw[d j n];simp,zZ l j,ZR n,λe u v=> ?_⟩;have:=h1 j n e u v;have hl:=d e.on gC;have L:e.on<b.size:=gC
    simp only[xbl,xcI L,xeS]at hl⊢;rw[hl];simpa using this
   refine⟨λh=>(by rw[h]at z;cases z),λi hi=> ?_⟩;have:=hd j b hn hp p d i hi;subst this;rw[xbT n]at f;have M:l[i]=zZ l i:=by simp[zZ,n]
   unfold Ww at f;unfold wpOpIn;rw[ZR n];simp only[<-M];have next:∀a w,Ww N.F 0 P l.toArray q (l.drop<|i+1) a w->UP N.F 0 P .any l.toArray q c (b.setIfInBounds i true) a w:=λa w h=>
    J (i+1) _ a w gC gC gC (by simpa using p) (λk R=>by
     by_cases A:i=k
     ·subst A;have:i<b.size:=gC
      simp[this]
     ·rw[Wt wF A,d k R];simp only[decide_eq_decide];omega) h
   split
   ·rename_i y;rw[iq y]at f;exact Oper.wpIn_mono next f
   ·rename_i y;rw[ir y]at f;exact⟨f.1,next _ _ f.2⟩
  ·have:j=X l:=gC
   subst this;refine⟨λ_=>by simpa[Ww]using f,λi hi=> ?_⟩;have H:=hd _ b hn hp p d i hi;have⟨s,o,g,_⟩:=mem_ready.1 hi;have:=(xbi.1 g).1;simp at this;omega
def R5{id:K}(m:K)(d:xS Pr)(ts:xS Z9)(hm:P.follows .mixedOrders=wF)(hc:Wv l m=wF)(hl:X d=m)(hd:(l.all λo=>q8 N.n o.dst)=wF)
 (hY:Obs P l.toArray ms Γ env0 ((l.take m).zip d) [])
 (a3:∀(S:K->Prop) (w:wP) (env:y8),(∀k,w.heap.size<=k->S k)->zE S Γ w->VR (OQ ((l.take m).zip d) []) env0 env S w ts->
  ∃s live,zE S s w/\Kc env live/\∀rest,TL P N we Se ms s l.toArray (l.drop m) Q<|L live rest):
 T P N we Se ms Γ (.region id l.toArray wF) Q env0:=by
 intro w0 b4 a0 b5 b6 c0;have⟨h0,h1,h2,h3,c1⟩:=uQ hc;have⟨s1,s2,s3,S,s4,s5,s6,s7,s8⟩:=b4;have mk:∀w' Δ,KD w0 w'->zE S Δ w'->St we Se ms Δ w':=λw' Δ x c2=>
  ⟨s1.trans x,s2,s3,S,s4,λk f=>s5 k<|xal x.size f,s6,yL.keep x.to (λm hm i hi=>x.block i (yL.lt s7 m hm i hi) wS) s7,c2⟩
 have e1:X ((l.take m).zip d)=m:=by simp;omega
 have hD:∀i,i<m->∃u,((l.take m).zip d)[i]? =Z (zZ l i,u):=λi hi=>by
  have hn:i<X l:=gC
  refine⟨d[i]'gC,?_⟩;rw[List.getElem?_zip_eq_some];refine⟨?_,gT⟩;rw[xcA,iq hi];simp[zZ,hn]
 have hp:∀i x,((l.take m).zip d)[i]? =Z x->i<m/\x.1=zZ l i:=λi x hx=>by
  have hi:i<m:=by have:=(xaq.1 hx).1;omega
  have⟨u,h⟩:=hD i hi;rw[h]at hx;cases hx;exact⟨hi,O⟩
 refine wpIn_region_any hm ?_
 have c3:∀(g:K) (b:ul wW) (a:Jp) (w:wP),(xaH (X l)).countP (λk=> !b.getD k wF)<=g->b.size=X l->a.tmps.size=N.n->a.defers=N.ds->KD w0 w->
  (∀i,m<=i->i<X l->b.getD i wF=I)->
  (∀i,i<X l->b.getD i I=wF->∀e∈(zZ l i).after,xcv .any e=wF->b.getD e.on I=wF)->
  (∀t,((∀i,i<m->b.getD i I=wF->(zZ l i).dst≠Z t)/\yK a t=env0 t)\/
   ∃i u,i<m/\b.getD i I=wF/\((l.take m).zip d)[i]? =Z (zZ l i,u)/\(zZ l i).dst=Z t/\(∀R,R<m->b.getD R I=wF->(zZ l R).dst=Z t->R<=i)/\u.p S (yK a t) w)->
  UP N.F 0 P .any l.toArray (zcO N Q) g b a w:=by
  intro g
  induction g with
  |zero=>
   intro b a w hN hM b1 b2 x hq hA U;have J:∀k,k<X l->b.getD k wF=wF:=λk f=>by
    have hz:(xaH (X l)).countP (λk=> !b.getD k wF)=0:=gC
    rw[List.countP_eq_zero]at hz;have:=hz k<|xbe.2 f;simpa using this
   have e2:m=X l:=by
    rcases xbW m (X l) with V|hge
    ·have h5:=hq m (Nm _) V;rw[J m V]at h5;cases h5
    ·omega
   have hJ:=zE.keep x.to s8;have⟨s,live,f1,f2,f3⟩:=a3 S w (yK a) (λk f=>s5 k<|xal x.size f) hJ (Ux ts λt _=>hK hD hp U (λi hi=>by
    have B:=J i gC;rwa[c (by omega:i<b.size)]at B))
   refine fE hc 0 m b a w (Nm _) h0 gC hM (λk f=>by rw[J k f];simp;omega) ?_;exact f3 (yK a) w (mk w s x f1) a b1 b2 (UZ f2).symm
  |succ g ih=>
   intro b a w hN hM b1 b2 x hq hA U;by_cases J:∀k,k<m->b.getD k wF=wF
   ·have hJ:=zE.keep x.to s8;have⟨s,live,f1,f2,f3⟩:=a3 S w (yK a) (λk f=>s5 k<|xal x.size f) hJ (Ux ts λt _=>hK hD hp U (λi hi=>by
     have B:=J i hi;rwa[c (by omega:i<b.size)]at B))
    have hZ:∀k,k<X l->b.getD k wF=decide (k<m):=λk f=>by
     by_cases hR:k<m
     ·rw[J k hR];simp[hR]
     ·rw[hq k gC f];simp[hR]
    refine fE hc (g+1) m b a w (Nm _) h0 (xal ?_ hN) hM hZ ?_
    ·rw[show(xaH (X l)).countP (λk=> !b.getD k wF)=(xaH (X l)).countP (λk=> !decide (k<m))from List.countP_congr λk f=>by rw[hZ k<|xbe.1 f]];exact count_ge m (X l)
    ·exact f3 (yK a) w (mk w s x f1) a b1 b2 (UZ f2).symm
   ·have h4:∃k,k<m/\b.getD k wF=I:=by
     by_cases hh:∃k,k<m/\b.getD k wF=I
     ·exact hh
     ·exact wR (λk f=>by
       cases r:b.getD k wF
       ·exact wR ⟨k,f,r⟩ hh
       ·rfl) J
    refine⟨λhr=> ?_,λi hi=> ?_⟩
    ·exfalso;have⟨k,f,hS,h9⟩:=first_un h4;have:k∈xea .any l.toArray b:=mem_ready.2 ⟨hS,zZ l k,ZR gC,λe M r=>by
      have h5:=h1 k gC e M r;have B:=h9 e.on h5;rwa[c (by omega:e.on<b.size)]at B⟩
     rw[hr]at this;cases this
    ·have⟨hu,o,ho,hB⟩:=mem_ready.1 hi;have hn:i<X l:=by simpa using(xbi.1 ho).1
     rw[ZR hn]at ho;cases ho;have hT:i<m:=by
      obtain h|h:=xbW i m
      ·exact h
      ·exfalso;by_cases h':m=i
       ·subst h';have⟨k,f,hS⟩:=h4;have B:=aj hA h1 16 m k hn hB<|c1 hn k f;rw[<-c (by omega:k<b.size),hS]at B;cases B
       ·have⟨e,M,r,hL⟩:=ua<|h3 i gC hn;have B:=hB e M r;rw[hL,<-c (by omega:i-1<b.size),hq (i-1) gC gC]at B;cases B
     have⟨u,a4⟩:=hD i hT;have c4:=zbO _ [] i _ hY a4;have hC:∀t,(t∈xbA l.toArray (zZ l i)\/(zZ l i).dst=Z t)->∀j,j<m->(zZ l j).dst=Z t->j≠i->(b.getD j I=wF↔j<i):=by
      intro t ht j C hG hU;have h7:=h2 i j t hT C hU hG ht;constructor
      ·intro z;obtain h|h:=xbW j i
       ·exact h
       ·exfalso;have⟨e,M,r,hL⟩:=ua (h7.2 gC);have h8:=hA j gC z e M r;rw[hL,<-c (by omega:i<b.size),hu]at h8;cases h8
      ·intro D;have⟨e,M,r,hL⟩:=ua<|h7.1 D;have h8:=hB e M r;rwa[hL]at h8
     have a5:b.getD i I=I:=by rw[<-c (by omega:i<b.size)];exact hu
     have hV:VR (OQ (((l.take m).zip d).take i) []) env0 (yK a) S w (xbA l.toArray<|zZ l i):=by
      refine Ux _ λt ht=> ?_;have tk:∀(j:K) (y:uS×Pr),(((l.take m).zip d).take i)[j]? =Z y->j<i/\((l.take m).zip d)[j]? =Z y:=λj y Y=>by
       rw[xcA]at Y;split at Y
       ·exact⟨by assumption,Y⟩
       ·cases Y
      unfold Yx;rcases n5 t (((l.take m).zip d).take i) []with⟨j,y,g1,A,g3,g4⟩|⟨g1,A⟩
      ·rw[g4];have⟨D,Y⟩:=tk j y g1;have⟨hF,hW⟩:=hp j y Y;rw[hW]at A;have z:=(hC t (.inl ht) j hF A gC).2 D;rcases U t with⟨f1,_⟩|⟨k,q,k1,k2,G,H,k5,k6⟩
       ·exact wR A<|f1 j hF z
       ·have hX:k=j:=by
         have a1:=k5 j hF z A;have hH:k<i:=(hC t (.inl ht) k k1 H<|λe=>by subst e;rw[a5]at k2;cases k2).1 k2;have a2:=g3 k (zZ l k,q) (by rw[xcA,iq hH];exact G) H;omega
        subst hX;rw[G]at Y;cases Y;exact k6
      ·rw[A];simp only[List.find?_nil];rcases U t with⟨_,f2⟩|⟨k,q,k1,k2,G,H,k5,k6⟩
       ·exact f2
       ·exfalso;have hH:k<i:=(hC t (.inl ht) k k1 H<|λe=>by subst e;rw[a5]at k2;cases k2).1 k2;exact g1 k (zZ l k,q) (by rw[xcA,iq hH];exact G) H
     have hJ:=zE.keep x.to s8;have hO:=c4 S w (yK a) (λk f=>s5 k<|xal x.size f) (yL.keep x.to (λm hm i hi=>x.block i (yL.lt s7 m hm i hi) wS) s7) hJ hV;have c5:q8 N.n (zZ l i).dst=wF:=by
      rw[xaN]at hd;refine hd _ ?_;have:zZ l i=l[i]:=by simp[zZ,hn]
      rw[this];exact xbE _
     have next:∀v w',KD w w'->u.p S v w'->UP N.F 0 P .any l.toArray (zcO N Q) g (b.setIfInBounds i true) (a.put (zZ l i).dst v) w':=by
      intro v w' x' hv;have hP:i<b.size:=gC
      refine ih _ _ w' ?_ (by simpa using hM) (by rw[K5];exact b1) (by rw[XT];exact b2) (x.trans x') (λk c6 f=> ?_) (λk f a9 e M r=> ?_)<|λt=> ?_
      ·have:=(sn hP hu<|xaH (X l)).2<|xbe.2 hn;omega
      ·rw[Wt wF gC];exact hq k c6 f
      ·by_cases hH:i=k
       ·subst hH;exact KW<|hB e M r
       ·rw[Wt I hH]at a9;exact KW<|hA k f a9 e M r
      ·rw[XF<|by rw[b1];exact Ui c5];by_cases hI:(zZ l i).dst=Z t
       ·right;refine⟨i,u,hT,by simp[hP],a4,hI,λj C z hG=> ?_,?_⟩
        ·by_cases D:i=j
         ·omega
         ·rw[Wt I D]at z;have:=(hC t (.inr hI) j C hG gC).1 z;omega
        ·rw[hI];simpa[put,L]using hv
       ·have b0:put (yK a) (zZ l i).dst v t=yK a t:=by
         cases c7:(zZ l i).dst with
         |none=>rfl
         |some dd=>
          have hU:¬t=dd:=λe=>hI (by rw[c7,e]);have:E t dd=I:=Yb hU;simp[put,L,this]
        rw[b0];rcases U t with⟨f1,f2⟩|⟨k,q,k1,k2,G,H,k5,k6⟩
        ·refine .inl ⟨λj C z=> ?_,f2⟩;by_cases D:i=j
         ·subst D;exact hI
         ·rw[Wt I D]at z;exact f1 j C z
        ·refine .inr ⟨k,q,k1,KW k2,G,H,λj C z hG=> ?_,q.keep k6 x'⟩;by_cases D:i=j
         ·subst D;exact wR hG hI
         ·rw[Wt I D]at z;exact k5 j C z hG
     unfold wpOpIn;rw[ZR hn];simp only[QH];cases hQ:yW l.toArray (yK a) (zZ l i)
     ·simp only[xak,ut];exact⟨λ_ _=>wS,next undef w (yw.refl _ _) (hO.2 hQ)⟩
     ·simp only[uL];exact(hO.1 hQ).wp λv w' b3=>next v w' b3.1 b3.2
 refine c3 l.toArray.size _ a0 _ ?_ gT b5 b6 (KD.drawn w0 _) (λi h' hi=>by simp[hi]) (λi hi V=> ?_)<|λt=> .inl ⟨λi hi V=> ?_,by rw[c0]⟩
 ·exact xal (List.countP_le_length) gT
 ·have:i<(xeA l.toArray.size I).size:=by simpa using hi
  rw[<-c this]at V;simp[hi]at V
 ·have hn:i<X l:=gC
  have:i<(xeA l.toArray.size I).size:=by simpa using hn
  rw[<-c this]at V;simp[hn]at V
 where
 c {b:ul wW}{i:K} (h:i<b.size):b.getD i wF=b.getD i I:=by simp[xbl,xcI h]
 first_un {m:K}{b:ul wW} (h:∃k,k<m/\b.getD k wF=I):∃k,k<m/\b.getD k wF=I/\∀j,j<k->b.getD j wF=wF:=by
  have⟨k,f,hu⟩:=h
  induction k using xdz with
  |_ k ih=>
   by_cases hh:∃j,j<k/\b.getD j wF=I
   ·have⟨j,C,e0⟩:=hh;exact ih j C gC e0
   ·refine⟨k,f,hu,λj C=> ?_⟩;cases r:b.getD j wF
    ·exact wR ⟨j,C,r⟩ hh
    ·rfl
 count_ge (m:K):∀n,n-m<=(xaH n).countP (λk=> !decide (k<m))
  |0=>by simp
  |n+1=>by
   have:=count_ge m n;rw[xdl,List.countP_append];by_cases h:n<m
   ·omega
   ·simp[h];omega
 hK {d:xS Pr}{b:ul wW}{a:Jp}{w:wP}{S:K->Prop}{l:xS uS}{m:K}{env0:y8} (hD:∀i,i<m->∃u,((l.take m).zip d)[i]? =Z (zZ l i,u)) (hp:∀i x,((l.take m).zip d)[i]? =Z x->i<m/\x.1=zZ l i)
  (U:∀t,((∀i,i<m->b.getD i I=wF->(zZ l i).dst≠Z t)/\yK a t=env0 t)\/
   ∃i u,i<m/\b.getD i I=wF/\((l.take m).zip d)[i]? =Z (zZ l i,u)/\(zZ l i).dst=Z t/\(∀R,R<m->b.getD R I=wF->(zZ l R).dst=Z t->R<=i)/\u.p S (yK a t) w)
  (J:∀i,i<m->b.getD i I=wF) {t:Z9}:Yx (OQ ((l.take m).zip d) []) env0 (yK a) S w t:=by
  unfold Yx;rcases n5 t ((l.take m).zip d) []with⟨j,y,g1,A,g3,g4⟩|⟨g1,A⟩
  ·rw[g4];have⟨hF,hW⟩:=hp j y g1;rw[hW]at A;rcases U t with⟨f1,_⟩|⟨k,q,k1,k2,G,H,k5,k6⟩
   ·exact wR A<|f1 j hF<|J j hF
   ·have hX:k=j:=by
     have a1:=k5 j hF (J j hF) A;have a2:=g3 k (zZ l k,q) G H;omega
    subst hX;rw[G]at g1;cases g1;exact k6
  ·rw[A];simp only[List.find?_nil];rcases U t with⟨_,f2⟩|⟨k,q,k1,k2,G,H,k5,k6⟩
   ·exact f2
   ·exact wR H<|g1 k (zZ l k,q) G
end
end
section
def zcD{we:wP}{Se:K->Prop}{ms a:N MF}{Γ b:N FF}{R:wP->Prop}(c:∀w,St we Se ms Γ w->St we Se a b w)(k:∀w,St we Se a b w->R w):∀w,St we Se ms Γ w->R w:=
 λw h=>k w<|c w h
def zh4{a b:K}:xcs.wrap ((a:J)+(b:J))=(((a+b)%18446744073709551616:K):J):=by
 rw[<-xeD];exact ziH _
def zif{a b:K}:xcs.wrap ((a:J)*(b:J))=(((a*b)%18446744073709551616:K):J):=by
 rw[<-xfS];exact ziH _
def zjP{a b:K}(h:b<=18446744073709551616):xcs.wrap ((a:J)-(b:J))=(((a+18446744073709551616-b)%18446744073709551616:K):J):=by
 rw[B9];lia
def zmV{a:K}(h:a<18446744073709551616):xcs.wrap (0-(a:J))=(((18446744073709551616-a)%18446744073709551616:K):J):=by
 rw[B9];lia
def zc7{a b:K}(h:a<18446744073709551616):xcs.wrap ((a:J).tdiv (b:J))=((a/b:K):J):=by
 rw[show(a:J).tdiv (b:J)=((a/b:K):J)from(Int.ofNat_tdiv a b).symm];exact mG<|xaK (xcp _ _) h
def znl{a b:K}:(a:J).tmod (b:J)=((a%b:K):J):=(Int.ofNat_tmod a b).symm
section
variable{P:jp}{N:Nd}{we:wP}{Se:wr->Prop}{ms:xS MF}{Γ:xS FF}{Q:Qs}{env:y8}{ops:ul uS}{rest:xS uS}
 {d:ww Z9}{ty yt t:wT}{pos:String}{aft:ul Edge}{g:ww (wr×wW)}{x y:v6}
def P3{a n cap:K}{b:V JP}(c:P.underlying t=Z (.slice a))(e:ev env x=.slice b n cap)(w:wP):
 (jP (ev env) ⟨d,.call ⟨.builtin .len,#[x],#[t]⟩,ty,pos,aft,g⟩).run P w=.ok (.value (.int .i64 (n:J))) w:=by
 simp[jP,Wr,V1,Ul,e,Builtin.len_,eM,kw c]
def H3{α:Type}{e:zV α}{E c:K}{v:wN}{xs:xS α}(i:K)(f:ms[i]? =Z (mO e E v xs))(a:P.underlying t=Z (.slice c))(b:ev env x=v):
 MJ P ⟨d,.call ⟨.builtin .len,#[x],#[t]⟩,ty,pos,aft,g⟩ env ms Γ (λ_:Z4=> .int .i64 (X xs:J)) (λ_=>[]) (λ_=>X xs<=9223372036854775807):=by
 intro w S _ h _;have⟨cs,h1,l⟩:=yL.get h f;rcases h1.2 with⟨rfl,h0⟩|⟨m,cap,j,rfl,hc,n,hd,k,_⟩
 ·refine uB.of_value (P3 a b w) ⟨(),by rw[h0],W,yw.refl _ _,wS⟩
 ·exact uB.of_value (P3 a b w) ⟨(),O,by unfold WP at k;lia,yw.refl _ _,wS⟩
end
end
section
def zjt{P:jp}{f:Z5}{fn:QR}{e:ul wN->Sem wN}{args:ul wN}{w:wP}{v:wN}(a:P.funcs[f]? =Z fn)(hn:(fn.name== "runtime.NumGoroutine")=I)(b:fn.body=wL)
 (h1:(xeE fn).isNone=wF) (c:xeW fn=Z e) (d:(e args).run P w=.ok v w):(eX f args).run P w=.ok (.value v) w:=by simp_all [eX]
section
variable{P:jp}{env:y8}{d:ww Z9}{ty:wT}{pos:String}{aft:ul Edge}{g:ww (wr×wW)}
def zkP{f:Z5}{fn:QR}{e:ul wN->Sem wN}{asv:N v6}{ts:ul wT}{args:N wN}{v:wN}(a:P.funcs[f]? =Z fn)(hn:(fn.name== "runtime.NumGoroutine")=I)(b:fn.body=wL)
 (h1:(xeE fn).isNone=wF) (c:xeW fn=Z e) (h:asv.map (ev env)=args) (i:∀w,(e args.toArray).run P w=.ok v w) (w:wP):
 (jP (ev env) ⟨d,.call ⟨.value (.func f),asv.toArray,ts⟩,ty,pos,aft,g⟩).run P w=.ok (.value v) w:=by
 have:=zjt (P:=P) (args:=args.toArray) (w:=w) a hn b h1 c<|i w;simp[jP,Wr,ev,xdJ,V1,h,this]
def zfu(s:String)(x y c:wN):∃z:String,xbO s #[x,y,c]=(do
 let c:=(<-bv c).toNat
 if c>1 then unsupported (.noEntry z)
 pure ((<-bv x).toNat,(<-bv y).toNat,c)):=⟨_,O⟩
def Gu(s:String){x y c:K}(hc:c<=1)(w:wP):(xbO s #[.int .u64 (x:J),.int .u64 (y:J),.int .u64 (c:J)]).run P w=.ok (x,y,c) w:=by
 have:¬c>1:=W
 have⟨z,a⟩:=zfu s (.int .u64 (x:J)) (.int .u64 (y:J)) (.int .u64 (c:J));rw[a];simp only[bv,V4,xay,Sem.run_map,xaG,xag,xbc,this,ut]
def zcU{x y c:K}(hc:c<=1)(w:wP):((do
 let(x,y,c)<-xbO "Add64" #[.int .u64 (x:J),.int .u64 (y:J),.int .u64 (c:J)]
 pure (xbU ((x+y+c)%xaY)<|(x+y+c)/xaY):Sem wN)).run P w=
  .ok (.tuple #[.int .u64 (((x+y+c)%18446744073709551616:K):J),.int .u64 (((x+y+c)/18446744073709551616:K):J)]) w:=by
 have e:xaY=18446744073709551616:=gS
 rw[xay,Gu _ hc];simp only[xaG,xag,xbU,e];rfl
def zb5{x y c:K}(hc:c<=1)(w:wP):((do
 let(x,y,b)<-xbO "Sub64" #[.int .u64 (x:J),.int .u64 (y:J),.int .u64 (c:J)]
 pure (xbU ((x+xaY-y-b)%xaY) (if x<y+b then 1 else 0)):Sem wN)).run P w=
  .ok (.tuple #[.int .u64 (((x+18446744073709551616-y-c)%18446744073709551616:K):J),.int .u64 ((if x<y+c then 1 else 0:K):J)]) w:=by
 have e:xaY=18446744073709551616:=gS
 rw[xay,Gu _ hc];simp only[xaG,xag,xbU,e];split<;>rfl
def zju{f:Z5}{fn:QR}{a b c:v6}{ts:ul wT}{x y z:K}(e:P.funcs[f]? =Z fn)(hn:(fn.name== "runtime.NumGoroutine")=I)(h:fn.body=wL)
 (h1:(xeE fn).isNone=wF) (i:xeW fn=Z (λargs=>do
  let(x,y,c)<-xbO "Add64" args
  pure (xbU ((x+y+c)%xaY)<|(x+y+c)/xaY)))
 (j:ev env a=.int .u64 (x:J)) (hc:ev env b=.int .u64 (y:J)) (hd:ev env c=.int .u64 (z:J)) (k:z<=1) (w:wP):
 (jP (ev env) ⟨d,.call ⟨.value (.func f),#[a,b,c],ts⟩,ty,pos,aft,g⟩).run P w=
  .ok (.value (.tuple #[.int .u64 (((x+y+z)%18446744073709551616:K):J),.int .u64 (((x+y+z)/18446744073709551616:K):J)])) w:=
 zkP (asv:=[a,b,c]) e hn h h1 i (args:=[.int .u64 (x:J),.int .u64 (y:J),.int .u64 (z:J)]) (by simp[j,hc,hd]) (λw=>zcU k w) w
def zjT{f:Z5}{fn:QR}{a b c:v6}{ts:ul wT}{x y z:K}(e:P.funcs[f]? =Z fn)(hn:(fn.name== "runtime.NumGoroutine")=I)(h:fn.body=wL)
 (h1:(xeE fn).isNone=wF) (i:xeW fn=Z (λargs=>do
  let(x,y,b)<-xbO "Sub64" args
  pure (xbU ((x+xaY-y-b)%xaY) (if x<y+b then 1 else 0))))
 (j:ev env a=.int .u64 (x:J)) (hc:ev env b=.int .u64 (y:J)) (hd:ev env c=.int .u64 (z:J)) (k:z<=1) (w:wP):
 (jP (ev env) ⟨d,.call ⟨.value (.func f),#[a,b,c],ts⟩,ty,pos,aft,g⟩).run P w=
  .ok (.value (.tuple #[.int .u64 (((x+18446744073709551616-y-z)%18446744073709551616:K):J),.int .u64 ((if x<y+z then 1 else 0:K):J)])) w:=
 zkP (asv:=[a,b,c]) e hn h h1 i (args:=[.int .u64 (x:J),.int .u64 (y:J),.int .u64 (z:J)]) (by simp[j,hc,hd]) (λw=>zb5 k w) w
end
def zh6(P:jp)(w:wP)(env:y8):WL->wN->Prop
 |.tmp t,v=>env t=v
 |.cell a t,v=>∃b,env a=.pointer (Z b)/\(dL t b).run P w=.ok v w
def bK(P:jp)(w:wP)(env:y8):N WL->N wN->Prop
 |[],[]=>XS
 |r::rs,v::vs=>zh6 P w env r v/\bK P w env rs vs
 |_,_=>V6
def PC(P:jp)(w:wP)(a:Jp):∀(rs:N WL) (vs:N wN),bK P w (yK a) rs vs->(rs.mapM<|Cl a.tmps).run P w=Result.ok vs w
 |[],[],_=>by simp
 |r::rs,v::vs,⟨h1,c⟩=>by
  have d:=PC P w a rs vs c;have h:(Cl a.tmps r).run P w=.ok v w:=by
   cases r with
   |tmp t=>simp only[zh6]at h1;simp[Cl,<-h1,yK]
   |cell x t=>
    have⟨e,e1,f⟩:=h1;have b:a.tmps.getD x uP=.pointer (Z e):=e1;simp only[Cl,b,xay,asAddr,xaG,xag,f]
  rw[List.mapM_cons,xay,h];simp only[xag,xay,d,xaG]
 |[],_::_,h=>h.elim
 |_::_,[],h=>h.elim
def Xv:N wN->wN
 |[v]=>v
 |vs=> .tuple vs.toArray
def WY{P:jp}{fn:QR}{rs:N WL}{vs:N wN}{w:wP}{a:Jp}(b:fn.results=rs.toArray)(h:bK P w (yK a) rs vs):(V9 fn a.tmps).run P w=.ok (Xv vs) w:=by
 have e:V9 fn a.tmps=(do let vs<-fn.results.mapM (Cl a.tmps);pure (if h:vs.size=1 then vs[0]else .tuple vs)):=by unfold V9;congr 1
 rw[e,b,Array.mapM_eq_mapM_toList];have:=PC P w a rs vs h;simp only[xay,Sem.run_map,this,xag]
 match vs with
 |[]=>simp[Xv]
 |[v]=>simp[Xv]
 |v::u::r=>simp[Xv]
section
variable{P:jp}{we:wP}{Se:wr->Prop}{ms:xS MF}{Γ:xS FF}{env:y8}{U:Type}{val:U->wN}{facts:U->xS FF}{ok:U->Prop}{fn:QR}
def ze5{α:Type}{e:zV α}{E b:K}{z:α}{w:wP}{bytes:K}{d:wN}{R:Prop}{a:Z9}(i:K)(g:St we Se ms Γ w)(h:ms[i]? =Z (mB e.c E b z))(j:env a=.pointer (Z ⟨b,0,wL⟩))
 (l:QF P E e.agg e.n bytes d) (k:∀v,St we Se ms (fV e z v::Γ) w->zh6 P w env (.cell a E) v->R):R:=by
 have⟨h1,m,o,S,p,q,r,f,s⟩:=g;have⟨cs,t,hp⟩:=yL.get f h;have hc:At w b 0 cs.toList:=At.row t;exact k (e.val cs.toList) ⟨h1,m,o,S,p,q,r,f,⟨cs.toList,O,hp⟩,s⟩ ⟨_,j,cX l hp hc⟩
end
def FnG{U:Type}(P:jp)(f:Z5)(args:ul wN)(ms:N MF)(Γ:N FF)(b:U->wN)(own:U->N MF)(a:U->N FF)(ok:U->Prop):Prop:=
 ∀we Se F G w,St we Se (ms++F) (Γ++G) w->Us P f args w (λe w'=>∃u,e=.returned (b u)/\ok u/\St we Se (own u++F) (a u++G) w')
section
variable{P:jp}{N:Nd}{we:wP}{Se:wr->Prop}{ms F:xS MF}{Γ G:xS FF}{Q:Qs}{env:y8}{U:Type}{val:U->wN}{own:U->xS MF}{facts:U->xS FF}{ok:U->Prop}{fn:QR}
 {ops:ul uS}{rest:xS uS}{d:ww Z9}{ty:wT}{pos:String}{aft:ul Edge}{g:ww (wr×wW)}
def FnG.plain{f:Z5}{args:ul wN}(h:FnG P f args [] Γ val (λ_=>[]) facts ok):Fn P f args Γ val facts ok:=by
 intro w Se b a;refine(h w Se [] [] w<|St.nil (by simpa using a) b).mono ?_;rintro e w' ⟨u,h1,c,i⟩;have:=i.out (Δ:=facts u) (λS w h=>by simpa using h);exact⟨u,h1,c,this.1,this.2⟩
def FnG.frozen{f:Z5}{args:ul wN}{Δ:U->xS FF}(h:FnG P f args [] Γ val own facts ok)
 (b:∀(u:U) (w':wP) (we:wP) (Se:K->Prop),St we Se (own u) (facts u) w'->St we Se [] (Δ u) w'):Fn P f args Γ val Δ ok:=by
 intro w Se c a;refine(h w Se [] [] w<|St.nil (by simpa using a) c).mono ?_;rintro e w' ⟨u,h1,i,j⟩;have:=(b u w' w Se<|by simpa using j).out (Δ:=Δ u)<|λS w h=>h;exact⟨u,h1,i,this.1,this.2⟩
end
def MZ:∀{ms:N MF}{i:K}{m:MF},VU ms->ms[i]? =Z m->VU (m::ms.eraseIdx i):=by
 intro ms i m h e;refine⟨λk b m' a hc=> ?_,?_⟩
 ·rw[List.mem_eraseIdx_iff_getElem?]at a;have⟨j,c,d⟩:=a;exact eo h e k b j m' c d hc
 ·exact JH i h
def St.front{we:wP}{Se:K->Prop}{ms:N MF}{Γ:N FF}{w:wP}{m:MF}(i:K)(h:St we Se ms Γ w)(hi:ms[i]? =Z m):St we Se (m::ms.eraseIdx i) Γ w:=by
 have⟨h1,c,d,S,e,f,a,b,g⟩:=h;refine⟨h1,c,MZ d hi,S,e,f,λm' hm'=> ?_,⟨yL.get b hi,aF i b⟩,g⟩;obtain rfl|hm':=xaa.1 hm'
 ·exact a _<|xbq hi
 ·exact a m'<|xdH hm'
def zhn{m:K}(h:m<=9223372036854775807):xdi.wrap (m:J)=(m:J):=w64 W
def N8{P:jp}{w:wP}(t s ty e:wT)(i:fD)(z:wN)(size bytes:K){ik:Xs}(h:P.underlying t=Z (.slice e))(hl:P.underlying s=Z (.int ik))(hi:P.info? e=Z i)(x:i.zero=Z z)
 (Q:i.size=size) (R:i.bytes=bytes) (E:z.cells.size=size) (S:∀u∈z.cells.toList,u.oneCell'=wF) (y:0<size)
 (v:wN) (n:K) (xs:N wN) (f:w.ownsRow 0 e size v n xs) (m:K)
 (F:n+m<=WP) (hd:(n+m)*bytes<=140737488355328):
 ∃A w',(xch #[t,s] ty #[v,.int .i64 (m:J)]).run P w=.ok A w'/\w'.ownsRow 0 e size A (n+m) (xs++(xbr z.cells m).toList)/\w.grownBy w' v.ownBlock/\
  ∀k,A.ownBlock=Z k->v.ownBlock=Z k\/w.heap.size<=k:=by
 subst Q;subst R;have hK:n+m<=9223372036854775807:=by simp only[WP]at F;lia
 have G:(xbr z.cells m).toList.length=m*i.size:=by simp[aP,E]
 have p:X (xs++(xbr z.cells m).toList)=(n+m)*i.size:=by rw[xap,f.1,G,xbb]
 have B:=zhn (m:=m) W;have hn:¬((m:J)<0):=W
 have T:¬((m:J)*(i.bytes:J)>281474976710656):=by
  have h1:m*i.bytes<=(n+m)*i.bytes:=xan _ W;have:((m*i.bytes:K):J)<=140737488355328:=W
  rw[xfS]at this;lia
 have hp:¬(281474976710656<(m:J)*(i.bytes:J)):=T
 have a:∀(old:K),old<n+m->∀(l:V K),
  (w.drew.alloc (.cells (xs.toArray++xbr z.cells m++xbr z.cells (U8 w (n+m) old e-(n+m))) e)).ownsRow 0 e i.size
   (.slice (Z ⟨w.heap.size,0,wL⟩) (n+m)<|U8 w (n+m) old e) (n+m) (xs++(xbr z.cells m).toList)/\
  w.grownBy (w.drew.alloc (.cells (xs.toArray++xbr z.cells m++xbr z.cells (U8 w (n+m) old e-(n+m))) e)) l:=by
  intro old ho l;have U:=grownCap_ge w (n+m) old e;have C:U8 w (n+m) old e<=WP:=grownCap_le_maxLen w (n+m) old e F;refine⟨⟨p,.inr ⟨w.heap.size,_,_,O,xai _,WF w.drew _,U,C,?_,?_⟩⟩,⟨O,O,O,gT,λk b _=>RowKit.Below.heap_alloc w.drew _ k b⟩⟩
  ·simp only[Array.size_append,List.size_toArray,aP,E,f.1,<-xbb];congr 1;lia
  ·simp only[Array.toList_append,xaf];rw[<-xaf,<-p];exact List.take_left
 rcases f.2 with⟨rfl,rfl⟩|⟨g,cap,c,rfl,Y,H,hQ,C,hR,hE⟩
 ·have hx:xs=[]:=xbm (by simpa using f.1);subst hx;by_cases d:m=0
  ·subst d;refine⟨.slice wL 0 0,w,?_,by simpa[xbr]using World.ownsRow_nil w 0 e i.size,⟨O,O,O,Nm _,λ_ _ _=>O⟩,λk b=> .inl b⟩;have e0:xdi.wrap 0=0:=gS
   simp[xch,kw h,kw hl,WN,WS,hi,bv,V4,e0]
  ·have D:¬(9223372036854775807<(m:J)):=W
   have q:=bi (old:=0) (need:=0+m) (bytes:=i.bytes) W hd;have hv:¬(281474976710656<Builtin.nextslicecap m 0*i.bytes):=by simp only[xaJ]at q;lia
   have o:=a 0 W<|Value.ownBlock (.slice wL 0 0);refine⟨_,_,?_,o.1,o.2,λk b=> .inr<|by cases b;exact Nm _⟩;simp[xch,kw h,kw hl,WN,WS,am,hi,x,bv,V4,B,d,D,hv,hn,hp,Question.forced,run_firstCells_none,aC,U8];intro h0;have:0<m*i.size:=Nat.mul_pos W y;lia
 ·by_cases hc:n+m<=cap
  ·have q:n*i.size+(xbr z.cells m).toList.length<=c.size:=by rw[G,hR,<-xbb];exact xan _ hc
   have h1:∀u∈(xbr z.cells m).toList,u.oneCell'=wF:=by
    intro u L;simp only[xbr,Array.toList_map,xat]at L;obtain⟨j,hj,rfl⟩:=L;have M:j%z.cells.size<z.cells.size:=xaS _ W;rw[getElem!_pos z.cells _ M];exact S _<|xdo.2<|Array.getElem_mem M
   have r:=US P g (n*i.size) e (xbr z.cells m).toList 0 c w H (by simpa using q) h1;simp only[xbK]at r
   have hr:(xch #[t,s] ty #[.slice (Z ⟨g,0,wL⟩) n cap,.int .i64 (m:J)]).run P w=
    .ok (.slice (Z ⟨g,0,wL⟩) (n+m) cap) (w.setRow g (c.toList.take (n*i.size)++(xbr z.cells m).toList++c.toList.drop (n*i.size+(xbr z.cells m).toList.length)).toArray):=by
    by_cases d:m=0
    ·subst d;have e0:xdi.wrap 0=0:=gS
     have ez:(xbr z.cells 0)= #[]:=by simp[xbr]
     rw[ez]at r⊢;simp[xch,kw h,kw hl,WN,WS,hi,bv,V4,e0,hQ,Addr.add_lit,r]
    ·have hS:¬(m=0\/i.size=0):=W
     simp[xch,kw h,kw hl,WN,WS,am,hi,x,bv,V4,B,hn,hp,hc,hS,Addr.add_lit,r];intro h0;have:0<m*i.size:=Nat.mul_pos W y;lia
   refine⟨_,_,hr,⟨p,.inr ⟨g,cap,_,O,Y,cS w g c _ e _ H,hc,C,?_,?_⟩⟩,⟨O,O,O,gT,λk _ b=>setRow_other w g k _<|λe=>b<|by simp[Value.ownBlock,e]⟩,λk b=> .inl b⟩
   ·simp only[List.size_toArray,xap,xax,xbR,xeU]at q⊢;lia
   ·rw[hE,<-p];exact List.take_left
  ·have hF:∀j u,xs[j]? =Z u->w.cell? ((⟨g,0,wL⟩:JP).add j)=Z u:=f.cells (g:=g) O;have D:¬(9223372036854775807<(n:J)+(m:J)):=W
   have hv:¬(281474976710656<Builtin.nextslicecap (n+m) cap*i.bytes):=by have:=bi (old:=cap) (need:=n+m) (bytes:=i.bytes) W hd;lia
   have o:=a cap W<|Value.ownBlock (.slice (Z ⟨g,0,wL⟩) n cap);have hT:=run_firstCells_some (P:=P) w.drew i.size n ⟨g,0,wL⟩ n cap xs f.1 (by simpa using hF);refine⟨_,_,?_,o.1,o.2,λk b=> .inr<|by cases b;exact Nm _⟩;by_cases d:m=0
   ·subst d;lia
   simp[xch,kw h,kw hl,WN,WS,am,hi,x,bv,V4,B,d,D,hv,hn,hp,hc,Question.forced,hT,aC,U8];intro h0;have:0<m*i.size:=Nat.mul_pos W y;lia
def mj{z:ul wN}{m:K}(a:z.size=m)(n:K):(xbr z n).toList=(xac n z.toList).flatten:=by
 apply xcH;intro j;by_cases b:j<n*m
 ·have c:0<m:=xco λh0=>by rw[h0]at b;simp at b
  have e1:(xbr z n).toList[j]? =z.toList[j%m]? :=by
   have:=xaS j c;simp[xbr,a,b,this]
  rw[e1,zaA.flatten_get z.toList m (by simpa using a) c n j b];all_goals exact 0
 ·rw[xbD (by simp[aP,a];lia),xbD<|by simp[a];lia]
section
variable{P:jp}{N:Nd}{we:wP}{Se:wr->Prop}{ms ms':xS MF}{Γ Γ':xS FF}{Q:Qs}{env:y8}{ops:ul uS}{rest:xS uS}
 {d:ww Z9}{ty yt t ti:wT}{pos:String}{aft:ul Edge}{g:ww (wr×wW)}{x y:v6}
def Tt{α:Type}{e:zV α}{f:wT}{xs:xS α}{z:α}{n:K}{v:wN}{bytes:K}{a:wN}{ik:Xs}(i:K)(D:P.underlying t=Z (.slice f))(E:P.underlying ti=Z (.int ik))(hv:QF P f e.agg e.n bytes a)(hd:a.cells.size=e.n)(hn:0<e.n)
 (o:ms[i]? =Z (mO e f v xs)) (F:ev env x=v) (G:ev env y=.int .i64 (n:J)) (q:∀(S:K->Prop) (w:wP),e.p S z a.cells.toList w)
 (hF:X xs+n<=9223372036854775807) (H:(X xs+n)*bytes<=140737488355328):OG P ⟨d,.call ⟨.builtin .append,#[x,y],#[t,ti]⟩,ty,pos,aft,g⟩ env we Se ms Γ (λc=>c) (λc=>(ms.set i<|mO e f c<|xs++xac n z)) (λ_=>Γ) (λ_=>XS):=by
 intro w r;have⟨S,_,⟨cs,l,he⟩,h8,_⟩:=r.mut o;have⟨L,hi,i1,i2,M⟩:=hv.info;have⟨c,w',R,hl,b,T⟩:=N8 (P:=P) t ti ty f L a e.n bytes D E hi M i1 i2 hd (e.one<|q S w) hn v (X xs) cs l n (by unfold WP;lia) H;refine uB.of_value (w':=w') (v:=c) ?_ ⟨c,O,wS,r.grow o ⟨b.os,b.tape,b.output,b.size,λj U m=>b.block j U<|λe=>m e.symm⟩ T ?_⟩
 ·simp only[jP,Wr,V1,Ul,xdX,xcb,xeC,F,G,xay,R,xaG,xag]
 ·intro S V ⟨h,hp,Y⟩ a0;have hB:h=cs:=by
   rcases l.2 with⟨rfl,h0⟩|⟨g,cap,a3,rfl,_,hC,_,_,_,hD⟩
   ·have s:=l.1;have u:=hp.1;rw[h0]at s u;have c1:cs=[]:=xbm (by simpa using s);have c2:h=[]:=xbm (by simpa using u);rw[c1,c2]
   ·rcases hp.2 with⟨hc,_⟩|⟨g',A,B,hE,_,C,_,_,_,hq⟩
    ·cases hc
    ·cases hE;rw[hC]at C;cases C;rw[<-hD,<-hq]
  subst hB;have kk:yw S w w':=⟨b.os,b.tape,b.output,b.size,λk hk m=>b.block k hk<|λe=>V k m e.symm⟩;rw[mj hd]at hl;exact⟨_,by rw[xap,xaZ];exact hl,(Y.keep kk).append<|yJ.replicate (q _ _) n⟩
end
def zE.left{S:K->Prop}{w:wP}:∀{Γ Δ:N FF},zE S (Γ++Δ) w->zE S Γ w
 |[],_,_=>trivial
 |_::_,_,h=>⟨h.1,zE.left h.2⟩
def zE.right{S:K->Prop}{w:wP}:∀{Γ Δ:N FF},zE S (Γ++Δ) w->zE S Δ w
 |[],_,h=>h
 |_::_,_,h=>zE.right h.2
def Fn.ok_mono{U:Type}{P:jp}{f:Z5}{args:ul wN}{Γ:N FF}{g:U->wN}{d:U->N FF}{ok i:U->Prop}(h:Fn P f args Γ g d ok)(j:∀u,ok u->i u):Fn P f args Γ g d i:=
 λw Se h1 k=>(h w Se h1 k).mono λe w' ⟨u,a,b,c⟩=>⟨u,a,j u b,c⟩
end
section
def rowT{α:Type}(e:zV α)(cap:K):sS (N α)where
 p S xs cs w:=∃c post,cs=c++post/\yJ e S xs c w/\X cs=cap*e.n
 keep:=λ⟨c,post,h1,a,b⟩ k=>⟨c,post,h1,a.keep k,b⟩
 sub:=λ⟨c,post,h1,a,b⟩ k=>⟨c,post,h1,a.sub k,b⟩
def Sub.rowT{α:Type}(e:zV α)(cap:K)(xs:N α)(i:K)(x:α)(j:xs[i]? =Z x):Sub (rowT e cap) xs (i*e.n) e x (λy=>xs.set i y):=by
 rintro S w cs ⟨c0,a,rfl,k,hl⟩;obtain⟨d,c,b,rfl,l,f,m⟩:=Sub.row e xs i x j S w c0 k;refine⟨d,c,b++a,by simp[xaf],l,f,λw' y g o h=>⟨d++g++b,a,by simp[xaf],m w' y g o h,?_⟩⟩;have e1:=e.len f;have p:=e.len h;simp only[xap]at hl⊢;lia
def Sub.rowT0{α:Type}(e:zV α)(cap:K)(xs:N α)(i:K)(x:α)(a:xs[i]? =Z x):Sub (Go.Proofs.YtoegnnjcmlghhaaGreat.rowT e cap) xs (0+i*e.n) e x (λy=>xs.set i y):=by
 rw[xaJ];exact Sub.rowT e cap xs i x a
section
variable{we:wP}{Se:wr->Prop}{ms:xS MF}{Γ:xS FF}{w:wP}{α:Type}{e:zV α}{E:wT}{xs:xS α}
theorem wo{i:K}{m:MF}(h:St we Se ms Γ w)(hi:ms[i]? =Z m){p:Prop}(hp:∀S:K->Prop,m.p S w->p):p:=by grind [St.muts]
def St.openO{v:wN}(i:K)(h:St we Se ms Γ w)(c:ms[i]? =Z (mO e E v xs))(hi:0<X xs):
 ∃g cap,v=.slice (Z ⟨g,0,wL⟩) (X xs) cap/\X xs<=cap/\cap<=9223372036854775807/\St we Se (ms.set i<|mB (rowT e cap) E g xs) Γ w:=by
 have:∃g cap,v=.slice (Z ⟨g,0,wL⟩) (X xs) cap/\X xs<=cap/\cap<=9223372036854775807:=wo h c λS ⟨cs,h1,b⟩=>by
  rcases h1.2 with⟨rfl,h0⟩|⟨g,cap,a,rfl,l,d,f,hc,hd,j⟩
  ·lia
  ·exact⟨g,cap,O,f,hc⟩
 obtain⟨g,cap,rfl,h1,b⟩:=this;refine⟨g,cap,O,h1,b,h.conv c O λS ⟨cs,h1,b⟩=> ?_⟩;rcases h1.2 with⟨h0,_⟩|⟨m,k,a,hv,l,d,f,hc,hd,j⟩
 ·cases h0
 ·cases hv;refine⟨a,d,cs,a.toList.drop<|X xs*e.n,?_,b,by simpa using hd⟩;rw[<-j,xbv]
def St.closeO{g cap:K}(i n:K)(h:St we Se ms Γ w)(d:ms[i]? =Z (mB (rowT e cap) E g xs))(hn:n<=X xs)(hc:n<=cap)(k:cap<=9223372036854775807):
 St we Se (ms.set i<|mO e E (.slice (Z ⟨g,0,wL⟩) n cap)<|xs.take n) Γ w:=by
 refine h.conv d O λS ⟨cs,f,c,a,h1,b,j⟩=>⟨c.take<|n*e.n,?_,b.take n⟩;have hl:X (xs.take n)=n:=by simp;lia
 have hd:=b.len;have l:n*e.n<=X xs*e.n:=xan _ hn;rw[hl];refine⟨by simp;lia,.inr ⟨g,cap,cs,O,xai _,f,hc,by unfold WP;lia,by simpa using j,?_⟩⟩;rw[h1,List.take_append_of_le_length W]
def St.closeF{g cap:K}(i:K)(h:St we Se ms Γ w)(a:ms[i]? =Z (mB (rowT e cap) E g xs))(hc:X xs<=cap)(b:cap<=9223372036854775807):
 St we Se (ms.set i<|mO e E (.slice (Z ⟨g,0,wL⟩) (X xs) cap) xs) Γ w:=by
 have:=h.closeO i (X xs) a (Nm _) hc b;rwa[xcw]at this
def St.rowRT{b n:K}(i:K)(h:St we Se ms Γ w)(c:ms[i]? =Z (mR e E b xs))(hn:n=X xs):St we Se (ms.set i<|mB (rowT e n) E b xs) Γ w:=
 h.conv c O λS ⟨cs,d,a⟩=>⟨cs,d,cs.toList,[],gT,a,by rw[hn];exact yJ.len (e:=e) a⟩
end
section
variable{P:jp}{N:Nd}{we:wP}{Se:wr->Prop}{ms:xS MF}{Γ:xS FF}{Q:Qs}{env:y8}{ops:ul uS}{rest:xS uS}
 {d:ww Z9}{ty yt t t':wT}{pos:String}{aft:ul Edge}{g:ww (wr×wW)}{x y:v6}
def OY{e:wT}{ag:wW}{c bytes:K}{a:wN}{b o n cap l h:K}{lo hi:V wN}{w:wP}(f:P.underlying t=Z (.slice e))(hd:QF P e ag c bytes a)
 (hl:lo=Z (.int .i64 (l:J))\/(lo=wL/\l=0)) (i:hi=Z (.int .i64 (h:J))\/(hi=wL/\h=n)) (k:l<=h) (m:h<=cap) (p:l<cap\/l=0):
 (xde t (.slice (Z ⟨b,o,wL⟩) n cap) lo hi wL).run P w=.ok (.slice (Z ⟨b,o+l*c,wL⟩) (h-l)<|cap-l) w:=by
 have b1:(0:J)<=(l:J)/\(l:J)<=(h:J):=W
 have b2:(0:J)<=(h:J)/\(h:J)<=(cap:J):=W
 have j:(xde t (.slice (Z ⟨b,o,wL⟩) n cap) lo hi wL).run P w=.ok (.slice (if cap=l then Z ⟨b,o,wL⟩else(Z (⟨b,o,wL⟩:JP)).map (·.add (l*c))) (h-l)<|cap-l) w:=by
  unfold xde;simp only[xay,kw f,xag];unfold xfP;simp only[xay,kw f,xag];unfold xem
  obtain rfl|⟨rfl,rfl⟩:=hl<;>obtain rfl|⟨rfl,rfl⟩:=i<;>
   simp only[xev,V4,xay,xaG,xag,iq b1,iq b2,wh hd,xbc]
 rw[j];by_cases hc:cap=l
 ·have:l=0:=W
  subst this;simp[hc]
 ·simp[hc,qE]
def NX{c:wT}{ag:wW}{e bytes:K}{a:wN}{b o n cap h:K}{hi:v6}(f:ev env x=.slice (Z ⟨b,o,wL⟩) n cap)(i:P.underlying t=Z (.slice c))(j:QF P c ag e bytes a)
 (k:ev env hi=.int .i64 (h:J)) (hc:h<=cap) (w:wP):(jP (ev env) ⟨d,.slice t x wL (Z hi) wL,ty,pos,aft,g⟩).run P w=.ok (.value (.slice (Z ⟨b,o,wL⟩) h cap)) w:=by
 have:=OY (P:=P) (b:=b) (o:=o) (n:=n) (w:=w) (lo:=wL) (hi:=Z (.int .i64 (h:J))) (l:=0) i j (.inr ⟨O,O⟩) (.inl O) (xai _) hc (.inr O);simp only[xcu,xbK,Nat.sub_zero]at this;simp[jP,f,k,this]
def zeL{α:Type}{e:zV α}{a:wT}{bytes:K}{b:wN}(c:P.underlying t=Z (.slice a))(f:QF P a e.agg e.n bytes b):OG P ⟨d,.buildSlice t 0 #[],ty,pos,aft,g⟩ env we Se ms Γ (λv=>v) (λv=>(mO e a v []::ms)) (λ_=>Γ) (λ_=>XS):=by
 intro w hc;have h:(xew t 0 #[]).run P w=.ok (.slice (Z ⟨w.heap.size,0,wL⟩) 0 0) (w.alloc (.cells #[] a)):=by
  unfold xew;simp only[xay,kw c,xag,wh f,ir (W:¬0*e.n>2^24),aC,xcu,uL];simp[xdt,WD];congr 2;apply Array.eq_empty_of_size_eq_zero;simp
 refine uB.of_value (w':=w.alloc (.cells #[] a)) (v:=.slice (Z ⟨w.heap.size,0,wL⟩) 0 0) ?_ ⟨_,O,wS,hc.fresh (KD.alloc w _) O gT λS _ _=>⟨[],?_,O⟩⟩
 ·simp[jP,h]
 ·exact⟨gT,.inr ⟨w.heap.size,0,#[],O,xai _,WF w _,Nm _,xai _,gT,gT⟩⟩
def zdK{α:Type}{e:zV α}{b:wT}{bytes:K}{a:wN}(c:yW ops env ⟨d,.buildSlice t 0 #[],ty,pos,aft,g⟩=wF)(hd:q8 N.n d=wF)
 (f:P.underlying t=Z (.slice b)) (h:QF P b e.agg e.n bytes a)
 (k:∀v,TL P N we Se (mO e b v []::ms) Γ ops rest Q<|put env d v):TL P N we Se ms Γ ops (⟨d,.buildSlice t 0 #[],ty,pos,aft,g⟩::rest) Q env:=
 zkF c hd (zeL f h) λv _=>k v
end
section
variable{P:jp}{env:y8}{d:ww Z9}{ty t:wT}{pos:String}{aft:ul Edge}{g:ww (wr×wW)}{x y c:v6}{w:wP}{S:wr->Prop}{v:wN}
def zp3{f:Go.Fn}{xs:N v6}{vs:N wN}(h:xs.map (ev env)=vs)(w:wP):(jP (ev env) ⟨d,.makeFunc f #[] xs.toArray,ty,pos,aft,g⟩).run P w=.ok (.value (.func f #[] vs.toArray)) w:=
 dW (by simp[pv,h]) w
end
section
variable{P:jp}{N:Nd}{we:wP}{Se:wr->Prop}{ms:xS MF}{Γ:xS FF}{Q:Qs}{env:y8}{ops:ul uS}{rest:xS uS}
 {d:ww Z9}{ty yt t t':wT}{pos:String}{aft:ul Edge}{g:ww (wr×wW)}{x y:v6}
def ET(w:wP)(k p ty b:wT)(g o dLen dCap:K)(a:JP)(e f:K)(c:ul wN)(t:wT)(cs:xS wN){n m:K}
 (q:P.underlying k=Z (.slice b)) (l:(P.info? b).map (·.size)=Z n) (r:Nat.min e dLen=m)
 (s:w.heap[g]? =Z (.cells c t (0,0))) (hn:X cs=m*n)
 (u:∀j v,cs[j]? =Z v->w.cell? (a.add j)=Z v) (hc:o+X cs<=c.size) (h1:∀v∈cs,v.oneCell'=wF):
 (xfO #[k,p] ty #[.slice (Z ⟨g,o,wL⟩) dLen dCap,.slice (Z a) e f]).run P w=
  .ok (eM m) (w.setRow g (c.toList.take o++cs++c.toList.drop (o+X cs)).toArray):=by
 have hl:=Ut (P:=P) w a cs u;have hd:=US P g o t cs 0 c w s (by simpa using hc) h1
 cases h:P.info? b with
 |none=>simp[h]at l
 |some i=>
  have hi:i.size=n:=by simpa[h]using l
  simp[xfO,kw q,xfN,xez,WN,WS,h,hi,r,<-hn,hl,hd]
def Jo(w:wP)(f j ty b:wT)(d a:V JP)(dLen dCap c e:K)(k:P.underlying f=Z (.slice b)){n:K}(l:(P.info? b).map (·.size)=Z n)(hn:Nat.min c dLen=0):
 (xfO #[f,j] ty #[.slice d dLen dCap,.slice a c e]).run P w=.ok (eM 0) w:=by
 cases h:P.info? b with
 |none=>simp[h]at l
 |some i=>
  have hl:∀(x:JP),(loadCells x 0).run P w=.ok #[] w:=λx=>by simpa using Ut (P:=P) w x [] gT
  cases d<;>cases a<;>simp[xfO,kw k,xfN,xez,WN,WS,h,hn,storeCells,hl]
def OO{α:Type}{e:zV α}{r E b l dLen dCap cap bytes:K}{s u:wN}{xs ys:xS α}(i:K)(R:P.underlying t=Z (.slice r))(hJ:QF P r e.agg e.n bytes s)(A:ms[i]? =Z (mB (rowT e cap) E b xs))(hx:ev env x=.slice (Z ⟨b,0+l*e.n,wL⟩) dLen dCap)(hy:ev env y=u)
 (hl:l+dLen<=X xs) (T:∀(S:K->Prop) (w:wP),zE S Γ w->(fV (eS e) ys u).p S w):OG P ⟨d,.call ⟨.builtin .copy,#[x,y],#[t,t']⟩,ty,pos,aft,g⟩ env we Se ms Γ (λn:J=>(.int .i64 n)) (λn=>(ms.set i<|mB (rowT e cap) E b<|xs.take l++ys.take (min (X ys) dLen)++xs.drop (l+min (X ys) dLen))) (λ_=>Γ) (λ_=>XS):=by
 intro w hn;have⟨S0,⟨c,B,c0,h,hz,hA,hK⟩,hT,hL⟩:=hn.muts A;have⟨ao,f,C,h1,h2,D⟩:=xK.1<|T S0 w hL;have⟨ti,hi,i1,i2,i3⟩:=hJ.info;have U:(P.info? r).map (·.size)=Z e.n:=by rw[hi];simp[i1]
 have V:∀v w',(xfO #[t,t'] ty #[.slice (Z ⟨b,0+l*e.n,wL⟩) dLen dCap,u]).run P w=.ok v w'->
  (jP (ev env) ⟨d,.call ⟨.builtin .copy,#[x,y],#[t,t']⟩,ty,pos,aft,g⟩).run P w=.ok (.value v) w':=λv w' o=>by
  simp only[jP,Wr,V1,Ul,xdX,xcb,xeC,hx,hy,xay,o,xaG,xag]
 have⟨m,z⟩:∃m,min (X ys) dLen=m:=⟨_,O⟩;have Y:Nat.min (X ys) dLen=m:=z;have hU:m<=dLen:=by rw[<-z];exact Nat.min_le_right _ _
 have hc:m<=X ys:=by rw[<-z];exact Nat.min_le_left _ _
 have e1:(l+m)*e.n=l*e.n+m*e.n:=xbb _ _ _;have F:l*e.n+m*e.n<=X xs*e.n:=by rw[<-e1];exact xan _ W
 have e3:m*e.n<=X ys*e.n:=xan _ hc;have hV:X c0=X xs*e.n:=hA.len;rw[z];by_cases h0:m=0
 ·have o:=Jo (P:=P) w t t' ty r (Z ⟨b,0+l*e.n,wL⟩) ao dLen dCap (X ys) f R U<|Y.trans h0;rw[<-C]at o;refine uB.of_value (V _ _ o) ⟨_,O,wS,?_⟩;rw[h0];simp only[xbK,List.take_zero,xbP,xbv];have:ms.set i (mB (rowT e cap) E b xs)=ms:=by
   have⟨hW,hM⟩:=xaq.1 A;rw[<-hM,xdk]
  rw[this];exact hn
 ·obtain D|⟨sb,so,cs,rfl,hX,ha,hp⟩:=D
  ·rw[D]at hc;simp at hc;lia
  ·have hN:X cs=X ys*e.n:=hp.len;have hE:X (cs.take<|m*e.n)=m*e.n:=by rw[xax,hN];lia
   have e4:X c.toList=X c0+X h:=by rw[hz,xap]
   have hF:0+l*e.n+X (cs.take<|m*e.n)<=c.size:=by
    simp only[xeU]at e4;lia
   have o:=ET (P:=P) w t t' ty r b (0+l*e.n) dLen dCap ⟨sb,so,wL⟩ (X ys) f c E (cs.take<|m*e.n) R U Y B hE
    (λj v hv=>by rw[qE];exact(ha.take _).2 j v hv) hF (λv hv=>hp.one v<|xel hv)
   rw[<-C]at o;refine uB.of_value (V _ _ o) ⟨_,O,wS,hn.write A O O (VY w b _) ?_⟩;rintro S hS ⟨a0,hG,c1,q,hH,hd,hq⟩ h8;rw[B]at hG;cases hG;have⟨a1,G,hI,_,_,H⟩:=xK.1<|T S w h8;rw[C]at hI;cases hI;obtain H|⟨a2,a3,a,hO,hY,hP,hg⟩:=H
   ·rw[H]at hc;simp at hc;lia
   ·cases hO;have hQ:a=cs:=by
     have hR:X a=X cs:=by rw[hg.len,hp.len]
     apply xcH;intro j;by_cases L:j<X cs
     ·have e1:=ha.2 j cs[j] (by simp[L]);have F:=hP.2 j a[j] (by simp[hR,L]);rw[e1]at F;rw[xah L,xah (by lia:j<X a),F]
     ·rw[xbD (l:=cs) W,xbD (l:=a) W]
    subst hQ;have hZ:X c1=X xs*e.n:=hd.len;have M:yw S w (w.setRow b (c.toList.take (0+l*e.n)++a.take (m*e.n)++c.toList.drop (0+l*e.n+X (a.take<|m*e.n))).toArray):=(VY w b _).weak λk _ hk=>hS k hk;refine⟨_,cS w b c _ E (0,0) B,c1.take (l*e.n)++a.take (m*e.n)++c1.drop ((l+m)*e.n),q,?_,?_,?_⟩
    ·rw[hE,xaJ,e1,hH,List.take_append_of_le_length W,List.drop_append_of_le_length W];simp[xaf]
    ·exact(((hd.keep M).take l).append<|(hg.keep M).take m).append<|(hd.keep M).drop<|l+m
    ·rw[<-hq];simp only[xap,xax,xbR];lia
end
end
section
section
variable{P:jp}{env:y8}{ms:xS MF}{Γ:xS FF}{d:ww Z9}{ty t yt:wT}{pos:String}{aft:ul Edge}{g:ww (wr×wW)}{x y:v6}
def Fw{t E:wT}{a:V JP}{n c:K}(b:P.underlying t=Z (.slice E))(w:wP):(Op.equal t (.slice a n c) (.slice wL 0 0)).run P w=.ok a.isNone w:=by
 show(Op.equalIn (9999+1) t (.slice a n c) (.slice wL 0 0)).run P w=_;unfold Op.equalIn;cases a<;>simp only[xay,kw b,xag,xaG,Option.isNone_none,Option.isNone_some]
def zjr{α:Type}{e:zV α}{xs:N α}{v:wN}{E:wT}(i:P.underlying t=Z (.slice E))(j:ev env x=v)(k:ev env y=.slice wL 0 0)(l:∀(S:K->Prop) (w:wP),zE S Γ w->(fV (eS e) xs v).p S w):
 MJ P ⟨d,.binOp .eql t x y yt,ty,pos,aft,g⟩ env ms Γ (λu:wW=> .bool u) (λ_=>[]) (λu=>u=wF->xs=[]):=by
 intro w S _ _ c;have⟨a,cap,hv,h1,h,f⟩:=xK.1<|l S w c;have m:(V3 .eql t x y (.slice a (X xs) cap) (.slice wL 0 0)).run P w=.ok () w:=by simp[V3]
 have h:(WR .eql t (.slice a (X xs) cap) (.slice wL 0 0)).run P w=.ok (.bool a.isNone) w:=by simp only[WR,xay,Fw i,xag,xaG]
 refine uB.of_value (w':=w) (v:=.bool a.isNone) ?_ ⟨a.isNone,O,λhn=> ?_,yw.refl _ _,wS⟩
 ·simp only[jP,j,hv,k,xay,m,h,xag,xaG]
 ·obtain f|⟨b,o,cs,rfl,_⟩:=f
  ·exact f
  ·simp at hn
end
section
variable{P:jp}{env:y8}{d:ww Z9}{ty t:wT}{pos:String}{aft:ul Edge}{g:ww (wr×wW)}{x y c:v6}{w:wP}{S:wr->Prop}{v:wN}{o:uS}
def ziB(hc:ev env c=.bool wF)(h:ev env x=v)(w:wP):(jP (ev env) ⟨d,.pick c x y,ty,pos,aft,g⟩).run P w=.ok (.value v) w:=dW (by simp[pv,hc,h]) w
def ziI(hc:ev env c=.bool I)(h:ev env y=v)(w:wP):(jP (ev env) ⟨d,.pick c x y,ty,pos,aft,g⟩).run P w=.ok (.value v) w:=dW (by simp[pv,hc,h]) w
end
def jt(x y:J):J:=if x<y then-1 else if y<x then 1 else 0
theorem qe{x y:J}(h:x<y):jt x y= -1:=by simp[jt,h]
theorem vo{x y:J}(h:y<x):jt x y=1:=by grind [jt]
theorem jU{x y:J}(h:x=y):jt x y=0:=by grind [jt]
end
section
section
variable{P:jp}{N:Nd}{we:wP}{Se:wr->Prop}{ms:xS MF}{Γ:xS FF}{Q:Qs}{env0:y8}{l:xS uS}
theorem lO{env:y8}{d:V Z9}{v:wN}{t:Z9}(h:d≠Z t):put env d v t=env t:=by
 cases d with
 |none=>rfl
 |some dd=>
  have a:¬t=dd:=λe=>h (by rw[e]);have:E t dd=I:=Yb a;simp[put,L,this]
theorem Df{env:y8}{v:wN}{t:Z9}:put env (Z t) v t=v:=by simp[put,L]
end
end
section
section
variable{P:jp}{N:Nd}{we:wP}{Se:wr->Prop}{ms F:xS MF}{Γ:xS FF}{env:y8}{U:Type}{val:U->wN}{own:U->xS MF}{facts:U->xS FF}{ok:U->Prop}{fn:QR}
 {ops:ul uS}{rest:xS uS}{d:ww Z9}{t ty yt:wT}{pos:String}{aft:ul Edge}{g:ww (wr×wW)}{x y:v6}
def zc0{α:Type}{e:zV α}{b:wT}{xs ys:xS α}{v u:wN}{bytes:K}{a:wN}(i:K)
 (f:P.underlying t=Z (.slice b)) (j:QF P b e.agg e.n bytes a) (hc:a.cells.size=e.n) (hn:0<e.n)
 (k:ms[i]? =Z (mO e b v xs)) (l:ev env x=v) (m:ev env y=u) (o:∀(S:K->Prop) (w:wP),zE S Γ w->(fV (eS e) ys u).p S w)
 (hd:X xs+X ys<=9223372036854775807) (q:(X xs+X ys)*bytes<=140737488355328):
 OG P ⟨d,.call ⟨.builtin .append,#[x,y],#[t,t]⟩,ty,pos,aft,g⟩ env we Se ms Γ (λc=>c) (λc=>ms.set i<|mO e b c<|xs++ys) (λ_=>Γ) (λ_=>XS):=
 af i f j hc hn k l m (λS w _ h=>SlQ.of<|o S w h) hd q
end
end
section
abbrev Jx(x:J):Prop:= -9223372036854775808<=x/\x<=9223372036854775807
abbrev aB(x:K):Prop:=x<18446744073709551616
section
variable{α β:Type}
def ck(p:Prop)[V0 p](k:V α):V α:=if p then k else wL
def ze(e:J)(k:J->V α):V α:=if Jx e then k e else wL
def zD(i:J)(n:K)(k:K->V α):V α:=if 0<=i/\i<(n:J)then k i.toNat else wL
def jh(i:J)(k:K->V α):V α:=if 0<=i then k i.toNat else wL
def nm(e:β)(k:β->V α):V α:=k e
def bd(x:V β)(k:β->V α):V α:=match x with
 |some v=>k v
 |none=>wL
def zg(f:(β->V α)->β->V α):K->β->V α
 |0,_=>wL
 |k+1,s=>f (zg f k) s
theorem u9{p:Prop}[V0 p]{k:V α}{r:α}(h:ck p k=Z r):p/\k=Z r:=by grind [ck]
theorem QQ{e:J}{k:J->V α}{r:α}(h:ze e k=Z r):∃x,x=e/\Jx x/\k x=Z r:=by grind [ze]
theorem zkN{i:J}{n:K}{k:K->V α}{r:α}(h:zD i n k=Z r):∃j:K,i=(j:J)/\j<n/\k j=Z r:=by grind [zD]
theorem zaW{i:J}{k:K->V α}{r:α}(h:jh i k=Z r):∃j:K,i=(j:J)/\k j=Z r:=by grind [jh]
def xJ{e:β}{k:β->V α}{r:α}(h:nm e k=Z r):∃x,x=e/\k x=Z r:=⟨e,O,h⟩
def r8{x:V β}{k:β->V α}{r:α}(h:bd x k=Z r):∃v,x=Z v/\k v=Z r:=by
 cases x with
 |none=>cases h
 |some v=>exact⟨v,O,h⟩
def zmF{c:Prop}[V0 c]{x y:V α}{r:α}(hc:c)(h:(if c then x else y)=Z r):x=Z r:=by rwa[iq hc]at h
def zmT{c:Prop}[V0 c]{x y:V α}{r:α}(hc:¬c)(h:(if c then x else y)=Z r):y=Z r:=by rwa[ir hc]at h
def zaE{f:(β->V α)->β->V α}{s:β}{r:α}(h:zg f 0 s=Z r):V6:=by cases h
def zbC{f:(β->V α)->β->V α}{k:K}{s:β}{r:α}(h:zg f (k+1) s=Z r):f (zg f k) s=Z r:=h
end
section
variable{α β:Type}
theorem xB{p:Prop}[V0 p]{k:V α}(h:p):ck p k=k:=iq h
def yV{p:Prop}[V0 p]{k:V α}(h:p:=by lia):ck p k=k:=UT h
theorem lu{e:J}{k:J->V α}(h:Jx e):ze e k=k e:=iq h
def zb{e:J}{k:J->V α}(h1: -9223372036854775808<=e:=by lia)(a:e<=9223372036854775807:=by lia):ze e k=k e:=UT ⟨h1,a⟩
def CJ{i:J}{n:K}{k:K->V α}(h:0<=i/\i<(n:J)):zD i n k=k i.toNat:=iq h
theorem zo{i n:K}{k:K->V α}(h:i<n):zD (i:J) n k=k i:=by rw[CJ ⟨W,W⟩];rfl
def zY{i n:K}{k:K->V α}(h:i<n:=by lia):zD (i:J) n k=k i:=zo h
def zpk{i:J}{k:K->V α}(h:0<=i):jh i k=k i.toNat:=iq h
theorem yR{i:K}{k:K->V α}:jh (i:J) k=k i:=by rw[zpk W];rfl
theorem zf{e:β}{k:β->V α}:nm e k=k e:=O
theorem za{x:V β}{v:β}{k:β->V α}(h:x=Z v):bd x k=k v:=by rw[h];rfl
def kf{f:(β->V α)->β->V α}{k:K}{s:β}:zg f (k+1) s=f (zg f k) s:=O
end
def MN{n:K}(h:n<=9223372036854775807):Jx (n:J):=⟨W,W⟩
def zor(x:K):aB (x%18446744073709551616):=xaS _ gS
def zlX{x e:K}(h:x=e)(a:aB e):aB x:=h▸a
def zeg{x e:J}(h:x=e)(a:Jx e):Jx x:=h▸a
def W8{x e:K}(h:x=e%18446744073709551616):aB x:=h▸zor e
def zmy{a b x:J}(c:Jx a)(h:x=a.tmod b):Jx x:=by
 subst h;have h1:=Int.natAbs_tmod a b;have d:=Nat.mod_le a.natAbs b.natAbs;have e:(a.tmod b).natAbs<=a.natAbs:=W
 obtain h0|h0:=Int.le_total 0 a
 ·have:=Int.tmod_nonneg b h0;exact⟨W,W⟩
 ·have:a.tmod b<=0:=by
   have:=Int.tmod_nonneg b (a:= -a) W;rw[Int.neg_tmod]at this;lia
  exact⟨W,W⟩
def zl7{a b x:K}(c:aB a)(h:x=a%b):aB x:=by
 have:=Nat.mod_le a b;unfold aB at*;lia
def BT{a b x:K}(c:aB a)(h:x=a/b):aB x:=by
 have:=xcp a b;unfold aB at*;lia
def znW{a b:J}(c:Jx a)(d:Jx b):Jx (max a b):=by unfold Jx at*;lia
def znE{a b:J}(c:Jx a)(d:Jx b):Jx (min a b):=by unfold Jx at*;lia
def znV{α:Type}{l:N α}{k:K}{y z:α}(h:k<X l)(a:y=l.getD k z):l[k]? =Z y:=by rw[a];exact getD_some z h
def sgn(x:K):J:=if x<9223372036854775808 then(x:J)else(x:J)-18446744073709551616
def DE(x:J):K:=(x%18446744073709551616).toNat
def zg0{x:K}(h:aB x):Jx (sgn x):=by unfold sgn aB at*;split<;>constructor<;>lia
def Cy(x:J):aB (DE x):=by unfold DE aB;lia
def DC{x:K}(h:aB x):xdi.wrap (x:J)=sgn x:=by
 unfold sgn;unfold aB at h;split
 ·exact w64 ⟨W,W⟩
 ·rename_i b;have a:xdi.wrap (x:J)=xdi.wrap ((x:J)-18446744073709551616):=by
   simp[xfU,xeB,xei];all_goals lia
  rw[a];exact w64 ⟨W,W⟩
def zg9(x:J):xcs.wrap x=((DE x:K):J):=by rw[B9];unfold DE;lia
def w_x{x c:J}(h:c=x)(a:Jx c):xdi.wrap x=c:=by subst h;exact w64 a
def iU{k:Xs}{x:J}{c n:K}(h:c=n)(a:k.wrap x=(n:J)):k.wrap x=(c:J):=by rw[a,h]
inductive Tg
 |n
 |x (i:K)
 |r
def tgB:Tg->bI->wW
 |.n,.normal=>wF
 |.x i,.exit j=>E i j
 |.r,.ret=>wF
 |_,_=>I
def tgE:Tg->bI
 |.n=> .normal
 |.x i=> .exit i
 |.r=> .ret
def zk6{t:Tg}{e:bI}(h:tgB t e=wF):e=tgE t:=by
 cases t<;>cases e<;>first|rfl|cases h|skip
 rename_i i j;rw[xcP (show E i j=wF from h)];rfl
def XQ:N (Tg×(y8->wP->Prop))->Qs
 |[],_,_,_=>V6
 |(t,J)::r,e,env,w=>bif tgB t e then J env w else XQ r e env w
def XK(Q:Qs):N (Tg×(y8->wP->Prop))->Prop
 |[]=>XS
 |(t,J)::r=>(∀env w,J env w->Q (tgE t) env w)/\XK Q r
def zj8{Q:Qs}:∀{l:N (Tg×(y8->wP->Prop))},XK Q l->∀e env w,XQ l e env w->Q e env w
 |[],_,_,_,_,h=>h.elim
 |(t,J)::r,k,e,env,w,h=>by
  unfold XQ at h;cases a:tgB t e
  ·rw[a]at h;exact zj8 k.2 e env w h
  ·rw[a]at h;rw[zk6 a];exact k.1 env w h
inductive JQ(we:wP)(Se:K->Prop){G:Type}(inv:G->Inv)(ok:G->Prop)(env:y8)(w:wP):Prop
 |mk (g:G) (h1:ok g) (h2:Kc env (inv g).live) (h3:St we Se (inv g).ms (inv g).Γ w):JQ we Se inv ok env w
section
variable{P:jp}{N:Nd}{we:wP}{Se:wr->Prop}{ms:xS MF}{Γ:xS FF}{Q:Qs}{env:y8}
def T_X(l:xS (Tg×(y8->wP->Prop))){c:Wn}(h:T P N we Se ms Γ c (XQ l) env)(k:XK Q l):T P N we Se ms Γ c Q env:=
 λw b a h1 d f=>WT (h w b a h1 d f) λe i w' ⟨q1,q2,g⟩=>⟨q1,q2,zj8 k e _ _ g⟩
def zbX{G:Type}{a:G->Inv}{ok:G->Prop}(g:G)(h1:ok g)(b:Kc env (a g).live)(c:∀w,St we Se ms Γ w->St we Se (a g).ms (a g).Γ w):
 ∀w,St we Se ms Γ w->JQ we Se a ok env w:=λw d=>⟨g,h1,b,c w d⟩
def zno{G:Type}{a:G->Inv}{ok:G->Prop}{R:y8->wP->Prop}(k:∀g,ok g->∀rest w,St we Se (a g).ms (a g).Γ w->R (L (a g).live rest) w):
 ∀env w,JQ we Se a ok env w->R env w:=λenv w ⟨g,h1,b,c⟩=>by
 have:=k g h1 env w c;rwa[UZ b]at this
end
end
section
section
variable{P:jp}{N:Nd}{we:wP}{Se:wr->Prop}{ms F:xS MF}{Γ:xS FF}{Q:Qs}{env:y8}{ops:ul uS}{rest:xS uS}{o:uS}
 {d:ww Z9}{ty yt t ti t':wT}{pos:String}{aft:ul Edge}{g:ww (wr×wW)}{x y:v6}
def v_i{k:Xs}{c z:J}(h:∀w,(jP (ev env) o).run P w=.ok (.value (.int k c)) w)(a:z=c):∀w,(jP (ev env) o).run P w=.ok (.value (.int k z)) w:=by
 subst a;exact h
def zg6{c z:wW}(h:∀w,(jP (ev env) o).run P w=.ok (.value (.bool c)) w)(a:z=c):∀w,(jP (ev env) o).run P w=.ok (.value (.bool z)) w:=by
 subst a;exact h
def pA{a:K}{b:J}:(a:J).fdiv (2^(min b.toNat xcs.bits))=((a/2^(min b.toNat 64):K):J):=by
 have:xcs.bits=64:=O;rw[this,Int.fdiv_eq_ediv_of_nonneg _ (by have:(0:J)<=2^(min b.toNat 64):=xfA gS;exact this)];try norm_cast
def zaK{a:K}{b:J}:xcs.wrap ((a:J)*2^(min b.toNat xcs.bits))=((a*2^(min b.toNat 64)%18446744073709551616:K):J):=by
 have:xcs.bits=64:=O;rw[this];have h:=ziH<|a*2^(min b.toNat 64);rw[<-h];congr 1
def zfq{a x:J}{k:K}(b:Jx a)(h:x=a.fdiv (2^k)):Jx x:=by
 have hp:(0:J)<2^k:=Int.pow_pos gS;rw[Int.fdiv_eq_ediv_of_nonneg _ W]at h;subst h;have⟨h1,c⟩:=b;have e:=xbG a<|2^k;generalize f:a/2^k=q at*
 rcases(W:a<0\/0<=a)with h0|h0
 ·have:=Int.ediv_neg_of_neg_of_pos h0 hp;constructor<;>lia
 ·constructor<;>lia
def SV(a b:J):J:=sgn<|DE a &&& DE b
def orI(a b:J):J:=sgn (DE a|||DE b)
theorem nF{a b:K}(c:aB a):aB (a &&& b):=xaK Nat.and_le_left c
theorem Bc{a b:K}(c:aB a)(e:aB b):aB (a|||b):=Nat.or_lt_two_pow (n:=64) c e
theorem zdx{a:K}(b:aB a):((a:J)%2^xcs.bits).toNat=a:=by
 have:(2:J)^xcs.bits=18446744073709551616:=O;rw[this];unfold aB at b;lia
theorem zjv{a b:K}(c:aB a)(e:aB b):xcs.wrap (((((a:J)%2^xcs.bits).toNat &&& ((b:J)%2^xcs.bits).toNat:K)):J)=((a &&& b:K):J):=by grind [zdx,mG,nF]
theorem zmd{a b:K}(c:aB a)(e:aB b):xcs.wrap (((((a:J)%2^xcs.bits).toNat|||((b:J)%2^xcs.bits).toNat:K)):J)=((a|||b:K):J):=by grind [zdx,mG,Bc]
def zjK{a b:J}:xdi.wrap (((a%2^xdi.bits).toNat &&& (b%2^xdi.bits).toNat:K):J)=SV a b:=DC<|nF<|Cy a
def zly{a b:J}:xdi.wrap (((a%2^xdi.bits).toNat|||(b%2^xdi.bits).toNat:K):J)=orI a b:=DC<|Bc (Cy a)<|Cy b
def zld(a b:J):Jx (SV a b):=zg0<|nF<|Cy a
def zos(a b:J):Jx (orI a b):=zg0<|Bc (Cy a)<|Cy b
def znq{b:K}(h:b≠0):(b:J)≠0:=W
def zhk{B n:K}(a:0<B)(h:B*n<=281474976710656):n<=9223372036854775807:=by
 have:=xdV n a;lia
def O0{α:Type}{e:zV α}{c:wT}{z:α}{xs:xS α}{n bytes:K}{a:wN}{f:v6}{i j:Xs}(k:P.underlying t=Z (.slice c))(l:QF P c e.agg e.n bytes a)(m:ev env x=.int i (n:J))(q:ev env f=.int j (n:J))(r:0<bytes)(h:bytes*n<=281474976710656)
 (s:∀(S:K->Prop) (w:wP),e.p S z a.cells.toList w) (hc:xs=xac n z):OG P ⟨d,.makeSlice t x f,ty,pos,aft,g⟩ env we Se ms Γ (λb=>(.slice (Z ⟨b,0,wL⟩) n n)) (λb=>(mB (rowT e n) c b xs::ms)) (λ_=>Γ) (λ_=>XS):=by
 subst hc;intro w hd;refine(zaA k l m q h (zhk r h) s w hd).mono ?_;rintro v w' ⟨b,h1,u,A⟩;exact⟨b,h1,u,A.rowRT 0 O gT⟩
end
end
section
def zkS{α:Type}{a x:α}(h:Z a=Z x):a=x:=xdC h
def zcu{x:J}{c n:K}(h:c=n)(a:x=(n:J)):x=(c:J):=by rw[a,h]
def ziO{x y z q:K}(a:aB x)(b:aB y)(c:z<=1)(h:q=(x+y+z)/18446744073709551616):aB q:=by unfold aB at*;lia
def zhM{x y z q:K}(_:aB x)(_:aB y)(_:z<=1)(h:q=if x<y+z then 1 else 0):aB q:=by unfold aB;split at h<;>lia
def v_2{P:jp}{env:y8}{o:uS}{k c:Xs}{a b x y:K}(h:∀w,(jP (ev env) o).run P w=.ok (.value (.tuple #[.int k (a:J),.int c (b:J)])) w)(d:x=a)(e:y=b):
 ∀w,(jP (ev env) o).run P w=.ok (.value (.tuple #[.int k (x:J),.int c (y:J)])) w:=by subst d;subst e;exact h
def JG(we:wP)(Se:K->Prop)(i:Inv)(R:y8->wP->Prop)(rest:y8):Prop:=∀w,St we Se i.ms i.Γ w->R (L i.live rest) w
def zfM{we:wP}{Se:K->Prop}{G:Type}{a:G->Inv}{ok:G->Prop}{R:y8->wP->Prop}(k:∀g,ok g->∀rest,JG we Se (a g) R rest):
 ∀env w,JQ we Se a ok env w->R env w:=zno k
def zkj{we:wP}{Se:K->Prop}{i:Inv}{R:y8->wP->Prop}{rest:y8}{b:N MF}{c:N FF}{a:N (K×wN)}(h:i=⟨b,c,a⟩)(k:∀w,St we Se b c w->R (L a rest) w):JG we Se i R rest:=by
 subst h;exact k
def Tk{F:Fence}{n:K}{P:jp}{a:Jp}{w:wP}{Q:bI->Jp->wP->Prop}{c:Wn}(h:c.wpIn F n P (Exit.noGoto Q) a w):(Code.scope c).wpIn F n P Q a w:=by
 intro b k cs hc o p;have g:∀{cs:N Frame}{k:N Item},step P (lone (b.atR a (.code (.scope c)::k)) cs w)=.next (lone (b.atR a (.code c::.inScope c::k)) cs w):=step_lone_go (by simp[stepG,stepG.exec,Frame.atR]);have r:∀{a:Jp}{w:wP}{cs:N Frame}{k:N Item},step P (lone (b.atR a (.inScope c::k)) cs w)=.next (lone (b.atR a k) cs w):=step_lone_go (by simp[stepG,stepG.exec,Frame.atR]);have h0:(lone (b.atR a (.code (.scope c)::k)) cs w).fenced P F:=aM o p O;have⟨e,d,f,i,j⟩:=h b (.inScope c::k) cs hc o p
 cases e with
 |normal=>exact⟨.normal,d,f,i,.head h0 g<|StepsIn.trans j (.one (aM o p O) r)⟩
 |exit id=>exact⟨.exit id,d,f,i,λs q=> .head h0 g (j.1 s<|by simp[exitTo,q]),λhd q=>let⟨m,h1,t⟩:=j.2 hd (by simp[exitTo,q]);⟨m,h1,.head h0 g t⟩⟩
 |goto l=>exact i.elim
 |ret=>exact⟨_,d,f,i,.of_steps (.one h0 g) j⟩
 |panic u=>exact⟨_,d,f,i,.of_steps (.one h0 g) j⟩
 |outgrown=>exact⟨_,d,f,i,.of_steps (.one h0 g) j⟩
section
variable{P:jp}{N:Nd}{we:wP}{Se:wr->Prop}{ms:xS MF}{Γ:xS FF}{Q:Qs}{env:y8}{ops:ul uS}{d:ww Z9}{ty t:wT}{pos:String}{aft:ul Edge}{g:ww (wr×wW)}
def plB(P:jp)(t:wT):V (ul<|K×K):=match P.underlying t with
 |some (.struct fs)=>(fs.toList.mapM λf=>(P.info? f.type).map λi=>(f.offset,i.size)).map (·.toArray)
 |_=>wL
def P8(w:wP):∀(l:xS Field) (r:xS (K×K)),(l.mapM λf=>(P.info? f.type).map λi=>(f.offset,i.size))=Z r->(l.mapM (λf=>do pure (f.offset,<-WN f.type)):Sem (xS<|K×K)).run P w=.ok r w
 |[],r,h=>by simp at h;subst h;simp
 |f::l,r,h=>by
  rw[List.mapM_cons]at h
  cases hi:P.info? f.type with
  |none=>rw[hi]at h;simp at h
  |some i=>
   rw[hi]at h
   cases hl:(l.mapM λf=>(P.info? f.type).map λi=>(f.offset,i.size))with
   |none=>rw[hl]at h;simp at h
   |some q=>
    rw[hl]at h;simp at h;subst h;have a:=P8 w l q hl;have b:(WN f.type).run P w=.ok i.size w:=by simp[WN,WS,hi]
    rw[List.mapM_cons];simp only[xay,b,a,xag,xaG]
def zhI{pl:ul (K×K)}(h:plB P t=Z pl):∃fs,P.underlying t=Z (.struct fs)/\∀w,(fs.mapM (λf=>do pure (f.offset,<-WN f.type)):Sem (ul<|K×K)).run P w=.ok pl w:=by
 unfold plB at h;split at h
 ·next fs a=>
  refine⟨fs,a,λw=> ?_⟩
  cases hl:(fs.toList.mapM λf=>(P.info? f.type).map λi=>(f.offset,i.size))with
  |none=>rw[hl]at h;cases h
  |some q=>
   rw[hl]at h;cases h;have:=P8 w fs.toList q hl;rw[Array.mapM_eq_mapM_toList];simp only[Sem.run_map,this,xag]
 ·cases h
def wu8(n:K):xga.wrap (n:J)=((n%256:K):J):=by
 simp[xfU,xeB,xei]
def Lf{x e:K}(h:x=e%256):x<256:=h▸xaS _ gS
def b_r{x:K}(h:x<256):Jx (x:J):=⟨W,W⟩
def zeC{x y:v6}{s:Wd}{k:Xs}{j z:K}(a:P.underlying t=Z .string)(b:ev env x=.string s)(c:s=Lib.len8tab)(e:ev env y=.int k (j:J))(i:j<256)(f:z=xeZ j)(w:wP):
 (jP (ev env) ⟨d,.index t x y,ty,pos,aft,g⟩).run P w=.ok (.value (.int .u8 (z:J))) w:=by
 subst c;subst f;have h:=Lib.run_index_len8tab (P:=P) w t k (j:J) a W W;rw[Lib.len8_of _ W W]at h;simp[jP,b,e,h]
def GL{j z:K}(a:j<256)(b:z=xeZ j):z<256:=by
 have:=Lib.bitLen_le8' (j:J) W W;simp at this;lia
def zcv{f:K->V (K×K)}{i off:K}{v:wN}{b c e:xS wN}{r:xS (K×wN)}(hp:f i=Z (off,v.cells.size))(h:X b=off)(hc:X c=v.cells.size):
 xdt f (b++c++e).toArray ((i,v)::r)=xdt f (b++v.cells.toList++e).toArray r:=by
 subst h;have j:v.cells.zipIdx.foldl (λcs (x:wN×K)=>cs.setIfInBounds (X b+x.2) x.1) (b++c++e).toArray=(b++v.cells.toList++e).toArray:=by
  apply Array.ext';rw[<-Array.foldl_toList,Array.toList_zipIdx,rU (X b) v.cells.toList 0 _<|by simp;lia];have e1:(b++c++e).take (X b)=b:=by rw[xaf,xfR];rfl
  have k:(b++c++e).drop (X b+X v.cells.toList)=e:=by rw[xfd];simp;lia
  simp only[xbK,List.toList_toArray]at*
  rw[e1,k]
 conv=>lhs;unfold xdt
 simp only[hp];rw[ir<|by simp;lia];exact kW (λa=>xdt f a r) j
def GV{α:Type}{e:zV α}{z0 z:α}{bytes:K}{a:wN}{parts:xS (K×v6)}{vs:xS (K×wN)}{pl:ul (K×K)}(c:QF P t wF e.n bytes a)(hc:e.agg=wF)
 (h:∀(S:K->Prop) (w:wP),e.p S z0 a.cells.toList w) (hd:∃fs,P.underlying t=Z (.struct fs)/\∀w,(fs.mapM (λf=>do pure (f.offset,<-WN f.type)):Sem (ul<|K×K)).run P w=.ok pl w)
 (hv:parts.map (λx=>(x.1,ev env x.2))=vs) (q:xS wN->Prop) (i:∀(S:K->Prop) (w:wP),zE S Γ w->∀cs,cs=a.cells.toList->e.p S z0 cs w->∃out,xdt (pl[·]?) cs.toArray vs=Z out.toArray/\e.p S z out w/\q out):
 MJ P ⟨d,.build t parts.toArray,ty,pos,aft,g⟩ env ms Γ (λv:wN=>v) (λv=>[fV e z v]) (λv=>q v.cells.toList):=by
 intro w S _ _ b;have⟨out,h1,j,k⟩:=i S w b _ O<|h S w;refine uB.of_value (w':=w) (v:=.agg out.toArray) ?_ ⟨_,O,by simpa[xfs]using k,yw.refl _ _,⟨⟨out,by simp[zV.val,hc],j⟩,wS⟩⟩;have⟨fs,l,m⟩:=hd;have o:parts.toArray.map (λx=>(x.1,ev env x.2))=vs.toArray:=by rw[<-hv];simp
 simp only[jP,xay];have r:(Instr.build t<|parts.toArray.map λx=>(x.1,ev env x.2)).run P w=.ok (.agg out.toArray) w:=by
  rw[o];unfold Instr.build;rw[xcX]at h1;simp only[xay,kD c,xag,kw l,m,h1,xaG]
 rw[r];rfl
end
end
section
def Ez(D:K->wW)(i:K):K->wW:=λk=>D k||E k i
def pz(D:K->wW)(i:K):Ez D i i=wF:=by simp[Ez]
def TW{D:K->wW}{i k:K}(h:k≠i):Ez D i k=D k:=by simp[Ez,Yb h]
def ziy{D:K->wW}{i k:K}(h:D k=wF):Ez D i k=wF:=by simp[Ez,h]
section
variable{P:jp}{N:Nd}{we:wP}{Se:wr->Prop}{ms:xS MF}{Γ:xS FF}{Q:Qs}{env0:y8}{l:xS uS}{m:wr}
def zoE{id:K}(m:K)(b:(K->wW)->y8->wP->Prop)(hm:P.follows .mixedOrders=wF)(hc:Wv l m=wF)(hd:(l.all λo=>q8 N.n o.dst)=wF)
 (hN:∀w,St we Se ms Γ w->b (λ_=>I) env0 w)
 (step:∀(D:K->wW) (i:K) (env:y8) (w:wP),i<m->D i=I->(∀j,D j=wF->j<m)->(∀e∈(zZ l i).after,xcv .any e=wF->D e.on=wF)->
  (∀j,D j=wF->∀e∈(zZ l j).after,xcv .any e=wF->D e.on=wF)->b D env w->
  (yW l.toArray env (zZ l i)=wF->uB P (zZ l i) env w (λv w'=>b (Ez D i) (put env (zZ l i).dst v) w'))/\
  (yW l.toArray env (zZ l i)=I->b (Ez D i) (put env (zZ l i).dst uP) w))
 (z:∀(D:K->wW) (env:y8) (w:wP),(∀j,j<m->D j=wF)->(∀j,D j=wF->j<m)->b D env w->WpL P N l.toArray (l.drop m) Q env w):
 T P N we Se ms Γ (.region id l.toArray wF) Q env0:=by
 intro w0 hO a0 hP hQ hR;have⟨h0,h1,h2,h3,hS⟩:=uQ hc;refine wpIn_region_any hm ?_;have p:∀{c:ul wW}{i:K},i<c.size->c.getD i wF=c.getD i I:=λ{c i} h=>by simp[xbl,xcI h]
 have A:∀{c:ul wW}{i:K},c.getD i I=wF->i<c.size:=λ{c i} h=>by
  obtain hp|hge:=xbW i c.size
  ·exact hp
  ·simp[xbl,Array.getElem?_eq_none hge]at h
 have G:∀(d:K) (c:ul wW) (a:Jp) (w:wP),(xaH (X l)).countP (λk=> !c.getD k wF)<=d->c.size=X l->a.tmps.size=N.n->a.defers=N.ds->
  (∀i,m<=i->i<X l->c.getD i wF=I)->
  (∀i,i<X l->c.getD i I=wF->∀e∈(zZ l i).after,xcv .any e=wF->c.getD e.on I=wF)->
  b (λi=>c.getD i I) (yK a) w->UP N.F 0 P .any l.toArray (zcO N Q) d c a w:=by
  intro d
  induction d with
  |zero=>
   intro c a w S B b1 b2 r hl C;have s:∀k,k<X l->c.getD k wF=wF:=λk f=>by
    have U:(xaH (X l)).countP (λk=> !c.getD k wF)=0:=W
    rw[List.countP_eq_zero]at U;have:=U k<|xbe.2 f;simpa using this
   have hY:m=X l:=by
    rcases xbW m (X l) with hp|hge
    ·have E:=r m (Nm _) hp;rw[s m hp]at E;cases E
    ·lia
   refine fE hc 0 m c a w (Nm _) h0 W B (λk f=>by rw[s k f];simp;lia) ?_;exact z _ _ w (λj g=>by rw[<-p W];exact s j W) (λj g=>by have:=A g;lia) C a b1 b2 O
  |succ d ih=>
   intro c a w S B b1 b2 r hl C;by_cases s:∀k,k<m->c.getD k wF=wF
   ·have V:∀k,k<X l->c.getD k wF=decide (k<m):=λk f=>by
     by_cases H:k<m
     ·rw[s k H];simp[H]
     ·rw[r k W f];simp[H]
    refine fE hc (d+1) m c a w (Nm _) h0 (xal ?_ S) B V ?_
    ·rw[show(xaH (X l)).countP (λk=> !c.getD k wF)=(xaH (X l)).countP (λk=> !decide (k<m))from List.countP_congr λk f=>by rw[V k<|xbe.1 f]];exact R5.count_ge m [] m (X l)
    ·refine z _ _ w (λj g=>by rw[<-p W];exact s j g) (λj g=> ?_) C a b1 b2 O;obtain h|h:=xbW j m
     ·exact h
     ·have J:=A g;rw[<-p J,r j h W]at g;cases g
   ·have Y:∃k,k<m/\c.getD k wF=I:=by
     by_cases hh:∃k,k<m/\c.getD k wF=I
     ·exact hh
     ·exact wR (λk f=>by
       cases q:c.getD k wF
       ·exact wR ⟨k,f,q⟩ hh
       ·rfl) s
    refine⟨λhr=> ?_,λi hi=> ?_⟩
    ·exfalso;have⟨k,f,L,hH⟩:=R5.first_un m [] Y;have:k∈xea .any l.toArray c:=mem_ready.2 ⟨L,zZ l k,ZR W,λe x q=>by
      have E:=h1 k W e x q;have t:=hH e.on E;rwa[p (by lia:e.on<c.size)]at t⟩
     rw[hr]at this;cases this
    ·have⟨hu,o,M,hn⟩:=mem_ready.1 hi;have u:i<X l:=by simpa using(xbi.1 M).1
     rw[ZR u]at M;cases M;have hT:i<m:=by
      obtain h|h:=xbW i m
      ·exact h
      ·exfalso;by_cases hJ:m=i
       ·subst hJ;have⟨k,f,L⟩:=Y;have t:=aj hl h1 16 m k u hn<|hS u k f;rw[<-p (by lia:k<c.size),L]at t;cases t
       ·have⟨e,x,q,hU⟩:=ua<|h3 i W u;have t:=hn e x q;rw[hU,<-p (by lia:i-1<c.size),r (i-1) W W]at t;cases t
     have R:i<c.size:=W
     have hV:q8 N.n (zZ l i).dst=wF:=by
      rw[xaN]at hd;refine hd _ ?_;have:zZ l i=l[i]:=by simp[zZ,u]
      rw[this];exact xbE _
     have hA:∀j,(λi=>c.getD i I) j=wF->j<m:=λj g=>by
      obtain h|h:=xbW j m
      ·exact h
      ·have J:=A g;have hK:c.getD j I=wF:=g;rw[<-p J,r j h W]at hK;cases hK
     have hs:=step (λi=>c.getD i I) i (yK a) w hT (by rw[<-p R];exact hu) hA hn (λj g=>hl j (by have:=hA j g;lia) g) C;have hL:(λk=>(c.setIfInBounds i wF).getD k I)=Ez (λi=>c.getD i I) i:=by
      funext k;by_cases y:i=k
      ·subst y;rw[pz];simp[R]
      ·rw[Wt I y,TW<|λe=>y e.symm]
     have next:∀v w',b (Ez (λi=>c.getD i I) i) (put (yK a) (zZ l i).dst v) w'->UP N.F 0 P .any l.toArray (zcO N Q) d (c.setIfInBounds i wF) (a.put (zZ l i).dst v) w':=by
      intro v w' hv;refine ih _ _ w' ?_ (by simpa using B) (by rw[K5];exact b1) (by rw[XT];exact b2) (λk hW f=> ?_) (λk f hM e x q=> ?_) ?_
      ·have:=(sn R hu<|xaH (X l)).2<|xbe.2 u;lia
      ·rw[Wt wF W];exact r k hW f
      ·by_cases y:i=k
       ·subst y;exact KW<|hn e x q
       ·rw[Wt I y]at hM;exact KW<|hl k f hM e x q
      ·rw[XF (by rw[b1];exact Ui hV),hL];exact hv
     unfold wpOpIn;rw[ZR u];simp only[QH];cases hB:yW l.toArray (yK a) (zZ l i)
     ·simp only[xak,ut];exact⟨λ_ _=>wS,next undef w (hs.2 hB)⟩
     ·simp only[uL];exact(hs.1 hB).wp λv w' hX=>next v w' hX
 refine G l.toArray.size _ a0 _ ?_ gT hP hQ (λi hJ hi=>by simp[hi]) (λi hi hp=> ?_) ?_
 ·exact xal (List.countP_le_length) gT
 ·have:=A hp;rw[<-p this]at hp;simp[hi]at hp
 ·have hf:(λi=>(xeA l.toArray.size I).getD i I)=λ_=>I:=by
   funext i;simp only[xbl,Array.getElem?_replicate];split<;>rfl
  rw[hf,hR];exact hN _<|hO.ext<|KD.drawn w0 _
end
end
section
def ZE{S:K->Prop}{w:wP}:∀{ms:N MF},yL S ms w↔∀m∈ms,m.p S w
 |[]=>⟨λ_ m h=>wR h IR,λ_=>wS⟩
 |m::r=>by
  have a:=ZE (S:=S) (w:=w) (ms:=r);constructor
  ·intro h x hx;obtain rfl|hx:=xaa.1 hx
   ·exact h.1
   ·exact a.1 h.2 x hx
  ·intro h;exact⟨h m<|FS,a.2 λx hx=>h x<|UV _ hx⟩
def Ef:∀{ms:N MF},VU ms↔ms.Pairwise (λm m'=>∀k,m.blk k->¬m'.blk k)
 |[]=>⟨λ_=>xft,λ_=>wS⟩
 |m::r=>by
  rw[xbQ];have c:=Ef (ms:=r);exact⟨λh=>⟨λm' a k b=>h.1 k b m' a,c.1 h.2⟩,λh=>⟨λk b m' a=>h.1 m' a k b,c.2 h.2⟩⟩
def St.perm{we:wP}{Se:K->Prop}{ms a:N MF}{Γ:N FF}{w:wP}(h:St we Se ms Γ w)(hp:ms.Perm a):St we Se a Γ w:=by
 have⟨h1,c,d,S,e,f,g,i,j⟩:=h;refine⟨h1,c,Ef.2<|(hp.pairwise_iff λ{x y} l k n hc=>l k hc n).1<|Ef.1 d,S,e,f,λm b=>g m<|hp.mem_iff.2 b,ZE.2 λm b=>ZE.1 i m<|hp.mem_iff.2 b,j⟩
def zhe:wN->V K
 |.pointer (Z ⟨b,_,_⟩)=>Z b
 |_=>wL
def mP{α:Type}(e:sS α)(E:wT)(v:wN)(z:α):MF where
 blk k:=zhe v=Z k
 p S w:=∃b,v=.pointer (Z ⟨b,0,wL⟩)/\(mB e E b z).p S w
 keep:=λ⟨b,h1,a⟩ k d=>⟨b,h1,(mB e E b z).keep a k λi hi=>d i<|by rw[h1];exact hi⟩
 sub:=λ⟨b,h1,a⟩ k=>⟨b,h1,(mB e E b z).sub a k⟩
 lt:=λ⟨b,h1,a⟩ k c=>(mB e E b z).lt a k<|by rw[h1]at c;exact c
def St.openP{α:Type}{e:sS α}{E:wT}{v:wN}{z:α}{we:wP}{Se:K->Prop}{ms:N MF}{Γ:N FF}{w:wP}(i:K)(h:St we Se ms Γ w)(a:ms[i]? =Z (mP e E v z)):
 ∃b,v=.pointer (Z ⟨b,0,wL⟩)/\St we Se (ms.set i<|mB e E b z) Γ w:=by
 have⟨S,hp,_⟩:=h.muts a;have⟨b,hv,_⟩:=hp;subst hv;exact⟨b,O,h.conv a O λS ⟨d,h1,c⟩=>by cases h1;exact c⟩
def St.toP{α:Type}{e:sS α}{E:wT}{b:K}{z:α}{we:wP}{Se:K->Prop}{ms:N MF}{Γ:N FF}{w:wP}(i:K)(h:St we Se ms Γ w)(a:ms[i]? =Z (mB e E b z)):
 St we Se (ms.set i<|mP e E (.pointer<|some ⟨b,0,wL⟩) z) Γ w:=h.conv a O λS h=>⟨b,O,h⟩
def TN{K:N (Z9×Pr)}{env0 env:y8}{S:wr->Prop}{w w':wP}{t:Z9}(h:Yx K env0 env S w t)(k:yw S w w'):Yx K env0 env S w' t:=by grind [Yx,Pr.keepS,E]
def zcV{K:N (Z9×Pr)}{env0 env:y8}{S a:wr->Prop}{w:wP}{t:Z9}(h:Yx K env0 env S w t)(k:∀k,k<w.heap.size->S k->a k):Yx K env0 env a w t:=by grind [Yx,Pr.sub,E]
def zd3(K:N (Z9×Pr))(env0 env:y8)(ts:N Z9):FF where
 p S w:=VR K env0 env S w ts
 keep:=λ{S w w'} h k=>by
  induction ts with
  |nil=>trivial
  |cons t ts a=>exact⟨TN h.1 k,a h.2⟩
 sub:=λ{S b w} h k=>by
  induction ts with
  |nil=>trivial
  |cons t ts a=>exact⟨zcV h.1 k,a h.2⟩
structure Res where
 a:V K
 t:Z9
 w:V K
 mf:wW->wN->MF
def Res.done(r:Res)(D:K->wW):wW:=match r.w with
 |some i=>D i
 |none=>I
def Res.here(r:Res)(D:K->wW):wW:=match r.a with
 |some i=>D i
 |none=>wF
def av(rs:N Res)(D:K->wW)(env:y8):N MF:=rs.filterMap λr=>bif r.here D then Z (r.mf (r.done D)<|env r.t)else wL
def zq4(l:N uS)(i j:K):wW:=match(zZ l i).dst with
 |some t=>(zZ l j).dst==Z t
 |none=>I
section
variable{P:jp}{N:Nd}{we:wP}{Se:wr->Prop}{ms:xS MF}{Γ:xS FF}{Q:Qs}{env0:y8}{l:xS uS}{m:wr}
def N9(L:xS (uS×Pr))(D:K->wW)(env:y8):FF where
 p S w:=∀i x t,D i=wF->L[i]? =Z x->x.1.dst=Z t->x.2.p S (env t) w
 keep:=λh k i x t h1 a b=>x.2.keepS (h i x t h1 a b) k
 sub:=λh k i x t h1 a b=>x.2.sub (h i x t h1 a b) k
end
section
variable{P:jp}{N:Nd}{we:wP}{Se:wr->Prop}{ms:xS MF}{Γ:xS FF}{env:y8}{d:ww Z9}{ty t:wT}{pos:String}{aft:ul Edge}{g:ww (wr×wW)}
def zhr{α:Type}{e:zV α}{c:wT}{zs:xS α}{len bytes:K}{a:wN}{parts:xS (K×v6)}{vs:xS (K×wN)}(m:P.underlying t=Z (.slice c))(hd:QF P c e.agg e.n bytes a)
 (hn:0<e.n) (hc:X zs=len) (z:len*e.n<=16777216) (hv:parts.map (λx=>(x.1,ev env x.2))=vs)
 (o:∀(S:K->Prop) (w:wP),zE S Γ w->U1 (λi=>Z (i*e.n,e.n)) vs 0) (hp:∀(S:K->Prop) (w:wP),zE S Γ w->yJ e S zs (qU vs) w):
 OG P ⟨d,.buildSlice t len parts.toArray,ty,pos,aft,g⟩ env we Se ms Γ (λv:wN=>v) (λv=>mO e c v zs::ms) (λ_=>Γ) (λ_=>XS):=by
 intro w h;have⟨S0,A,b⟩:=h.ex;have hi:=hp S0 w b;have hl:X (qU vs)=len*e.n:=by rw[hi.len,hc]
 have B:len<=9223372036854775807:=by have:len<=len*e.n:=xcf _ hn;lia
 refine uB.of_value (w':=w.alloc (.cells (qU vs).toArray c)) (v:=.slice (Z ⟨w.heap.size,0,wL⟩) len len) ?_ ⟨_,O,wS,?_⟩
 ·have p:parts.toArray.map (λx=>(x.1,ev env x.2))=vs.toArray:=by rw[<-hv];simp
  have j:xdt (λi=>Z (i*e.n,e.n)) ((xeV<|len*e.n).map (a.cells[·%a.cells.size]!)) vs=Z (qU vs).toArray:=by
   have:=mF vs [] ((xeV<|len*e.n).map (a.cells[·%a.cells.size]!)).toList (o S0 w b) (by simp[hl]);rw[xby,xcX,xby,xcd (by simp[hl]),xbP]at this;exact this
  have q:(xew t len<|parts.toArray.map λx=>(x.1,ev env x.2)).run P w=.ok (.slice (Z ⟨w.heap.size,0,wL⟩) len len) (w.alloc (.cells (qU vs).toArray c)):=by
   rw[p];unfold xew;simp only[xay,kw m,xag,wh hd,ir (W:¬len*e.n>2^24),aC];by_cases h0:len*e.n=0
   ·have C:qU vs=[]:=xbm (by rw[hl,h0]);have r:xdt (λi=>Z (i*e.n,e.n)) ((xeV 0).map ((#[]:ul wN)[·%(#[]:ul wN).size]!)) vs=Z (qU vs).toArray:=by
     have l:∀f:K->wN,(xeV 0).map f= #[]:=λf=>by simp
     rw[<-j,h0,l,l]
    simp only[h0,uL];simp only[r,xay,WD,xag,xaG]
   ·simp only[ir h0,xay,kD hd,xag,xaG,j,WD]
  simp only[jP,xay,q,xag,xaG]
 ·have s:St we Se (mR e c w.heap.size zs::ms) Γ (w.alloc (.cells (qU vs).toArray c)):=by
   refine h.fresh (KD.alloc w _) O gT ?_;intro S D b;refine⟨_,WF w _,?_⟩;exact((hp S w b).sub λk u y=>⟨y,Nat.ne_of_lt u⟩).keep (KD.alloc w _).to
  exact zix (n:=len) 0 s O hc.symm W
end
def zkl{P:jp}{env:y8}{d:V Z9}{ty t:wT}{pos:String}{aft:ul Edge}{g:V (K×wW)}{x:v6}{b:wW}(h:ev env x=.bool b)(w:wP):
 (jP (ev env) ⟨d,.unOp .not t x,ty,pos,aft,g⟩).run P w=.ok (.value (.bool !b)) w:=dW (by show(match ev env x with|xey t=>Z (xey !t)|_=>wL)=_;rw[h]) w
abbrev iv(x:J):wN:=.int .i64 x
abbrev uv(x:K):wN:=.int .u64 (x:J)
def nz{p:Prop}(h:wF=I):p:=by cases h
def pvL(N:K)(b:ul uS):xS uS->y8->xS (K×wN)->V (xS<|K×wN)
 |[],_,a=>Z a
 |o::r,env,a=>match o.dst with
  |some d=>bif q8 N (Z d)then(bif yW b (L a env) o then(match pv o (L a env)with
   |some v=>pvL N b r env ((d,v)::a)
   |none=>wL)else(match o.guard with
   |some (j,c)=>bif gd b (L a env) j==Z (!c)then pvL N b r env ((d,uP)::a)else wL
   |none=>wL))else wL
  |none=>wL
def Ih{N:K}{c:ul uS}:∀(l:xS uS) (env:y8) (b a:xS (K×wN)),pvL N c l env b=Z a->s9 N c l (L b env)=Z (L a env)
 |[],env,b,a,h=>by cases h;rfl
 |o::r,env,b,a,h=>by
  unfold pvL at h;unfold s9
  cases hd:o.dst with
  |none=>rw[hd]at h;cases h
  |some d=>
   rw[hd]at h;simp only at h;cases g:q8 N (Z d)
   ·rw[g]at h;cases h
   ·rw[g]at h;simp only[Z0]at h⊢;cases i:yW c (L b env) o
    ·rw[i]at h;simp only[Z2]at h⊢;split at h
     ·next j e k=>
      cases f:(gd c (L b env) j==Z (!e))
      ·rw[f]at h;cases h
      ·rw[f]at h;simp only[k,f,Z0]at h⊢;exact Ih r env _ a h
     ·cases h
    ·rw[i]at h;simp only[Z0]at h⊢
     cases hp:pv o (L b env)with
     |none=>rw[hp]at h;cases h
     |some v=>rw[hp]at h;exact Ih r env _ a h
def YN{P:jp}{N:Nd}{we:wP}{Se:K->Prop}{ms:xS MF}{Γ:xS FF}{Q:Qs}{b:ul uS}(n:K)(a:xS (K×wN)){l:xS uS}{env:y8}
 (h:pvL N.n b (l.take n) env []=Z a) (k:TL P N we Se ms Γ b (l.drop n) Q (L a env)):TL P N we Se ms Γ b l Q env:=by
 rw[<-xbv n l];exact UM _ _ _ _ (Ih _ env [] a h) k
def cpy{α:Type}(xs ys:N α):N α:=xdB (min (X ys) (X xs)) ys++xdM (min (X ys) (X xs)) xs
def gW{α:Type}(lo n:K)(xs ys:N α):N α:=xdB lo xs++xdB (min (X ys) n) ys++xdM (lo+min (X ys) n) xs
end
def z2(S:K->Prop)(w:wP):(eI).p S 0 (xfs (.int .i64 0)).toList w:=⟨O,gS,gS⟩
def z3(S:K->Prop)(w:wP):(eI).p S 0 (xfs (.int .i64 0)).toList w:=⟨O,gS,gS⟩
def z4(S:K->Prop)(w:wP):(PO).p S I (xfs (.bool I)).toList w:=O
def zom:QF Tryz.prog 73 I 1 8 (.int .u64 0):=QF.of g8
section
open Go.ChangeShapes Go.WideShapes Go.ChangeAt Go.RowKit
variable{W W':wP}
def PR(a:KD W W')(b:Kw->Prop):W.keptBut W' b:=by
 refine⟨a.os,a.output,λi hi=> ?_⟩;rw[a.block i hi wS]
 cases h:W.heap[i]? with
 |none=>rfl
 |some o=>cases o<;>simp
def zex{H:Type}{enc:wT×wN->H}{P:jp}{f:QR}{s:ChangeSpec}{c d i:wW}{args:ul wN}{v:wN}{ds e:N (fN H)}{a pa pv:N Kw}(g:DataW.Whole enc P f.params.toList s.vars c W args.toList ds e a)(j:∀(b:K) (sp:K->wW) (hd:wW),xeK enc P W' b sp hd f.resultTypes.toList (v.resultList f.resultTypes.size) (s.fn H<|ds++e).results [])(hc:∀sp:K->wW,(∀p∈a,sp p.block=wF)->xeK enc P W' 0 sp wF f.params.toList args.toList (s.fn H<|ds++e).args pa)(k:∀sp:K->wW,(∀p∈a,sp p.block=wF)->DataW.TrodVars enc P W' sp s.vars (s.fn H<|ds++e).vars pv)(m:a=pa++pv)(l:KD W W'):s.post enc P f c d i I W args v W':=
 ⟨ds,e,a,[],pa,pv,g,j _ _ _,hc _ (λp hp=>by simpa using g.lt p hp),k _ (λp hp=>by simpa using g.lt p hp),PR l _,λh=>by cases h⟩
end
section
def DJ{S:K->Prop}{w:wP}:∀{A B:N MF},yL S (A++B) w↔yL S A w/\yL S B w
 |[],_=>⟨λh=>⟨wS,h⟩,λh=>h.2⟩
 |a::A,B=>by
  have b:=DJ (S:=S) (w:=w) (A:=A) (B:=B);exact⟨λh=>⟨⟨h.1,(b.1 h.2).1⟩,(b.1 h.2).2⟩,λh=>⟨h.1.1,b.2 ⟨h.1.2,h.2⟩⟩⟩
def sV:∀{A B:N MF},VU (A++B)↔VU A/\VU B/\∀m∈A,∀k,m.blk k->∀m'∈B,¬m'.blk k
 |[],B=>⟨λh=>⟨wS,h,λm hm=>wR hm IR⟩,λh=>h.2.1⟩
 |a::A,B=>by
  have e:=sV (A:=A) (B:=B);constructor
  ·intro h;have⟨h1,c,d⟩:=e.1 h.2;refine⟨⟨λk b m' hm'=>h.1 k b m'<|So.2 (.inl hm'),h1⟩,c,λm hm k b m' hm'=> ?_⟩;obtain rfl|hm:=xaa.1 hm
   ·exact h.1 k b m'<|So.2 (.inr hm')
   ·exact d m hm k b m' hm'
  ·rintro⟨⟨h1,c⟩,d,f⟩;refine⟨λk b m' hm'=> ?_,e.2 ⟨c,d,λm hm=>f m<|UV _ hm⟩⟩;obtain hm'|hm':=So.1 hm'
   ·exact h1 k b m' hm'
   ·exact f a (FS) k b m' hm'
def Dy(G:N MF):MF where
 blk k:=∃m∈G,m.blk k
 p S w:=yL S G w/\VU G
 keep:=λh k b=>⟨yL.keep k (λm a i hi=>b i ⟨m,a,hi⟩) h.1,h.2⟩
 sub:=λh k=>⟨yL.sub k h.1,h.2⟩
 lt:=λh k ⟨m,a,c⟩=>yL.lt h.1 m a k c
def St.grp{we:wP}{Se:K->Prop}{G ms:N MF}{Γ:N FF}{w:wP}:St we Se (Dy G::ms) Γ w↔St we Se (G++ms) Γ w:=by
 constructor
 ·rintro⟨h1,e,d,S,f,g,b,c,h⟩;refine⟨h1,e,sV.2 ⟨c.1.2,d.2,λm hm k a m' i=>d.1 k ⟨m,hm,a⟩ m' i⟩,S,f,g,λm hm k a=> ?_,DJ.2 ⟨c.1.1,c.2⟩,h⟩;obtain hm|hm:=So.1 hm
  ·exact b (Dy G) (FS) k ⟨m,hm,a⟩
  ·exact b m (UV _ hm) k a
 ·rintro⟨h1,e,d,S,f,g,b,c,h⟩;have⟨j,l,a3⟩:=sV.1 d;have⟨n,o⟩:=DJ.1 c;refine⟨h1,e,⟨λk a m' i=>by have⟨m,hm,a⟩:=a;exact a3 m hm k a m' i,l⟩,S,f,g,λm hm k a=> ?_,⟨⟨n,j⟩,o⟩,h⟩;obtain rfl|hm:=xaa.1 hm
  ·have⟨m,hm,a⟩:=a;exact b m (So.2 (.inl hm)) k a
  ·exact b m (So.2 (.inr hm)) k a
def ZM(hv:N wN):zV K where
 n:=1
 agg:=I
 n1 _:=O
 p _ r cs _:=∃u,hv[r]? =Z u/\u.oneCell'=wF/\cs=[u]
 len:=by rintro _ _ _ _ ⟨u,_,_,rfl⟩;rfl
 one:=by rintro _ _ _ _ ⟨u,_,a,rfl⟩ c hc;rw[xad]at hc;subst hc;exact a
 keep h _:=h
 sub h _:=h
def zaC{hv:N wN}{r:K}{u:wN}{S:K->Prop}{w:wP}(h:hv[r]? =Z u)(h1:u.oneCell'=wF):(fV (ZM hv) r u).p S w:=⟨[u],O,u,h,h1,O⟩
def ze4{hv:N wN}{r:K}{v:wN}{S:K->Prop}{w:wP}(h:(fV (ZM hv) r v).p S w):hv[r]? =Z v:=by
 obtain⟨cs,rfl,u,h1,_,rfl⟩:=h;exact h1
def Rf{hv b:N wN}{S:K->Prop}{w:wP}:∀{ix:N K}{cs:N wN},yJ (ZM hv) S ix cs w->yJ (ZM<|hv++b) S ix cs w
 |[],_,h=>h
 |r::ix,cs,⟨c,q,h1,⟨u,a,d,e⟩,f⟩=>⟨c,q,h1,⟨u,by rw[xaR (xaq.1 a).1];exact a,d,e⟩,Rf f⟩
def za9{hv a:N wN}{E:wT}{v:wN}{ix:N K}{S:K->Prop}{w:wP}(h:(mO (ZM hv) E v ix).p S w):(mO (ZM<|hv++a) E v ix).p S w:=by
 have⟨cs,h1,b⟩:=h;exact⟨cs,h1,Rf b⟩
def vb{α:Type}(e:zV α)(E:wT):N wN->N (N α)->N MF
 |u::hv,xs::xss=>mO e E u xs::vb e E hv xss
 |_,_=>[]
theorem QC{α:Type}{e:zV α}{E:wT}:∀{hv:N wN}{xss:N (N α)}{r:K}{u:wN}{xs:N α},hv[r]? =Z u->xss[r]? =Z xs->(vb e E hv xss)[r]? =Z (mO e E u xs)
 |u'::hv,b::xss,0,u,xs,h1,a=>by
  simp only[xbB,xar]at h1 a;subst h1;subst a;rfl
 |u'::hv,b::xss,r+1,u,xs,h1,a=>QC (hv:=hv) (xss:=xss) (r:=r) (by simpa using h1)<|by simpa using a
 |[],_,r,_,_,h1,_=>by simp at h1
 |_::_,[],r,_,_,_,a=>by simp at a
def FX{α:Type}{e:zV α}{E:wT}:∀{hv:N wN}{xss:N (N α)}{r:K}{u:wN}{ys:N α},hv[r]? =Z u->(vb e E hv xss).set r (mO e E u ys)=vb e E hv (xss.set r ys)
 |u'::hv,a::xss,0,u,ys,h1=>by
  simp only[xbB,xar]at h1;subst h1;rfl
 |u'::hv,a::xss,r+1,u,ys,h1=>by
  show mO e E u' a::(vb e E hv xss).set r (mO e E u ys)=mO e E u' a::vb e E hv (xss.set r ys);rw[FX<|by simpa using h1]
 |[],_,r,_,_,h1=>by simp at h1
 |u'::hv,[],r,u,ys,h1=>by cases r<;>rfl
def DF{α:Type}{e:zV α}{E:wT}{u:wN}{xs:N α}:∀{hv:N wN}{xss:N (N α)},X hv=X xss->vb e E (hv++[u]) (xss++[xs])=vb e E hv xss++[mO e E u xs]
 |[],[],_=>rfl
 |u'::hv,a::xss,h=>by
  show mO e E u' a::vb e E (hv++[u]) (xss++[xs])=_;rw[DF<|by simpa using h];rfl
 |[],_::_,h=>by cases h
 |_::_,[],h=>by cases h
def zdS{α:Type}(e:zV α)(E E1:wT)(v:wN)(hv:N wN)(xss:N (N α))(ix:N K):MF:=Dy (mO (ZM hv) E v ix::vb e E1 hv xss)
section
variable{α:Type}{e:zV α}{E E1:wT}{v:wN}{hv:xS wN}{xss:xS (xS α)}{ix:xS wr}{we:wP}{Se:wr->Prop}{ms:xS MF}{Γ:xS FF}{w:wP}
theorem zjM{r:K}{u:wN}{xs:N α}(h1:hv[r]? =Z u)(a:xss[r]? =Z xs)(ms:N MF):((mO (ZM hv) E v ix::vb e E1 hv xss)++ms)[r+1]? =Z (mO e E1 u xs):=by grind [QC,xaR,xaq]
def PX{r:K}{u:wN}{ys:N α}(h1:hv[r]? =Z u)(a:r<X xss)(hl:X hv=X xss)(ms:N MF):((mO (ZM hv) E v ix::vb e E1 hv xss)++ms).set (r+1) (mO e E1 u ys)=(mO (ZM hv) E v ix::vb e E1 hv (xss.set r ys))++ms:=by
 have b:xss[r]? =Z xss[r]:=xah a;have h:=QC (e:=e) (E:=E1) h1 b;have c:=(xaq.1 h).1;rw[xeN _ _ (by simpa using c),xfg,FX h1]
def St.adopt{u:wN}{ys:N α}(hl:X hv=X xss)(h:St we Se (zdS e E E1 v hv xss ix::mO e E1 u ys::ms) Γ w):St we Se (zdS e E E1 v (hv++[u]) (xss++[ys]) ix::ms) Γ w:=by
 have h1:=St.grp.1 h;have a:St we Se ((mO (ZM hv) E v ix::vb e E1 (hv++[u]) (xss++[ys]))++ms) Γ w:=by
  rw[DF hl];refine h1.perm ?_;simp only[xbF,xaf,xfD,xby];exact xdy _
 have b:=a.conv (i:=0) (m:=mO (ZM hv) E v ix) (m':=mO (ZM<|hv++[u]) E v ix) O O λS hp=>za9 hp;exact St.grp.2 b
def zgr{S a:K->Prop}(c:∀k,S k->a k)(d:∀m∈vb e E1 hv xss,∀k,m.blk k->a k)(h:yL S (vb e E1 hv xss) w){r:K}{u:wN}{xs:N α}(h1:hv[r]? =Z u)(b:xss[r]? =Z xs):(fV (eS e) xs u).p a w:=
 o5 c (λk f=>d _ (xbq<|QC h1 b) k f) (yL.get h<|QC h1 b)
def rP{S a:K->Prop}(hl:X hv=X xss)(b:∀k,S k->a k)(d:∀m∈vb e E1 hv xss,∀k,m.blk k->a k)(h:yL S (vb e E1 hv xss) w):∀{ix:N K}{cs:N wN},yJ (ZM hv) S ix cs w->yJ (eS e) a (ix.map λr=>xss.getD r []) cs w
 |[],_,h=>h
 |r::ix,cs,⟨c,q,h1,⟨u,f,l,g⟩,i⟩=>by
  have n:=(xaq.1 f).1;have j:xss[r]? =Z (xss.getD r []):=by rw[H1,xah W];rfl
  exact⟨c,q,h1,⟨u,g,xK.1<|zgr b d h f j⟩,rP hl b d h i⟩
def St.mat_frz(hl:X hv=X xss)(h:St we Se (zdS e E E1 v hv xss ix::ms) Γ w):St we Se ms (fV (eS<|eS e) (ix.map λr=>xss.getD r []) v::Γ) w:=by
 refine h.freeze (i:=0) (m:=zdS e E E1 v hv xss ix) O λS b d c hp=> ?_;have⟨⟨⟨cs,h1,f⟩,g⟩,_⟩:=hp;have j:∀m∈vb e E1 hv xss,∀k,m.blk k->b k:=λm l k a=>c k ⟨m,UV _ l,a⟩;have n:(mO (eS e) E v<|ix.map λr=>xss.getD r []).p b w:=⟨cs,by rw[xbd];exact h1,rP hl d j g f⟩;exact o5 (λk a=>a) (λk a=>c k ⟨_,FS,a⟩) n
end
def mPr(p:Prop):MF where
 blk _:=V6
 p _ _:=p
 keep h _ _:=h
 sub h _:=h
 lt _ _ a:=a.elim
def yA:wN->wN
 |.tuple us=>us.toList.headD uP
 |_=>uP
def xM:wN->N wN
 |.tuple us=>us.toList.tail
 |_=>[]
def K9(v:wN)(hv:N wN):wN:=.tuple (v::hv).toArray
def th{α:Type}(e:zV α)(E E1:wT)(u:wN)(xss:N (N α))(ix:N K):MF:=Dy (mPr (X (xM u)=X xss)::mO (ZM<|xM u) E (yA u) ix::vb e E1 (xM u) xss)
def mBo{α:Type}(e:zV α)(E a:wT)(u:wN)(xs:N α):MF:=Dy [mPr<|X (xM u)=1,mP (ZM<|xM u).c a (yA u) 0,mO e E ((xM u).headD uP) xs]
def mHo(a:wT)(u:wN):MF:=Dy [mPr<|X (xM u)=1,mP (ZM<|xM u).c a (yA u) 0]
end
section
def oP{α:Type}(e:zV α)(S:K->Prop):V α->N wN->wP->Prop
 |none,cs,_=>cs=[.pointer wL]
 |some y,cs,w=>∃v,cs=[v]/\(fP e y v).p S w
def eO{α:Type}(e:zV α):zV (V α)where
 n:=1
 agg:=I
 n1 _:=O
 p S x cs w:=oP e S x cs w
 len:=by
  intro S x cs w h
  cases x with
  |none=>rw[show cs=_ from h];rfl
  |some y=>obtain⟨v,rfl,_⟩:=h;rfl
 one:=by
  intro S x cs w h c hc
  cases x with
  |none=>rw[show cs=_ from h]at hc;rw[xad.1 hc];rfl
  |some y=>obtain⟨v,rfl,b,o,d,rfl,_⟩:=h;rw[xad.1 hc];rfl
 keep:=by
  intro S x cs w w' h k
  cases x with
  |none=>exact h
  |some y=>have⟨v,h1,a⟩:=h;exact⟨v,h1,(fP e y v).keep a k⟩
 sub:=by
  intro S f x cs w h k
  cases x with
  |none=>exact h
  |some y=>have⟨v,h1,a⟩:=h;exact⟨v,h1,(fP e y v).sub a k⟩
section
variable{α:Type}{e:zV α}{S:wr->Prop}{w:wP}{v:wN}
def znO(h:(fV (eO e) wL v).p S w):v=.pointer wL:=by
 obtain⟨cs,rfl,h⟩:=h;rw[show cs=_ from h];rfl
def znN:(fV (eO e) wL (.pointer wL)).p S w:=⟨[.pointer wL],O,O⟩
def zfY{y:α}(h:(fV (eO e) (Z y) v).p S w):(fP e y v).p S w:=by
 obtain⟨cs,rfl,v,rfl,h⟩:=h;exact h
def znp{y:α}(h:(fP e y v).p S w):(fV (eO e) (Z y) v).p S w:=⟨[v],O,v,O,h⟩
def zk3{x:V α}(h:(fV (eO e) x v).p S w):∃p,v=.pointer p/\p.isNone=x.isNone:=by
 cases x with
 |none=>exact⟨_,znO h,O⟩
 |some y=>have⟨b,o,cs,h1,_⟩:=zfY h;exact⟨_,h1,O⟩
end
def eW{α:Type}(e:zV α):zV α where
 n:=e.n
 agg:=wF
 n1 h:=by cases h
 p:=e.p
 len:=e.len
 one:=e.one
 keep:=e.keep
 sub:=e.sub
def Sub.wrap{α:Type}(e:zV α)(x:α):Sub (eW e).c x 0 e x id:=λS w cs h=>Sub.self e x S w cs h
def aX{α:Type}(e:zV α)(off:K)(nl:α->α)(hv:N wN):sS (α×K)where
 p S z cs w:=∃u,hv[z.2]? =Z u/\u.oneCell'=wF/\cs[off]? =Z u/\e.p S (nl z.1) (cs.set off (.slice wL 0 0)) w
 keep:=λ⟨u,h1,a,b,c⟩ k=>⟨u,h1,a,b,e.keep c k⟩
 sub:=λ⟨u,h1,a,b,c⟩ k=>⟨u,h1,a,b,e.sub c k⟩
def mVr{α β:Type}(q:Prop)(e:zV α)(E off:K)(nl:α->α)(s:zV β)(E1:wT)(u:wN)(z:α)(xs:N β):MF:=Dy [mPr<|X (xM u)=1/\q,mP (aX e off nl<|xM u) E (yA u) (z,0),mO s E1 ((xM u).headD uP) xs]
def mVh{α:Type}(q:Prop)(e:zV α)(E off:K)(nl:α->α)(u:wN)(z:α):MF:=Dy [mPr<|X (xM u)=1/\q,mP (aX e off nl<|xM u) E (yA u) (z,0)]
def eRw(n:K)(ag:wW)(hn:ag=I->n=1):zV (V<|N wN)where
 n:=n
 agg:=ag
 n1:=hn
 p _ x cs _:=X cs=n/\(∀c∈cs,c.oneCell'=wF)/\∀l,x=Z l->cs=l
 len h:=h.1
 one h:=h.2.1
 keep h _:=h
 sub h _:=h
section
variable{α β γ:Type}{e:zV α}{s:zV β}{g:zV γ}{off o:wr}{nl:α->α}{hv hv':xS wN}{S:wr->Prop}{w:wP}{cs:xS wN}
def zmS{z:α×K}(h:(aX e off nl hv).p S z cs w):(eRw e.n e.agg e.n1).p S wL cs w:=by
 have⟨u,h1,d,f,b⟩:=h;have hl:=e.len b;rw[xbC]at hl;refine⟨hl,λc hc=> ?_,λl hl=>by cases hl⟩;have⟨k,a⟩:=xfE.1 hc;by_cases e1:k=off
 ·subst e1;rw[f]at a;cases a;exact d
 ·refine e.one b c<|xfE.2 ⟨k,?_⟩;rw[List.getElem?_set_ne<|Ne.symm e1];exact a
def zlW{x:α}{v:wN}(h:(fV e x v).p S w):(fV (eRw e.n e.agg e.n1) (Z v.cells.toList) v).p S w:=by
 have h1:=uY h;obtain⟨cs,rfl,a⟩:=h;refine⟨cs,O,e.len a,e.one a,λl hl=> ?_⟩;cases hl;exact(e.val_cells a).symm
def zi4{z:α×K}(h:(aX e off nl hv).p S z cs w):(aX e off nl<|hv++hv').p S z cs w:=by
 have⟨u,h1,a⟩:=h;exact⟨u,by rw[xaR (xaq.1 h1).1];exact h1,a⟩
def zoD{z:α}{r a:K}(b:hv[r]? =hv'[a]?)(h:(aX e off nl hv).p S (z,r) cs w):(aX e off nl hv').p S (z,a) cs w:=by
 have⟨u,h1,c⟩:=h;exact⟨u,b▸h1,c⟩
def Sub.hole{z:α}{r:K}:Sub (aX e off nl hv) (z,r) off (ZM hv) r (λa=>(z,a)):=by
 rintro S w cs ⟨u,h1,c,d,f⟩;have⟨h,i⟩:=xaq.1 d;refine⟨cs.take off,[u],cs.drop<|off+1,?_,by rw[xax];lia,⟨u,h1,c,O⟩,?_⟩
 ·rw[<-i];simp
 ·rintro w' a n k ⟨b,j,l,rfl⟩;have hl:X (cs.take off)=off:=by rw[xax];lia
  refine⟨b,j,l,?_,?_⟩
  ·rw[xaf,xbj W,hl];simp
  ·have e1:(cs.take off++[b]++cs.drop (off+1)).set off (.slice wL 0 0)=cs.set off (.slice wL 0 0):=by
    have m:cs.set off (.slice wL 0 0)=cs.take off++ .slice wL 0 0::cs.drop (off+1):=by rw[xdZ,iq h]
    rw[m,xaf,xdD _ _ W,hl,xcQ];rfl
   rw[e1];exact e.keep f k
def Sub.other{z:α}{r:K}{y:γ}{up:γ->α}(h:Sub e.c (nl z) o g y λy=>nl<|up y)(hd:o+g.n<=off\/off+1<=o):Sub (aX e off nl hv) (z,r) o g y (λy=>(up y,r)):=by
 rintro S w cs ⟨u,h1,q,B,C⟩;have⟨a,c,b,f,t,m,v⟩:=h S w _ C;have⟨hc,D⟩:=xaq.1 B;have E:=g.len m;have x:cs=(cs.set off (.slice wL 0 0)).set off u:=by rw[List.set_set,<-D,xdk]
 obtain hd|hd:=hd
 ·have F:off-X (a++c)<X b:=by
   have:X (cs.set off (.slice wL 0 0))=X cs:=xbC;rw[f,xap]at this;rw[xap]at this⊢;lia
  have A:X (a++c)<=off:=by rw[xap];lia
  refine⟨a,c,b.set (off-X (a++c)) u,?_,t,m,?_⟩
  ·rw[x,f,xdD _ _ A]
  ·intro w' y' d k j;have p:=v w' y' d k j;have G:=g.len j;have hi:X (a++d)=X (a++c):=by rw[xap,xap,E,G]
   refine⟨u,h1,q,?_,?_⟩
   ·rw[xbj W,hi,xdW F]
   ·have:(a++d++b.set (off-X (a++c)) u).set off (.slice wL 0 0)=a++d++b:=by
     rw[xdD _ _ W,hi,List.set_set];have hp:b[off-X (a++c)]? =Z (.slice wL 0 0):=by
      have:=kW (λl:N wN=>l[off]?) f;simp only[xdW hc]at this;rw[xbj A]at this;exact this.symm
     have⟨_,hp⟩:=xaq.1 hp;rw[<-hp,xdk]
    rw[this];exact p
 ·have i:off<X a:=W
  refine⟨a.set off u,c,b,?_,by rw[xbC];exact t,m,?_⟩
  ·rw[x,f,xaf,xeN _ _ i,xaf]
  ·intro w' y' d k j;have p:=v w' y' d k j;refine⟨u,h1,q,?_,?_⟩
   ·rw[xaf,xaR (by rw[xbC];exact i),xdW i]
   ·have:(a.set off u++d++b).set off (.slice wL 0 0)=a++d++b:=by
     rw[xaf,xeN _ _ (by rw[xbC];exact i),List.set_set];have hp:a[off]? =Z (.slice wL 0 0):=by
      have:=kW (λl:N wN=>l[off]?) f;simp only[xdW hc]at this;rw[xaf,xaR i]at this;exact this.symm
     have⟨_,hp⟩:=xaq.1 hp;rw[<-hp,xdk,xaf]
    rw[this];exact p
end
end
section
variable{x:wr}{v:wN}{S:wr->Prop}{w:wP}
def eCh:zV K where
 n:=1
 agg:=I
 n1 _:=O
 p _ x cs _:=cs=[.int .u8 (x:J)]/\x<256
 len h:=by simp[h.1]
 one h:=by intro c hc;rw[h.1]at hc;simp at hc;subst hc;rfl
 keep h _:=h
 sub h _:=h
def xb(s:Wd):N K:=s.data.toList.map xfu
def eTx:zV (N K)where
 n:=1
 agg:=I
 n1 _:=O
 p _ x cs _:=∃s:Wd,cs=[.string s]/\xb s=x/\s.size<=9223372036854775807
 len:=by rintro _ _ _ _ ⟨s,rfl,_⟩;rfl
 one:=by rintro _ _ _ _ ⟨s,rfl,_⟩ c hc;simp at hc;subst hc;rfl
 keep h _:=h
 sub h _:=h
def zoe(h:(fV eCh x v).p S w):v=.int .u8 (x:J)/\x<256:=by
 obtain⟨cs,rfl,rfl,h⟩:=h;exact⟨O,h⟩
def Gj(h:x<256):(fV eCh x (.int .u8 (x:J))).p S w:=⟨_,O,O,h⟩
def NL{x:N K}(h:(fV eTx x v).p S w):∃s:Wd,v=.string s/\xb s=x/\s.size<=9223372036854775807:=by
 obtain⟨cs,rfl,s,rfl,h1,a⟩:=h;exact⟨s,O,h1,a⟩
def Ri{s:Wd}{x:N K}(h:xb s=x)(a:s.size<=9223372036854775807):(fV eTx x (.string s)).p S w:=⟨_,O,s,O,h,a⟩
def qQ(s:Wd):X (xb s)=s.size:=by simp_all [xb]
inductive Ty
 |i
 |u
 |b
 |l (t:Ty)
 |p (s t:Ty)
 |a (k:K) (t:Ty)
 |ch
 |tx
 |po (t:Ty)
 |w1 (t:Ty)
def Ty.D:Ty->Type
 |.i=>J
 |.u=>K
 |.b=>wW
 |.l t=>N t.D
 |.p s t=>s.D×t.D
 |.a _ t=>N t.D
 |.ch=>K
 |.tx=>N K
 |.po t=>V t.D
 |.w1 t=>t.D
def Ty.rep:(t:Ty)->zV t.D
 |.i=>eI
 |.u=>eU
 |.b=>PO
 |.l t=>eS t.rep
 |.p s t=>eP s.rep t.rep
 |.a k t=>eA k t.rep
 |.ch=>eCh
 |.tx=>eTx
 |.po t=>eO t.rep
 |.w1 t=>eW t.rep
def Ty.z:(t:Ty)->t.D
 |.i=>(0:J)
 |.u=>(0:K)
 |.b=>I
 |.l t=>([]:N t.D)
 |.p s t=>(s.z,t.z)
 |.a k t=>xac k t.z
 |.ch=>(0:K)
 |.tx=>([]:N K)
 |.po t=>(wL:V t.D)
 |.w1 t=>t.z
def Ty.n:Ty->K
 |.p s t=>s.n+t.n
 |.a k t=>k*t.n
 |.w1 t=>t.n
 |_=>1
def Ty.n_rep:∀t:Ty,t.rep.n=t.n
 |.i=>rfl
 |.u=>rfl
 |.b=>rfl
 |.l _=>rfl
 |.ch=>rfl
 |.tx=>rfl
 |.p s t=>by show s.rep.n+t.rep.n=_;rw[Ty.n_rep s,Ty.n_rep t];rfl
 |.a k t=>by show k*t.rep.n=_;rw[Ty.n_rep t];rfl
 |.po _=>rfl
 |.w1 t=>Ty.n_rep t
def Ty.same:(s t:Ty)->V (PLift<|s=t)
 |.i,.i=>Z ⟨O⟩
 |.u,.u=>Z ⟨O⟩
 |.b,.b=>Z ⟨O⟩
 |.ch,.ch=>Z ⟨O⟩
 |.tx,.tx=>Z ⟨O⟩
 |.l s,.l t=>match Ty.same s t with
  |some ⟨h⟩=>Z ⟨kW Ty.l h⟩
  |none=>wL
 |.p s t,.p c d=>match Ty.same s c,Ty.same t d with
  |some ⟨h⟩,Z ⟨e⟩=>Z ⟨h▸e▸O⟩
  |_,_=>wL
 |.a k s,.a f t=>if g:k=f then(match Ty.same s t with
  |some ⟨h⟩=>Z ⟨g▸h▸O⟩
  |none=>wL)else wL
 |.po s,.po t=>match Ty.same s t with
  |some ⟨h⟩=>Z ⟨kW Ty.po h⟩
  |none=>wL
 |.w1 s,.w1 t=>match Ty.same s t with
  |some ⟨h⟩=>Z ⟨kW Ty.w1 h⟩
  |none=>wL
 |_,_=>wL
def Ty.cast{R:Type}(s t:Ty)(x:s.D)(k:t.D->V R):V R:=match Ty.same s t with
 |some ⟨h⟩=>k<|h▸x
 |none=>wL
def mb:N Ty->Type
 |[]=>Z4
 |t::r=>t.D×mb r
def Gy:N Ty->Type
 |[]=>Z4
 |[t]=>t.D
 |t::s::r=>t.D×Gy (s::r)
structure Fl(α:Type)where
 off:K
 f:Ty
 get:α->f.D
 set:f.D->α->α
def Fl.self(t:Ty):Fl t.D:=⟨0,t,id,λy _=>y⟩
def YS{α:Type}(f:V (Fl α)):K:=match f with
 |some f=>f.off
 |none=>0
def uh{α:Type}(s:Ty)(f:V (Fl α))(xs:N s.D)(z:α):α:=match f with
 |some ⟨_,.l a,_,st⟩=>(match Ty.same s a with
  |some ⟨h⟩=>st (h▸xs) z
  |none=>z)
 |_=>z
def Fl.comp{α:Type}(a:Fl α)(c:Fl a.f.D):Fl α:=⟨a.off+c.off,c.f,λz=>c.get<|a.get z,λy z=>a.set (c.set y<|a.get z) z⟩
def xh:(k:K)->(t:Ty)->(i:K)->V (Fl t.D)
 |0,.w1 t,0=>Z ⟨0,t,λz=>z,λy _=>y⟩
 |0,_,_=>wL
 |1,t,i=>bif E i 0 then Z (Fl.self t)else wL
 |k+2,.p s t,0=>Z ⟨0,s,λz=>z.1,λy z=>(y,z.2)⟩
 |k+2,.p s t,i+1=>match xh (k+1) t i with
  |some f=>Z ⟨s.n+f.off,f.f,λz=>f.get z.2,λy z=>(z.1,f.set y z.2)⟩
  |none=>wL
 |_,_,_=>wL
structure PD where
 t:Ty
 x:t.D
def Oh(d:jp)(l:K){α X Y:Type}(e:zV α)(E:wT)(b:X->wN->MF)(f:Y->wN->MF)(g:N α->X->V (N α×(X⊕Y))):Prop:=
 ∀ys x a r,g ys x=Z (a,r)->∀(v u:wN) we Se F G w,St we Se (b x u::mO e E v ys::F) G w->
  YieldAt xfZ 0 d l #[v] w λq w'=>q=.returned (.bool r.isLeft)/\∃c,St we Se (xfB (λx=>b x c) (λy=>f y c) r::mO e E v a::F) G w'
def lOf:wN->K
 |.int _ x=>x.toNat
 |_=>0
inductive Dv
 |d (t:Ty) (x:t.D)
 |q (t:Ty) (x:t.D)
 |kb (b:wW)
 |un
 |nil
 |ow (o:K)
 |ep (o:K) (t:Ty) (j:K) (f:Fl t.D)
 |sv (o:K) (t:Ty) (lo n:K)
 |vs (o:K) (t:Ty)
 |vp (o:K) (t:Ty) (f:Fl t.D)
 |fn (f:Z5) (c:N PD)
 |fp (dom cod:N Ty) (g:mb dom->V (Gy cod))
 |pin (v:wN)
 |mw (o:K)
 |mv (o lo n:K)
 |hp (o j:K)
 |rw(o r:K)
 |rp (o:K) (t:Ty) (r j:K) (f:Fl t.D)
 |yd (o:K)
 |np
 |vf (o:K) (t:Ty) (n i:K)
 |bm (f:Z5) (o:K) (t:Ty)
 |dz (t:Ty) (x:t.D) (n i:K)
inductive Od
 |own (t:Ty) (E:wT) (xs:N t.D)
 |var (t:Ty) (E:wT) (z:t.D)
 |mat (t:Ty) (E E1:wT) (xss:N (N t.D)) (ix:N K)
 |bo (t:Ty) (E E0:wT) (xs:N t.D)
 |ho (E0:wT)
 |vr (t:Ty) (E:wT) (s:Ty) (E1:wT) (n i:K) (z:t.D) (xs:N s.D)
 |vh (t:Ty) (E:wT) (s:Ty) (E1:wT) (n i:K) (z:t.D)
 |hid (t:Ty) (E:wT) (X Y:Type) (mX:X->wN->MF) (mY:Y->wN->MF) (g:N t.D->X->V (N t.D×(X⊕Y))) (x:X)
 |hiy (Y:Type) (mY:Y->wN->MF) (y:Y)
structure Sg where
 nx:K
 rg:N (K×K×Dv)
 ob:N (K×Od)
def gN:N (K×K×Dv)->K->K->V Dv
 |[],_,_=>wL
 |(a,b,d)::r,t,i=>bif E a t && E b i then Z d else gN r t i
def xz:N (K×Od)->K->V Od
 |[],_=>wL
 |(a,x)::r,o=>bif E a o then Z x else xz r o
def get(cx σ:Sg)(t i:K):V Dv:=match gN σ.rg t i with
 |some d=>Z d
 |none=>gN cx.rg t i
def Ve(cx σ:Sg)(o:K):V Od:=match xz σ.ob o with
 |some d=>Z d
 |none=>xz cx.ob o
def gH(l:N K)(t:K):wW:=l.any<|E t
def Xx(rg:N (K×K×Dv))(t:K):wW:=rg.all λe=> !E e.1 t
def zhY(rg:N (K×K×Dv))(t:K):N (K×K×Dv):=rg.filter λe=> !E e.1 t
def yu:N (K×Od)->K->N (K×Od)
 |[],_=>[]
 |(a,y)::r,o=>bif E a o then r else(a,y)::yu r o
def jE:N (K×Od)->K->Od->N (K×Od)
 |[],_,_=>[]
 |(a,y)::r,o,x=>bif E a o then(a,x)::r else(a,y)::jE r o x
def vv(rg:N (K×K×Dv))(d:V Z9)(l:N (K×Dv)):N (K×K×Dv):=match d with
 |some t=>l.map (λe=>(t,e.1,e.2))++zhY rg t
 |none=>rg
def wA(cx:Sg)(d:V Z9):wW:=match d with
 |some t=>Xx cx.rg t
 |none=>wF
def Sg.put(σ:Sg)(d:V Z9)(l:N (K×Dv)):Sg:=⟨σ.nx,vv σ.rg d l,σ.ob⟩
def cv:wN->V Dv
 |.int .i64 x=>if Jx x then Z (.d .i x)else wL
 |.int .u64 x=>if 0<=x/\x<18446744073709551616 then Z (.d .u x.toNat)else wL
 |.bool b=>Z (.kb b)
 |.int .u8 x=>if 0<=x/\x<256 then Z (.d .ch x.toNat)else wL
 |.string s=>if s.size<=9223372036854775807 then Z (.d .tx<|xb s)else wL
 |.slice wL 0 0=>Z .nil
 |.pointer wL=>Z .np
 |.nilFunc=>Z (.pin .nilFunc)
 |_=>wL
def xC(cx σ:Sg):v6->V Dv
 |.tmp t=>get cx σ t 0
 |.const v=>cv v
 |.func f=>Z (.fn f [])
 |.global _=>wL
inductive TK
 |int (k:Xs)
 |bool
 |str
 |sl (E:wT)
 |st (k:K)
 |ar (k:K) (E:wT)
 |pt (E:wT)
structure TI where
 ty:Ty
 k:TK
 B:K
inductive AM
 |d (t:Ty)
 |q (t:Ty)
 |own (t:Ty) (E:wT)
 |fn (dom cod:N Ty)
 |var (t:Ty) (E:wT)
def AM.D:AM->Type
 |.d t=>t.D
 |.q t=>t.D
 |.own t _=>N t.D
 |.var t _=>t.D
 |.fn dom cod=>mb dom->V (Gy cod)
def cF:N AM->Type
 |[]=>Z4
 |a::r=>a.D×cF r
inductive RM
 |d (t:Ty)
 |own (t:Ty) (E:wT)
 |var (t:Ty) (E:wT)
def RM.D:RM->Type
 |.d t=>t.D
 |.own t _=>N t.D
 |.var t _=>t.D
def lZ:N RM->Type
 |[]=>Z4
 |[a]=>a.D
 |a::b::r=>a.D×lZ (b::r)
def RM.ty:RM->Ty
 |.d t=>t
 |.own t _=> .l t
 |.var t _=>t
inductive TF
 |d (t:Ty)
 |q (t:Ty)
 |own (t:Ty) (E:wT)
 |var (t:Ty) (E:wT)
 |mat (t:Ty) (E E1:wT)
 |matv (t:Ty) (E E1:wT)
 |row (j:K)
 |view (j:K)
 |bo (t:Ty) (E E0:wT)
 |vr (t:Ty) (E:wT) (s:Ty) (E1:wT) (n i:K)
def TF.D:TF->Type
 |.d t=>t.D
 |.q t=>t.D
 |.own t _=>N t.D
 |.var t _=>t.D
 |.mat t _ _=>N (N t.D)×N K
 |.matv t _ _=>(N (N t.D)×N K)×(K×K)
 |.row _=>K
 |.view _=>K×K
 |.bo t _ _=>N t.D
 |.vr t _ s _ _ _=>t.D×N s.D
def C1:TF->V K
 |.row j=>Z j
 |.view j=>Z j
 |_=>wL
inductive NF
 |kb (b:wW)
 |nil
 |ci (x:J)
 |cu (x:K)
 |al (s:K)
 |bm (s:K) (f:Z5)
structure Sh where
 ds:N (K×TF)
 ns:N (K×NF)
structure Sgm where
 ro:N K
 tg:N (Tg×Sh)
structure Lp where
 hd:Sh
 sg:Sgm
structure An where
 bx:N K
 jn:N (K×Sgm)
 lp:N (K×Lp)
 dz:N (K×N K)
 vw:N K
 mt:N K
 vr:N (K×K×K)
def K2{α:Type}:N (K×α)->K->V α
 |[],_=>wL
 |(k,x)::r,t=>bif E k t then Z x else K2 r t
end
end Go.Proofs.YtoegnnjcmlghhaaGreat
