/- What a proof needs: rules of walking, mirrors of functions and their plain laws. No condition. -/
import Derived.WalkKit
import Derived.KernelRfl
import Derived.CallsIn
import Derived.OrdersIn
import Derived.TacticsIn
import Derived.RangeFuncIn
import Derived.Laws.AppendOwn
import Derived.Laws.OwnMore
import Derived.Laws.CopyOwn
import Derived.Orders
import Derived.Laws.IdiomCopy
import Derived.Laws.CopyRow
import Derived.Scope
import Derived.Lib.BitFns
import Derived.Test.YtdpdofimolhigaaGreatRows
import Derived.ProofKit
import Derived.OpenShut
import Derived.Laws.Pointers
import Derived.Test.YtdpdofimolhigaaGreatProg
import Derived.RangeFuncSeq
import Derived.RangeFuncRecord
set_option linter.all false
namespace Go.Proofs.YtdpdofimolhigaaGreat
open Bool renaming true->I,false->yL
open Go renaming Value->xn,World->xN,TypeId->wn,Operand->wr,Program->ww,execOp->wD,run_underlying->wE,undef->wR,Oper->wT,FuncId->vi,Tmp->vn,IntKind->vu,Code->vP,resolve->vS,wpListIn->vX,heap_alloc_new->v6,ResultVar->qc,sizeOf->qo,maxLen->qs,getD_set_ne->qv,binOp->qC,typeInfo->qL,wpIn_mono->qO,invoke->qR,BinOp->qS,run_newObj_alloc->qV,eqGuard->qZ,asIntOf->jp,Func->jP,Act->kg,results->kw,Addr->kG,MemPlace->kW,getD_set_true->ul,builtin->ut,Calls->uL,run_loadCells_list->uP,wpAnyIn->uT,run_storeCells_at->uV,grownCap->Zi,zeroValue->Zl,newRow->Zv,fenced_calm->ZC,size_zeroCells->ZI,growslice_fits->ZL,asInt->ZR,Exit->ZV,madeCells->Z4,setRow_heap->Z5,loadVar->Z6,goInt->Z7,callFunc->Z8,TypeInfo->Z9,DataW->Yd
open List renaming length->X
open Option renaming some->Z,none->yD
open _root_ renaming rfl->O,List->N,Int->J,Nat->K,Option->V,List->zC,Nat->zV,Option->z7,trivial->xS,absurd->wl,Bool->ws,congrArg->wF,Array->wL,if_true->wN,if_false->wP,Unit->wW,True->vF,cond_false->vH,ByteArray->vI,cond_true->vL,congrFun->vN,Decidable->vU,False->jN,decide_eq_true_eq->kR,if_pos->Zc,not_true_eq_false->Z3
theorem W{p:Prop}(h:p:=by lia):p:=h
theorem Yl{p:Prop}(h:p:=by lia):p:=h
theorem YD{p:Prop}(h:p:=by omega):p:=h
theorem YL{p:Prop}(h:p:=by decide):p:=h
theorem Xn{p:Prop}(h:p:=by simp):p:=h
theorem Xs{p:Prop}(h:p:=by kernel_rfl):p:=h
open Bool renaming and_eq_true->Th,false_eq_true->xaj,false_or->xel,not_eq_true'->xcM,not_true->xdG,or_eq_true->xee
open Builtin renaming append_->xcc,copy_->xfz,firstCells->xet,lenOf->xfy,zeroCells->xbm
open DataW renaming TrodAll->xeD
open Deferred renaming ofValue->xdx
open Extern renaming find->xeJ,findNext->xex
open Extern.MathBitsCarry renaming m64->xba,pair->xcq,three->xbE
open Fence renaming wide->xfJ
open Instr renaming buildSlice->xep,fill->xdu,slice->xfC,sliceAt->xcS,sliceBound->xeo,sliceBounds->xed,sureAddr->xfi
open Int renaming natAbs_ediv_le_natAbs->xbX,natCast_mul->xda,toNat_natCast->xaJ
open IntKind renaming i64->xcO,u64->xcw,u8->xfK
open Lib renaming bitLen->xeM
open List renaming all_eq_true->xaS,any_eq_true->xft,append_assoc->xal,append_nil->xbN,cons_append->xbJ,drop->xdD,drop_eq_getElem_cons->xbK,drop_eq_nil_of_le->xbS,drop_left'->xfB,eq_nil_of_length_eq_zero->xbk,ext_getElem?->xcC,getElem?_append_left->xbb,getElem?_append_right->xbv,getElem?_cons_zero->xbU,getElem?_drop->xeP,getElem?_eq_getElem->xaa,getElem?_eq_none->xbB,getElem?_eq_some_iff->xav,getElem?_replicate->xeQ,getElem?_set_self->xdQ,getElem?_take->xcx,getElem_mem->xbx,getElem_of_mem->xcz,length_append->xak,length_cons->xar,length_drop->xca,length_eq_one_iff->xdi,length_map->xaV,length_nil->xbA,length_replicate->xaR,length_set->xbz,length_take->xap,map_cons->xch,map_nil->xew,map_toArray->xdS,mem_append->pN,mem_cons->PQ,mem_cons_of_mem->kE,mem_cons_self->Qh,mem_iff_getElem?->xfl,mem_map->xan,mem_of_getElem?->xbI,mem_of_mem_eraseIdx->xdt,mem_of_mem_take->xec,mem_range->xaZ,mem_singleton->xab,nil_append->xbF,not_mem_nil->QT,pairwise_cons->xbR,range->xaE,range_succ->xdb,replicate->sR,replicate_succ->xdM,set_append_left->xfv,set_append_right->xfm,set_cons_succ->xeR,set_eq_take_append_cons_drop->xdT,set_getElem_self->xcW,take->xdo,take_append_drop->xbw,take_of_length_le->xaQ,take_succ_cons->xek
open List.Pairwise renaming nil->xfc
open Nat renaming add_assoc->xcL,add_comm->xdI,add_mul->xaT,add_zero->xbM,beq->xad,ble->xfI,blt->xcU,div_le_self->xcd,div_lt_iff_lt_mul->xaM,eq_of_beq_eq_true->xdn,le_mul_of_pos_left->xdj,le_mul_of_pos_right->xcl,le_of_ble_eq_true->xbW,le_refl->eZ,le_trans->PX,lt_of_le_of_lt->xaG,lt_of_lt_of_le->xah,lt_or_ge->xbO,mod_eq_of_lt->xag,mod_lt->xaI,mul_le_mul_right->xaf,one_mul->xbL,pos_of_ne_zero->xcm,strongRecOn->xcY,zero_add->xaF,zero_le->sB,zero_mul->xcs
open Op renaming intCmp->xfD
open Oper renaming looksAt->xbr
open Option renaming getD_some->xeq
open Option.some renaming inj->xdc,injEq->xao
open Prod.mk renaming injEq->xcZ
open Region renaming binds->xct,ready->xdU
open Result renaming andThen_ok->xai
open Sem renaming run_bind->xau,run_pure->xaO
open Sum renaming elim->xfj
open Value renaming bool->xes,cells->xfA
open _root_.Array renaming getD_eq_getD_getElem?->xbh,getElem?_eq_getElem->xcQ,getElem?_eq_some_iff->xbd,length_toList->xeH,mem_toList_iff->xdC,range->xeI,replicate->xev,toArray_toList->xdf
section
 universe u
def zS{c:Prop}{h:vU c}{α:Type}{t e:α}(hc:c:=by lia):ite c t e=t:=Zc hc
def zA{c:Prop}{h:vU c}{α:Type}{t e:α}(hc:¬c:=by lia):ite c t e=e:=if_neg hc
def iq{c:Prop}{h:vU c}(hc:c){α:Sort u}{t e:α}:ite c t e=t:=Zc hc
def ir{c:Prop}{h:vU c}(hc:¬c){α:Sort u}{t e:α}:ite c t e=e:=if_neg hc
structure yO(S:K->Prop)(w w':xN):Prop where
 os:w'.os=w.os
 tape:w'.tape=w.tape
 output:w'.output=w.output
 size:w.heap.size<=w'.heap.size
 block:∀k,k<w.heap.size->S k->w'.heap[k]? =w.heap[k]?
abbrev dN(w w':xN):Prop:=yO (λ_=>vF) w w'
theorem yO.refl(S:K->Prop)(w:xN):yO S w w:=⟨O,O,O,eZ _,λ_ _ _=>O⟩
def yO.trans{S:K->Prop}{a b c:xN}(h:yO S a b)(k:yO S b c):yO S a c:=
 ⟨k.os.trans h.os,k.tape.trans h.tape,k.output.trans h.output,PX h.size k.size,
  λi hi d=>(k.block i (xah hi h.size) d).trans<|h.block i hi d⟩
def yO.weak{S c:K->Prop}{a b:xN}(h:yO S a b)(e:∀k,k<a.heap.size->c k->S k):yO c a b:=
 ⟨h.os,h.tape,h.output,h.size,λk d f=>h.block k d<|e k d f⟩
def dN.to{S:K->Prop}{a b:xN}(h:dN a b):yO S a b:=h.weak λ_ _ _=>xS
def dN.behind{S:K->Prop}{we a b:xN}(h:dN we a)(k:yO S a b)(c:∀i,i<we.heap.size->S i):dN we b:=
 ⟨k.os.trans h.os,k.tape.trans h.tape,k.output.trans h.output,PX h.size k.size,
  λi hi _=>(k.block i (xah hi h.size)<|c i hi).trans<|h.block i hi xS⟩
def dN.alloc(w:xN)(o:Obj):dN w (w.alloc o):=
 ⟨O,O,O,Xn,λk a _=>RowKit.Below.heap_alloc w o k a⟩
def dN.drawn(w:xN)(n:K):dN w {w with drawn:=n}:=⟨O,O,O,eZ _,λ_ _ _=>O⟩
structure FF where
 p:(K->Prop)->xN->Prop
 keep:∀{S:K->Prop}{w w':xN},p S w->yO S w w'->p S w'
 sub:∀{S S':K->Prop}{w:xN},p S w->(∀k,k<w.heap.size->S k->S' k)->p S' w
structure MF where
 blk:K->Prop
 p:(K->Prop)->xN->Prop
 keep:∀{S:K->Prop}{w w':xN},p S w->yO S w w'->(∀k,blk k->w'.heap[k]? =w.heap[k]?)->p S w'
 sub:∀{S S':K->Prop}{w:xN},p S w->(∀k,k<w.heap.size->S k->S' k)->p S' w
 lt:∀{S:K->Prop}{w:xN},p S w->∀k,blk k->k<w.heap.size
def zK(S:K->Prop):N FF->xN->Prop
 |[],_=>vF
 |f::r,w=>f.p S w/\zK S r w
def xd(S:K->Prop):N MF->xN->Prop
 |[],_=>vF
 |f::r,w=>f.p S w/\xd S r w
def zK.keep{S:K->Prop}{w w':xN}(k:yO S w w'):∀{Γ:N FF},zK S Γ w->zK S Γ w'
 |[],_=>trivial
 |f::_,h=>⟨f.keep h.1 k,zK.keep k h.2⟩
def zK.sub{S a:K->Prop}{w:xN}(b:∀k,k<w.heap.size->S k->a k):∀{Γ:N FF},zK S Γ w->zK a Γ w
 |[],_=>trivial
 |f::_,h=>⟨f.sub h.1 b,zK.sub b h.2⟩
def zK.append{S:K->Prop}{w:xN}:∀{Γ Δ:N FF},zK S Γ w->zK S Δ w->zK S (Γ++Δ) w
 |[],_,_,h=>h
 |_::_,_,h,k=>⟨h.1,zK.append h.2 k⟩
def xd.sub{S a:K->Prop}{w:xN}(b:∀k,k<w.heap.size->S k->a k):∀{Γ:N MF},xd S Γ w->xd a Γ w
 |[],_=>trivial
 |f::_,h=>⟨f.sub h.1 b,xd.sub b h.2⟩
def xd.keep{S:K->Prop}{w w':xN}(k:yO S w w'):∀{Γ:N MF},(∀m∈Γ,∀i,m.blk i->w'.heap[i]? =w.heap[i]?)->xd S Γ w->xd S Γ w'
 |[],_,_=>trivial
 |f::_,a,h=>⟨f.keep h.1 k<|a f<|Qh,xd.keep k (λm b=>a m<|kE _ b) h.2⟩
def xd.lt{S:K->Prop}{w:xN}:∀{Γ:N MF},xd S Γ w->∀m∈Γ,∀i,m.blk i->i<w.heap.size
 |_::_,h,m,hm,i,hi=>by
  obtain rfl|hm:=PQ.1 hm
  ·exact m.lt h.1 i hi
  ·exact xd.lt h.2 m hm i hi
def KJ:N MF->Prop
 |[]=>vF
 |m::r=>(∀k,m.blk k->∀m'∈r,¬m'.blk k)/\KJ r
def St(we:xN)(Se:K->Prop)(ms:N MF)(Γ:N FF)(w:xN):Prop:=
 dN we w/\(∀k,we.heap.size<=k->Se k)/\KJ ms/\∃S:K->Prop,(∀k,S k->Se k)/\(∀k,w.heap.size<=k->S k)/\(∀m∈ms,∀k,m.blk k->¬S k/\we.heap.size<=k)/\
  xd S ms w/\zK S Γ w
section
variable{we:xN}{Se:zV->Prop}{ms:zC MF}{Γ Δ:zC FF}{w w':xN}
def St.ext(h:St we Se ms Γ w)(x:dN w w'):St we Se ms Γ w':=by
 have⟨h1,b,c,S,d,e,f,a,g⟩:=h
 exact⟨h1.trans x,b,c,S,d,λk j=>e k<|PX x.size j,f,
  xd.keep x.to (λm l i hi=>x.block i (xd.lt a m l i hi) xS) a,zK.keep x.to g⟩
def St.step(h:St we Se ms Γ w)(x:dN w w')(n:∀S:K->Prop,(∀k,w.heap.size<=k->S k)->zK S Γ w->zK S Δ w'):St we Se ms Δ w':=by
 have⟨h1,c,d,S,e,a,f,b,g⟩:=h
 exact⟨h1.trans x,c,d,S,e,λk j=>a k<|PX x.size j,f,
  xd.keep x.to (λm l i hi=>x.block i (xd.lt b m l i hi) xS) b,n S a g⟩
theorem St.weak(h:St we Se ms Γ w)(n:∀(S:K->Prop) (w:xN),zK S Γ w->zK S Δ w):St we Se ms Δ w:=
 h.step (yO.refl _ _) λS _=>n S w
def St.ex(h:St we Se ms Γ w):∃S:K->Prop,(∀k,w.heap.size<=k->S k)/\zK S Γ w:=
 let⟨_,_,_,S,_,a,_,_,b⟩:=h;⟨S,a,b⟩
def zaR:∀{ms:N MF} (i:K) (m':MF),KJ ms->(∀m,ms[i]? =Z m->m'.blk=m.blk)->KJ (ms.set i m')
 |[],_,_,h,_=>by simpa using h
 |m::r,0,m',h,a=>by
  have:=a m O;exact⟨λk b=>h.1 k (by rw[<-this];exact b),h.2⟩
 |m::r,i+1,m',h,a=>by
  refine⟨λk b g c=> ?_,zaR i m' h.2<|λm d=>a m<|by simpa using d⟩;obtain⟨j,f,rfl⟩:=xcz c;rw[List.getElem_set];rw[xbz]at f;split
  ·rename_i e;rw[a r[i] Xn];exact h.1 k b _<|xbx _
  ·exact h.1 k b _<|xbx _
theorem xd.get{S:K->Prop}:∀{ms:N MF}{i:K}{m:MF},xd S ms w->ms[i]? =Z m->m.p S w
 |_::_,0,_,h,e=>by simp only[xbU,xao]at e;exact e▸h.1
 |_::_,_+1,_,h,e=>xd.get h.2<|by simpa using e
def px:∀{ms:N MF}{i:K}{m:MF},KJ ms->ms[i]? =Z m->∀k,m.blk k->∀(j:K) (m':MF),j≠i->ms[j]? =Z m'->¬m'.blk k
 |m0::r,0,m,h,e,k,b,j,m',c,a=>by
  simp only[xbU,xao]at e;subst e;obtain⟨j,rfl⟩:∃d,j=d+1:=⟨j-1,W⟩;exact h.1 k b m'<|xbI<|by simpa using a
 |m0::r,i+1,m,h,e,k,b,0,m',c,a=>by
  simp only[xbU,xao]at a;subst a;exact λhc=>h.1 k hc m (xbI<|by simpa using e) b
 |m0::r,i+1,m,h,e,k,b,j+1,m',c,a=>
  px h.2 (by simpa using e) k b j m' W (by simpa using a)
def zgx{S:K->Prop}{b:K}(x:yO (λk=>k≠b) w w'):∀{ms:N MF} (i:K) (m':MF),(∀k,S k->k≠b)->m'.p S w'->
 (∀(j:K) (m:MF),j≠i->ms[j]? =Z m->¬m.blk b)->xd S ms w->xd S (ms.set i m') w'
 |[],_,_,_,_,_,_=>trivial
 |m::r,0,m',c,f,d,h=>by
  refine⟨f,xd.keep (x.weak λk _ a=>c k a) (λl g k a=> ?_) h.2⟩;obtain⟨j,n,rfl⟩:=xcz g;exact x.block k (xd.lt h.2 _ (xbx _) k a)<|λe=>d (j+1) r[j] W Xn<|e▸a
 |m::r,i+1,m',c,f,d,h=>by
  refine⟨m.keep h.1 (x.weak λk _ a=>c k a)<|λk a=>x.block k (m.lt h.1 k a)<|λe=>d 0 m W O<|e▸a,?_⟩;exact zgx x i m' c f (λj l n g=>d (j+1) l W<|by simpa using g) h.2
theorem St.write{i:K}{m m':MF}{b:K}(h:St we Se ms Γ w)(hi:ms[i]? =Z m)(s:m.blk=λk=> @Z K b=Z k)(hd:m'.blk=λk=> @Z K b=Z k)(x:yO (λk=>k≠b) w w')
 (n:∀S:K->Prop,(∀k,S k->k≠b)->m.p S w->zK S Γ w->m'.p S w'):St we Se (ms.set i m') Γ w':=by
 have⟨h1,f,g,S,t,u,l,o,q⟩:=h;have c:m.blk b:=by rw[s]
 have d:∀k,S k->k≠b:=λk a e=>(l m (xbI hi) b c).1<|e▸a;refine⟨h1.behind x (λk a e=>by have:=(l m (xbI hi) b c).2;lia),f,zaR i m' g<|λr f=> ?_,S,t,λk a=>u k<|PX x.size a,?_,?_,?_⟩
 ·simp_all
 ·grind
 ·exact zgx x i m' d (n S d (xd.get o hi) q) (λj r v hc=>px g hi b c j r v hc) o
 ·exact zK.keep (x.weak λk _ a=>d k a) q
def St.fresh{m:MF}(h:St we Se ms Γ w)(x:dN w w')(c:m.blk=λk=>Z w.heap.size=Z k)(hd:w.heap.size<w'.heap.size)
 (n:∀S:K->Prop,(∀k,w.heap.size<=k->S k)->zK S Γ w->m.p (λk=>S k/\k≠w.heap.size) w'):St we Se (m::ms) Γ w':=by
 have⟨h1,j,l,S,o,d,e,b,f⟩:=h;have g:∀k,k<w.heap.size->S k->S k/\k≠w.heap.size:=λk a q=>⟨q,W⟩;refine⟨h1.trans x,j,⟨λk a m' hm' hc=> ?_,l⟩,λk=>S k/\k≠w.heap.size,λk a=>o k a.1,λk a=>⟨d k W,W⟩,?_,⟨n S d f,?_⟩,?_⟩
 ·rw[c]at a;cases a;have:=xd.lt b m' hm' _ hc;lia
 ·intro m' hm' k a;obtain rfl|hm':=PQ.1 hm'
  ·rw[c]at a;cases a;exact⟨λhc=>hc.2 O,h1.size⟩
  ·exact⟨λhc=>(e m' hm' k a).1 hc.1,(e m' hm' k a).2⟩
 ·exact xd.keep x.to (λm' hm' i hi=>x.block i (xd.lt b m' hm' i hi) xS)<|xd.sub g b
 ·exact zK.keep x.to<|zK.sub g f
def dp:∀{ms:N MF} (i:K),KJ ms->KJ (ms.eraseIdx i)
 |[],_,h=>by simpa using h
 |_::_,0,h=>h.2
 |m::r,i+1,h=>⟨λk a m' b=>h.1 k a m'<|xdt b,dp i h.2⟩
def iX{S:K->Prop}:∀{ms:N MF} (i:K),xd S ms w->xd S (ms.eraseIdx i) w
 |[],_,h=>by simpa using h
 |_::_,0,h=>h.2
 |_::_,i+1,h=>⟨h.1,iX i h.2⟩
def St.freeze{i:K}{m:MF}{F:FF}(h:St we Se ms Γ w)(hi:ms[i]? =Z m)
 (n:∀S a:K->Prop,(∀k,S k->a k)->(∀k,m.blk k->a k)->m.p S w->F.p a w):St we Se (ms.eraseIdx i) (F::Γ) w:=by
 have⟨h1,d,e,S,g,l,b,f,o⟩:=h;have q:=xbI hi;refine⟨h1,d,dp i e,λk=>S k\/m.blk k,?_,λk hk=> .inl<|l k hk,?_,xd.sub (λk _ hk=> .inl hk)<|iX i f,n S _ (λk hk=> .inl hk) (λk hk=> .inr hk)<|xd.get f hi,zK.sub (λk _ hk=> .inl hk) o⟩
 ·rintro k (hk|hk)
  ·exact g k hk
  ·exact d k (b m q k hk).2
 ·intro m' c k hk;refine⟨?_,(b m' (xdt c) k hk).2⟩;rintro(hc|hc)
  ·exact(b m' (xdt c) k hk).1 hc
  ·have⟨j,r,s⟩:=List.mem_eraseIdx_iff_getElem?.1 c;exact px e hi k hc j m' r s hk
def St.drop{i:K}(h:St we Se ms Γ w):St we Se (ms.eraseIdx i) Γ w:=by
 have⟨h1,a,b,S,c,d,e,f,g⟩:=h;exact⟨h1,a,dp i b,S,c,d,λm' j=>e m'<|xdt j,iX i f,g⟩
def St.nil(h:zK Se Γ we)(a:∀k,we.heap.size<=k->Se k):St we Se [] Γ we:=
 ⟨yO.refl _ _,a,xS,Se,λ_ h=>h,a,λ_ h=>wl h QT,xS,h⟩
end
abbrev xt:=K->xn
def L:N (K×xn)->xt->xt
 |[],r,t=>r t
 |(k,v)::l,r,t=>bif xad t k then v else L l r t
def put(env:xt):V vn->xn->xt
 |some d,v=>L [(d,v)] env
 |none,_=>env
def xf(a:kg):xt:=λt=>a.tmps.getD t wR
def ev(env:xt):wr->xn
 |.tmp t=>env t
 |.const v=>v
 |.global g=> .pointer<|some ⟨g,0,yD⟩
 |.func f=> .func (.func f) #[] #[]
def zqz(env:xt):N (K×xn)->N xn
 |[]=>[]
 |(k,_)::l=>env k::zqz env l
def zjD:N (K×xn)->N xn
 |[]=>[]
 |(_,v)::l=>v::zjD l
def gb(env:xt)(l:N (K×xn)):Prop:=zqz env l=zjD l
def zg2{env:xt}{k:K}{v:xn}{l:N (K×xn)}(h:env k=v)(a:gb env l):gb env ((k,v)::l):=by
 show env k::zqz env l=v::zjD l;rw[h,show zqz env l=zjD l from a]
def Fo{env:xt}{k:K}{v:xn}{l:N (K×xn)}(h:gb env ((k,v)::l)):env k=v/\gb env l:=by
 have h1:=h;exact List.cons.inj h1
def lF{env:xt}:∀{live:N (K×xn)},gb env live->L live env=env
 |[],_=>rfl
 |(k,v)::l,h=>by
  funext t;have b:=vN (lF (Fo h).2) t;simp only[L];cases a:xad t k
  ·simp_all
  ·simp only[vL];rw[xdn a];exact(Fo h).1.symm
def tw(a:kg):a.eval=ev (xf a):=by funext x;cases x<;>rfl
def Qj{a:kg}{d:V vn}{v:xn}(h:∀t,d=Z t->t<a.tmps.size):xf (a.put d v)=put (xf a) d v:=by
 cases d with
 |none=>rfl
 |some d=>
  funext t;simp only[xf,Act.put,put,L,xbh];cases b:xad t d
  ·have:d≠t:=λe=>by subst e;simp at b
   grind
  ·simp_all
def gG(a:kg)(d:V vn)(v:xn):(a.put d v).tmps.size=a.tmps.size:=by cases d<;>simp[Act.put]
def Qu(a:kg)(d:V vn)(v:xn):(a.put d v).defers=a.defers:=by cases d<;>rfl
abbrev Qs:=ZV->xt->xN->Prop
structure Nd where
 n:K
 ds:N Deferred
 rd:V K
abbrev Nd.of(n:K):Nd:=⟨n,[],yD⟩
abbrev Nd.F(N:Nd):Fence:={xfJ with round:=N.rd}
def zlu(N:Nd)(Q:Qs):ZV->kg->xN->Prop:=λe a w=>a.tmps.size=N.n/\a.defers=N.ds/\Q e (xf a) w
def Wp(P:ww)(N:Nd)(c:vP)(Q:Qs)(env:xt)(w:xN):Prop:=
 ∀a:kg,a.tmps.size=N.n->a.defers=N.ds->xf a=env->c.wpIn N.F 0 P (zlu N Q) a w
def zvM(K:xt->xN->Prop)(Q:Qs):Qs
 |.normal,env,w=>K env w
 |e,env,w=>Q e env w
def T(P:ww)(N:Nd)(we:xN)(Se:K->Prop)(ms:zC MF)(Γ:zC FF)(c:vP)(Q:Qs)(env:xt):Prop:=
 ∀w,St we Se ms Γ w->Wp P N c Q env w
section
variable{P:ww}{N:Nd}{we:xN}{Se:zV->Prop}{ms:zC MF}{Γ:zC FF}{Q:Qs}{env:xt}
def Jy{x y:vP}(h:T P N we Se ms Γ x (zvM (Wp P N y Q) Q) env):T P N we Se ms Γ (.seq x y) Q env:=by
 intro w c a h1 d f;refine wpIn_seq<|qO (h w c a h1 d f) ?_;intro e g w' ⟨q1,q2,b⟩;cases e<;>first|exact b g q1 q2 O|exact⟨q1,q2,b⟩
def zdk(h:∀w,St we Se ms Γ w->Q .normal env w):T P N we Se ms Γ .skip Q env:=
 λw a _ h1 b c=>wpIn_skip ⟨h1,b,c▸h w a⟩
def zjW(h:∀w,St we Se ms Γ w->Q .ret env w):T P N we Se ms Γ .ret Q env:=
 λw a _ h1 b c=>wpIn_ret ⟨h1,b,c▸h w a⟩
def c9{c:wr}{x y:vP}(hc:ev env c=.bool I)(h:T P N we Se ms Γ x Q env):T P N we Se ms Γ (.cond c x y) Q env:=
 λw d a h1 e b=>wpIn_cond_true (by rw[tw,b];exact hc)<|h w d a h1 e b
def Uf{c:wr}{x y:vP}(hc:ev env c=.bool yL)(h:T P N we Se ms Γ y Q env):T P N we Se ms Γ (.cond c x y) Q env:=
 λw d a h1 e b=>wpIn_cond_false (by rw[tw,b];exact hc)<|h w d a h1 e b
def zuS{c:wr}{x y:vP}(b:ws)(hc:ev env c=.bool b)(h:b=I->T P N we Se ms Γ x Q env)(a:b=yL->T P N we Se ms Γ y Q env):T P N we Se ms Γ (.cond c x y) Q env:=by
 cases b
 ·exact Uf hc<|a O
 ·exact c9 hc<|h O
structure Inv where
 ms:zC MF
 Γ:zC FF
 live:zC (K×xn)
def zh5{F:Fence}{n:K}{c:vP}{Q:ZV->kg->xN->Prop}{a:kg}{w:xN}{G:Type}(H:G->kg->xN->Prop)(t:G->K)(h:G)(p:H h a w)
 (round:∀g a w,H g a w->c.wpIn F n P (Exit.then (λo w'=>∃y,H y o w'/\t y<t g) Q) a w):(Code.loop c).wpIn F n P Q a w:=by
 intro b k cs hd u v
 have x:∀n g a w,t g=n->H g a w->
  ∃e o w',Q e o w'/\ArrivesIn (Machine.fenced P F) P (lone (b.atR a (.code c::.inLoop c::k)) cs w) b k cs e o w':=by
  intro n
  induction n using xcY with
  |_ n z=>
   intro g a w hn A;have⟨e,d,f,i,j⟩:=round g a w A b (.inLoop c::k) cs hd u v
   cases e with
   |normal=>
    have⟨m,B,C⟩:=i;have⟨q,r,s,D,hc⟩:=z (t m) (hn▸C) m d f O B;exact⟨q,r,s,D,.of_steps (StepsIn.trans j (.one (ZC u v O) stepR_inLoop)) hc⟩
   |exit id=>exact⟨_,d,f,i,.pass O (λ_ _=> .inl Xn) j⟩
   |goto l=>exact⟨_,d,f,i,.pass O (λ_ _=> .inl Xn) j⟩
   |ret=>exact⟨_,d,f,i,.pass O (λ_ _=> .inl Xn) j⟩
   |panic E=>exact⟨_,d,f,i,.pass O (λ_ _=> .inl Xn) j⟩
   |outgrown=>exact⟨_,d,f,i,.pass O (λ_ _=> .inl Xn) j⟩
 have⟨e,o,w',i,j⟩:=x _ h a w O p;exact⟨e,o,w',i,.of_steps (.one (ZC u v O) stepR_loop) j⟩
end
def FnQ{U:Type}(Se:K->Prop)(w:xN)(b:U->xn)(a:U->N FF)(ok:U->Prop):Ending->xN->Prop:=
 λe w'=>∃u,e=.returned (b u)/\ok u/\dN w w'/\zK Se (a u) w'
def Fn{U:Type}(P:ww)(f:vi)(args:wL xn)(Γ:N FF)(b:U->xn)(a:U->N FF)(ok:U->Prop):Prop:=
 ∀w Se,(∀k,w.heap.size<=k->Se k)->zK Se Γ w->uL P f args w (FnQ Se w b a ok)
def zug{U:Type}(P:ww)(fn:jP)(we:xN)(Se:K->Prop)(c:U->xn)(b:U->N FF)(ok:U->Prop):Qs
 |.ret,env,w|.normal,env,w=>∃u,(∀a:kg,xf a=env->(kw fn a.tmps).run P w=.ok (c u) w)/\ok u/\dN we w/\zK Se (b u) w
 |_,_,_=>jN
def OV(args:wL xn)(n:K):xf ⟨args++xev n wR,[]⟩=λt=>args.getD t wR:=by
 funext t;simp only[xf,xbh,Array.getElem?_append];split
 ·rfl
 ·grind
def Cd:∀(l:N xn) (k:K) (env:xt),(∀j,env (k+j)=l.getD j wR)->gb env ((l.zipIdx k).map λx=>(x.2,x.1))
 |[],_,_,_=>rfl
 |v::l,k,env,h=>zg2 (by simpa using h 0)<|Cd l (k+1) env (λj=>by have:=h<|j+1;simpa[xcL,xdI 1 j]using this)
def zeX{U:Type}{P:ww}{f:vi}{args:N xn}{Γ:N FF}{b:U->xn}{a:U->N FF}{ok:U->Prop}{fn:jP}{c:vP}
 (m:P.funcs[f]? =Z fn) (o:fn.body=Z c) (hn:xfI (X args) fn.ntmps=I)
 (h:∀we Se rest,T P (Nd.of fn.ntmps) we Se [] Γ c (zug P fn we Se b a ok)<|L ((args.zipIdx 0).map λx=>(x.2,x.1)) rest):Fn P f args.toArray Γ b a ok:=by
 intro w Se p d;have hn:=xbW hn;refine calls_of_wp m o<|(wpIn_wide (n:=0)).1 ?_;have hc:gb (xf ⟨args.toArray++xev (fn.ntmps-args.toArray.size) wR,[]⟩) ((args.zipIdx 0).map λx=>(x.2,x.1)):=by
  refine Cd args 0 _ λj=> ?_;rw[OV];simp_all
 refine qO (h w Se _ w (St.nil d p) _ (by simp;lia) O (lF hc).symm) ?_;intro e l w' ⟨q1,q2,g⟩;cases e<;>simp only[zug]at g
 ·have⟨u,r1,r2,i,k⟩:=g;exact⟨q2,_,r1 l O,u,O,r2,i,k⟩
 ·have⟨u,r1,r2,i,k⟩:=g;exact⟨q2,_,r1 l O,u,O,r2,i,k⟩
section
variable{P:ww}{we:xN}{Se:zV->Prop}{ms:zC MF}{Γ:zC FF}{env:xt}{U:Type}{val:U->xn}{facts:U->zC FF}{ok:U->Prop}{fn:jP}
def St.out{Δ:N FF}{w:xN}(h:St we Se ms Γ w)(n:∀(S:K->Prop) (w:xN),zK S Γ w->zK S Δ w):dN we w/\zK Se Δ w:=by
 have⟨h1,c,d,S,a,e,f,g,b⟩:=h;exact⟨h1,zK.sub (λk _=>a k)<|n S w b⟩
def zqE{t:vn}(u:U)(b:fn.results= #[.tmp t])(hv:env t=val u)(c:ok u)(n:∀(S:K->Prop) (w:xN),zK S Γ w->zK S (facts u) w):
 ∀w,St we Se ms Γ w->zug P fn we Se val facts ok .ret env w:=by
 intro w d;refine⟨u,λa e=> ?_,c,d.out n⟩;rw[<-hv,<-e];simp[kw,b,xf]
def Sz(tmps:wL xn):qc->Sem xn
 |.tmp t=>pure<|tmps.getD t wR
 |.cell a t=>do Z6 t (<-asAddr (tmps.getD a wR))
end
end
section
structure ye(α:Type)where
 n:K
 agg:ws
 n1:agg=yL->n=1
 p:(K->Prop)->α->N xn->xN->Prop
 len:∀{S x cs w},p S x cs w->cs.length=n
 one:∀{S x cs w},p S x cs w->∀c∈cs,c.oneCell'=I
 keep:∀{S x cs w w'},p S x cs w->yO S w w'->p S x cs w'
 sub:∀{S S':K->Prop}{x cs w},p S x cs w->(∀k,k<w.heap.size->S k->S' k)->p S' x cs w
def ye.val{α:Type}(e:ye α)(cs:N xn):xn:=if e.agg then .agg cs.toArray else cs.headD wR
def ye.val_cells{α:Type}(e:ye α){S:K->Prop}{x:α}{cs:N xn}{w:xN}(h:e.p S x cs w):(e.val cs).cells.toList=cs:=by
 unfold ye.val;cases a:e.agg
 ·have hl:=e.len h;rw[e.n1 a]at hl;obtain⟨c,rfl⟩:=xdi.1 hl;have:=e.one h c Xn;cases c<;>simp_all [xfA,Value.oneCell']
 ·rfl
def fV{α:Type}(e:ye α)(x:α)(v:xn):FF where
 p S w:=∃cs,v=e.val cs/\e.p S x cs w
 keep:=λ⟨cs,h1,a⟩ k=>⟨cs,h1,e.keep a k⟩
 sub:=λ⟨cs,h1,a⟩ k=>⟨cs,h1,e.sub a k⟩
def eI:ye J where
 n:=1
 agg:=yL
 n1 _:=O
 p _ x cs _:=cs=[.int .i64 x]/\ -9223372036854775808<=x/\x<=9223372036854775807
 len h:=by simp[h.1]
 one h:=by intro c hc;rw[h.1]at hc;simp at hc;subst hc;rfl
 keep h _:=h
 sub h _:=h
def eU:ye K where
 n:=1
 agg:=yL
 n1 _:=O
 p _ x cs _:=cs=[.int .u64 (x:J)]/\x<18446744073709551616
 len h:=by simp[h.1]
 one h:=by intro c hc;rw[h.1]at hc;simp at hc;subst hc;rfl
 keep h _:=h
 sub h _:=h
def zfh:ye ws where
 n:=1
 agg:=yL
 n1 _:=O
 p _ x cs _:=cs=[.bool x]
 len h:=by simp[h]
 one h:=by intro c hc;rw[h]at hc;simp at hc;subst hc;rfl
 keep h _:=h
 sub h _:=h
def Xe{α:Type}{e:ye α}{S:K->Prop}{x:α}{v:xn}{w:xN}(h:(fV e x v).p S w):e.p S x v.cells.toList w:=by
 obtain⟨cs,rfl,h⟩:=h;rw[e.val_cells h];exact h
def zxE{α:Type}{e:ye α}{S:K->Prop}{x:α}{cs:N xn}{w:xN}(h:e.p S x cs w):(fV e x<|e.val cs).p S w:=⟨cs,O,h⟩
def zt8{x:J}{v:xn}{S:K->Prop}{w:xN}(h:(fV eI x v).p S w):v=.int .i64 x/\ -9223372036854775808<=x/\x<=9223372036854775807:=by
 obtain⟨cs,rfl,rfl,h⟩:=h;exact⟨O,h⟩
def znr{x:K}{v:xn}{S:K->Prop}{w:xN}(h:(fV eU x v).p S w):v=.int .u64 (x:J)/\x<18446744073709551616:=by
 obtain⟨cs,rfl,rfl,h⟩:=h;exact⟨O,h⟩
def EW{x:ws}{v:xn}{S:K->Prop}{w:xN}(h:(fV zfh x v).p S w):v=.bool x:=by
 obtain⟨cs,rfl,rfl⟩:=h;rfl
def w9{x:J}{S:K->Prop}{w:xN}(h: -9223372036854775808<=x/\x<=9223372036854775807):(fV eI x (.int .i64 x)).p S w:=⟨_,O,O,h⟩
def ui{x:K}{S:K->Prop}{w:xN}(h:x<18446744073709551616):(fV eU x (.int .u64 (x:J))).p S w:=⟨_,O,O,h⟩
def Ng{x:ws}{S:K->Prop}{w:xN}:(fV zfh x (.bool x)).p S w:=⟨_,O,O⟩
def xa{α:Type}(e:ye α)(S:K->Prop):N α->N xn->xN->Prop
 |[],cs,_=>cs=[]
 |x::xs,cs,w=>∃c r,cs=c++r/\e.p S x c w/\xa e S xs r w
section
variable{α:Type}{e:ye α}{S S':zV->Prop}{w w':xN}
def xa.len:∀{xs:N α}{cs:N xn},xa e S xs cs w->X cs=X xs*e.n
 |[],_,h=>by simp[show _=[]from h]
 |x::xs,_,⟨c,r,h,hc,a⟩=>by rw[h,xak,e.len hc,xa.len a,xar,xaT,xdI];simp
def xa.one:∀{xs:N α}{cs:N xn},xa e S xs cs w->∀c∈cs,c.oneCell'=I
 |[],_,h=>by simp[show _=[]from h]
 |x::xs,_,⟨c,r,h,hc,a⟩=>by
  intro d hd;rw[h]at hd;obtain hd|hd:=pN.1 hd
  ·exact e.one hc d hd
  ·exact xa.one a d hd
def xa.keep(k:yO S w w'):∀{xs:N α}{cs:N xn},xa e S xs cs w->xa e S xs cs w'
 |[],_,h=>h
 |_::_,_,⟨c,r,h,hc,a⟩=>⟨c,r,h,e.keep hc k,xa.keep k a⟩
def xa.sub(k:∀k,k<w.heap.size->S k->S' k):∀{xs:N α}{cs:N xn},xa e S xs cs w->xa e S' xs cs w
 |[],_,h=>h
 |_::_,_,⟨c,r,h,hc,a⟩=>⟨c,r,h,e.sub hc k,xa.sub k a⟩
def xa.append:∀{xs ys:N α}{cs ds:N xn},xa e S xs cs w->xa e S ys ds w->xa e S (xs++ys) (cs++ds) w
 |[],_,_,_,h,k=>by rw[show _=[]from h];exact k
 |_::_,_,_,_,⟨c,r,h,hc,a⟩,k=>⟨c,r++_,by rw[h,xal],hc,xa.append a k⟩
def xa.drop:∀{xs:N α}{cs:N xn} (k:K),xa e S xs cs w->xa e S (xs.drop k) (cs.drop<|k*e.n) w
 |[],cs,k,h=>by simp[show cs=[]from h];exact O
 |x::xs,cs,0,h=>by simpa using h
 |x::xs,_,k+1,⟨c,r,h,hc,a⟩=>by
  have:=xa.drop k a;rw[List.drop_succ_cons,h,xaT,xbL,xdI,<-List.drop_drop];rwa[xfB<|e.len hc]
def xa.take:∀{xs:N α}{cs:N xn} (k:K),xa e S xs cs w->xa e S (xs.take k) (cs.take<|k*e.n) w
 |[],cs,k,h=>by simp[show cs=[]from h];exact O
 |x::xs,cs,0,h=>by simp;exact O
 |x::xs,_,k+1,⟨c,r,h,hc,a⟩=>by
  refine⟨c,r.take<|k*e.n,?_,hc,xa.take k a⟩;rw[h,xaT,List.take_append,e.len hc,xaQ<|by rw[e.len hc];lia];simp_all
def xa.get{xs:N α}{cs:N xn}{i:K}{x:α}(h:xa e S xs cs w)(b:xs[i]? =Z x):
 ∃c,e.p S x c w/\∀j,j<e.n->cs[i*e.n+j]? =c[j]? :=by
 have hd:=h.drop i;obtain⟨hi,rfl⟩:=xav.1 b;rw[xbK hi]at hd;have⟨c,r,h1,a,f⟩:=hd;refine⟨c,a,λj d=> ?_⟩;rw[<-xeP,h1,xbb<|by rw[e.len a];exact d]
def xa.replicate{x:α}{c:N xn}(h:e.p S x c w):∀n,xa e S (sR n x) (sR n c).flatten w
 |0=>rfl
 |n+1=>⟨c,_,by simp[xdM],h,xa.replicate h n⟩
end
def At(w:xN)(b o:K)(cs:N xn):Prop:=b<w.heap.size/\∀j v,cs[j]? =Z v->w.cell? ⟨b,o+j,yD⟩=Z v
def At.keep{S:K->Prop}{w w':xN}{b o:K}{cs:N xn}(h:At w b o cs)(a:S b)(k:yO S w w'):At w' b o cs:=
 ⟨xah h.1 k.size,λj v hv=>by rw[World.cell?_of_block<|k.block b h.1 a];exact h.2 j v hv⟩
def At.drop{w:xN}{b o:K}{cs:N xn}(h:At w b o cs)(k:K):At w b (o+k) (cs.drop k):=
 ⟨h.1,λj v hv=>by rw[xeP]at hv;have:=h.2 _ v hv;rwa[xcL]⟩
def At.take{w:xN}{b o:K}{cs:N xn}(h:At w b o cs)(k:K):At w b o (cs.take k):=
 ⟨h.1,λj v hv=>h.2 j v<|by rw[xcx]at hv;split at hv<;>simp_all⟩
def At.row{w:xN}{b:K}{cs:wL xn}{t:wn}{fr:K×K}(h:w.heap[b]? =Z (.cells cs t fr)):At w b 0 cs.toList:=
 ⟨(xbd.1 h).1,λj v hv=>by rw[cell_of_row w b (0+j) cs t fr h];simpa using hv⟩
def SlP{α:Type}(e:ye α)(S:K->Prop)(xs:N α)(v:xn)(w:xN):Prop:=
 ∃a cap,v=.slice a (X xs) cap/\X xs<=cap/\cap<=qs/\(xs=[]\/∃b o cs,a=Z ⟨b,o,yD⟩/\S b/\At w b o cs/\xa e S xs cs w)
def eS{α:Type}(e:ye α):ye (N α)where
 n:=1
 agg:=yL
 n1 _:=O
 p S xs cs w:=∃v,cs=[v]/\SlP e S xs v w
 len:=λ⟨v,h,_⟩=>by simp[h]
 one:=λ⟨v,h,⟨a,cap,hv,_⟩⟩=>by intro c hc;rw[h]at hc;simp at hc;subst hc;rw[hv];rfl
 keep:=λ⟨v,h,⟨a,cap,h1,f,g,i⟩⟩ k=>⟨v,h,a,cap,h1,f,g,i.imp id λ⟨b,o,cs,j,d,a3,a4⟩=>⟨b,o,cs,j,d,a3.keep d k,a4.keep k⟩⟩
 sub:=λ⟨v,h,⟨a,cap,h1,f,g,i⟩⟩ k=>⟨v,h,a,cap,h1,f,g,i.imp id λ⟨b,o,cs,j,d,a3,a4⟩=>⟨b,o,cs,j,k b a3.1 d,a3,a4.sub k⟩⟩
def wc{α:Type}{e:ye α}{xs:N α}{v:xn}{S:K->Prop}{w:xN}:(fV (eS e) xs v).p S w↔SlP e S xs v w:=
 ⟨λ⟨_,h1,c,a,b⟩=>by subst a;rw[h1];exact b,λh=>⟨[v],O,v,O,h⟩⟩
def eP{α β:Type}(e:ye α)(f:ye β):ye (α×β)where
 n:=e.n+f.n
 agg:=I
 n1 h:=by cases h
 p S x cs w:=∃c d,cs=c++d/\e.p S x.1 c w/\f.p S x.2 d w
 len:=λ⟨c,d,h,hc,hd⟩=>by rw[h,xak,e.len hc,f.len hd]
 one:=λ⟨c,d,h,hc,hd⟩ x hx=>by
  rw[h]at hx;obtain hx|hx:=pN.1 hx
  ·exact e.one hc x hx
  ·exact f.one hd x hx
 keep:=λ⟨c,d,h,hc,hd⟩ k=>⟨c,d,h,e.keep hc k,f.keep hd k⟩
 sub:=λ⟨c,d,h,hc,hd⟩ k=>⟨c,d,h,e.sub hc k,f.sub hd k⟩
def eA{α:Type}(k:K)(e:ye α):ye (N α)where
 n:=k*e.n
 agg:=I
 n1 h:=by cases h
 p S xs cs w:=X xs=k/\xa e S xs cs w
 len:=λ⟨h,a⟩=>by rw[a.len,h]
 one:=λ⟨_,a⟩=>a.one
 keep:=λ⟨h,a⟩ k=>⟨h,a.keep k⟩
 sub:=λ⟨h,a⟩ k=>⟨h,a.sub k⟩
abbrev Zr:=ws×N K
def fP{α:Type}(e:ye α)(x:α)(v:xn):FF where
 p S w:=∃b o cs,v=.pointer (Z ⟨b,o,yD⟩)/\S b/\At w b o cs/\e.p S x cs w
 keep:=λ⟨b,o,cs,h1,a,c,d⟩ k=>⟨b,o,cs,h1,a,c.keep a k,e.keep d k⟩
 sub:=λ⟨b,o,cs,h1,a,c,d⟩ k=>⟨b,o,cs,h1,k b c.1 a,c,e.sub d k⟩
structure FZ(α:Type)where
 p:(K->Prop)->α->N xn->xN->Prop
 keep:∀{S x cs w w'},p S x cs w->yO S w w'->p S x cs w'
 sub:∀{S S':K->Prop}{x cs w},p S x cs w->(∀k,k<w.heap.size->S k->S' k)->p S' x cs w
def ye.c{α:Type}(e:ye α):FZ α:=⟨e.p,e.keep,e.sub⟩
def zwN{α:Type}(e:ye α):FZ (N α):=⟨xa e,λh k=>h.keep k,λh k=>h.sub k⟩
def mB{α:Type}(e:FZ α)(E:wn)(b:K)(x:α):MF where
 blk k:=Z b=Z k
 p S w:=∃cs:wL xn,w.heap[b]? =Z (.cells cs E (0,0))/\e.p S x cs.toList w
 keep:=λ⟨cs,h1,a⟩ k c=>⟨cs,by rw[c b O];exact h1,e.keep a k⟩
 sub:=λ⟨cs,h1,a⟩ k=>⟨cs,h1,e.sub a k⟩
 lt:=λ⟨cs,h1,_⟩ k d=>by cases d;exact(xbd.1 h1).1
abbrev mR{α:Type}(e:ye α)(E:wn)(b:K)(xs:N α):MF:=mB (zwN e) E b xs
def mO{α:Type}(e:ye α)(E:wn)(v:xn)(xs:N α):MF where
 blk k:=v.ownBlock=Z k
 p S w:=∃cs,w.ownsRow 0 E e.n v (X xs) cs/\xa e S xs cs w
 keep:=λ⟨cs,h1,a⟩ k d=>by
  refine⟨cs,⟨h1.1,?_⟩,a.keep k⟩;obtain h|⟨g,cap,b,hv,c,f,r⟩:=h1.2
  ·exact .inl h
  ·exact .inr ⟨g,cap,b,hv,c,by rw[d g<|by rw[hv];rfl];exact f,r⟩
 sub:=λ⟨cs,h1,a⟩ k=>⟨cs,h1,a.sub k⟩
 lt:=λ⟨cs,h1,_⟩ k i=>(h1.lt k i).2
section
variable{α:Type}{e:ye α}{E:wn}{S S':zV->Prop}{w:xN}
def SlP.of_at{xs:N α}{b o n cap:K}{cs:N xn}(a:S b)(c:At w b o cs)(d:xa e S xs cs w)(hn:n=X xs)(hc:X xs<=cap)(f:cap<=qs):
 SlP e S xs (.slice (Z ⟨b,o,yD⟩) n cap) w:=⟨_,cap,by rw[hn],hc,f,.inr ⟨b,o,cs,O,a,c,d⟩⟩
def SlP.nil:SlP e S [] (.slice yD 0 0) w:=⟨yD,0,O,eZ _,sB _,.inl O⟩
def zuh{x:α}{b:K}(a:∀k,S k->S' k)(d:S' b)(h:(mB e.c E b x).p S w):(fP e x (.pointer<|some ⟨b,0,yD⟩)).p S' w:=by
 have⟨cs,h1,f⟩:=h;exact⟨b,0,cs.toList,O,d,At.row h1,e.sub f λk _=>a k⟩
def DJ{xs:N α}{v:xn}(a:∀k,S k->S' k)(b:∀k,v.ownBlock=Z k->S' k)(h:(mO e E v xs).p S w):(fV (eS e) xs v).p S' w:=by
 have⟨cs,h1,c⟩:=h;refine wc.2 ?_;rcases h1.2 with⟨rfl,h0⟩|⟨g,cap,d,rfl,hd,f,i,j,l,hc⟩
 ·have:xs=[]:=xbk h0;subst this;exact SlP.nil
 ·refine SlP.of_at (b g O) ((At.row f).take<|X xs*e.n) ?_ O i j;rw[hc];exact c.sub λk _=>a k
end
end
section
def Yq(P:ww)(o:wT)(env:xt)(w:xN)(K:xn->xN->Prop):Prop:=
 match(wD (ev env) o).run P w with
 |.ok (.value v) w'=>K v w'
 |.ok .skip w'=>K wR w'
 |.ok (.enter f args) w'=>uL P f args w' (λe b=>∃v,e=.returned v/\K v b)
 |.ok (.round l f ts a c) w'=>RoundIn xfJ 0 P l f ts a c w' (λe b=>∃v,e=.returned v/\K v b)
 |_=>jN
def ztE{ro:V K}{a:wr->xn}{o:wT}{P:ww}{w:xN}(h:∀d w',(wD a o).run P w≠ .ok (.defer d) w')(e:∀r w',(wD a o).run P w≠ .halt r w'):(o.semAt ro a).run P w=(wD a o).run P w:=by
 by_cases hd:∃c,o.op=.defer c
 ·have⟨c,hc⟩:=hd;exfalso
  cases b:(wD a o).run P w with
  |halt r w'=>exact e r w' b
  |ok x w'=>
   unfold wD at b;rw[hc]at b;simp only[xau]at b
   cases f:(vS a c o.type).run P w with
   |halt r w1=>rw[f]at b;simp at b
   |ok d w1=>
    refine h d w' ?_;unfold wD;simp_all
 ·rw[Oper.semAt_eq _ _ _ λc hc=>hd ⟨c,hc⟩]
def Yq.wp{P:ww}{o:wT}{a:kg}{w:xN}{K:xn->xN->Prop}{j:kg->xN->Prop}{Q:ZV->kg->xN->Prop}{N:Nd}
 (h:Yq P o (xf a) w K) (b:∀v w',K v w'->j (a.put o.dst v) w'):o.wpIn N.F 0 P a w j Q:=by
 unfold Yq at h;refine⟨λ_ _=>xS,?_⟩;have k:=ztE (ro:=N.rd) (λd w' e=>by rw[e]at h;exact h) (λr w' e=>by rw[e]at h;exact h);rw[tw];rw[k];generalize(wD (ev<|xf a) o).run P w=r at*
 cases r with
 |ok n w'=>
  cases n<;>simp only at h<;>simp only[Oper.uponIn]
  case value v=>exact b _ _ h
  case skip=>exact b _ _ h
  case enter f args=>exact⟨λe=>by simp[xfJ]at e,CallsIn.mono (callsIn_wide.2 h) λe g ⟨v,i,hv⟩=>by subst i;exact b _ _ hv⟩
  case round l f ts s c=>exact⟨λe=>by simp[xfJ]at e,RoundIn.mono h λe g ⟨v,i,hv⟩=>by subst i;exact b _ _ hv⟩
 |halt x w'=>exact h.elim
def Yq.mono{P:ww}{o:wT}{env:xt}{w:xN}{K g:xn->xN->Prop}(h:Yq P o env w K)(a:∀v w',K v w'->g v w'):Yq P o env w g:=by
 unfold Yq at*
 generalize(wD (ev env) o).run P w=r at*
 cases r with
 |ok n w'=>
  cases n<;>simp only at h⊢
  case value v=>exact a _ _ h
  case skip=>exact a _ _ h
  case enter f args=>exact h.mono λe b ⟨v,d,hv⟩=>⟨v,d,a _ _ hv⟩
  case round l f ts s c=>exact h.mono λe b ⟨v,d,hv⟩=>⟨v,d,a _ _ hv⟩
 |halt x w'=>exact h.elim
def Yq.of_value{P:ww}{o:wT}{env:xt}{w w':xN}{v:xn}{K:xn->xN->Prop}(h:(wD (ev env) o).run P w=.ok (.value v) w')(a:K v w'):Yq P o env w K:=by
 unfold Yq;rw[h];exact a
def Yq.of_skip{P:ww}{o:wT}{env:xt}{w w':xN}{K:xn->xN->Prop}(h:(wD (ev env) o).run P w=.ok .skip w')(a:K wR w'):Yq P o env w K:=by
 unfold Yq;rw[h];exact a
def gd(a:wL wT)(env:xt)(j:K):V ws:=
 match(a[j]?).bind (·.dst)with
 |some d=>match env d with
  |.bool b=>Z b
  |_=>yD
 |none=>yD
def xl(b:wL wT)(env:xt)(o:wT):ws:=
 match o.guard with
 |none=>I
 |some (j,a)=>gd b env j==Z a
theorem zhV(b:wL wT)(a:kg)(j:K):yielded b a.tmps j=gd b (xf a) j:=by
 unfold yielded gd xf
 cases(b[j]?).bind (·.dst)with
 |none=>rfl
 |some d=>
  simp only[Option.bind_some,xbh]
  cases a.tmps[d]? with
  |none=>rfl
  |some v=>cases v<;>rfl
def UK(b:wL wT)(a:kg)(o:wT):Region.wanted o (yielded b a.tmps)=xl b (xf a) o:=by grind [Region.wanted,xl,zhV]
def kP(N:K):V vn->ws
 |some d=>xcU d N
 |none=>I
def gU{N:K}{d:V vn}(h:kP N d=I):∀t,d=Z t->t<N:=by
 rintro t rfl;simpa[kP]using h
def WpL(P:ww)(N:Nd)(b:wL wT)(l:zC wT)(Q:Qs)(env:xt)(w:xN):Prop:=
 ∀a:kg,a.tmps.size=N.n->a.defers=N.ds->xf a=env->vX N.F 0 P b (zlu N Q) l a w
def TL(P:ww)(N:Nd)(we:xN)(Se:K->Prop)(ms:zC MF)(Γ:zC FF)(a:wL wT)(l:zC wT)(Q:Qs)(env:xt):Prop:=
 ∀w,St we Se ms Γ w->WpL P N a l Q env w
def OpE{U:Type}(P:ww)(o:wT)(env:xt)(ms:N MF)(Γ:N FF)(b:U->xn)(a:U->N FF)(ok:U->Prop):Prop:=
 ∀w (S:K->Prop),(∀k,w.heap.size<=k->S k)->xd S ms w->zK S Γ w->Yq P o env w (λv w'=>∃u,v=b u/\ok u/\dN w w'/\zK S (a u) w')
section
variable{P:ww}{N:Nd}{we:xN}{Se:zV->Prop}{ms:zC MF}{Γ:zC FF}{Q:Qs}{env:xt}{ops:wL wT}{o:wT}{rest:zC wT}
def qG{id:K}{l:zC wT}(h:TL P N we Se ms Γ l.toArray l Q env):T P N we Se ms Γ (.region id l.toArray yL) Q env:=
 λw b a h1 c d=>wpIn_region_lit<|h w b a h1 c d
def uQ(h:∀w,St we Se ms Γ w->Q .normal env w):TL P N we Se ms Γ ops [] Q env:=
 λw a _ h1 b c=>wpListIn_nil ⟨h1,b,c▸h w a⟩
def zps(live:zC (K×xn)){l:zC wT}(h:gb env live)(k:∀rest,TL P N we Se ms Γ ops l Q<|L live rest):TL P N we Se ms Γ ops l Q env:=by
 have:=k env;rwa[lF h]at this
def zxK{p:Prop}{l:zC wT}(hp:∀(S:K->Prop) (w:xN),zK S Γ w->p)(k:p->TL P N we Se ms Γ ops l Q env):TL P N we Se ms Γ ops l Q env:=
 λw a=>let⟨S,_,h⟩:=a.ex;k (hp S w h) w a
def znB{p:Prop}{c:vP}(hp:∀(S:K->Prop) (w:xN),zK S Γ w->p)(k:p->T P N we Se ms Γ c Q env):T P N we Se ms Γ c Q env:=
 λw a=>let⟨S,_,h⟩:=a.ex;k (hp S w h) w a
def zp9(b:xl ops env o=I)(hd:kP N.n o.dst=I)
 (h:∀w,St we Se ms Γ w->Yq P o env w (λv w'=>WpL P N ops rest Q (put env o.dst v) w')):TL P N we Se ms Γ ops (o::rest) Q env:=by
 intro w c a h1 d e;subst e;unfold vX;rw[iq<|by rw[UK];exact b];refine(h w c).wp λv w' f=> ?_;exact f _ (by rw[gG];exact h1) (by rw[Qu];exact d)<|Qj<|by rw[h1];exact gU hd
def zuy(b:xl ops env o=yL)(hd:kP N.n o.dst=I)(k:TL P N we Se ms Γ ops rest Q (put env o.dst wR)):TL P N we Se ms Γ ops (o::rest) Q env:=by
 intro w c a h1 d e;subst e;unfold vX;rw[ir<|by rw[UK,b];exact Bool.false_ne_true];exact⟨λ_ _=>xS,k w c _ (by rw[gG];exact h1) (by rw[Qu];exact d)<|Qj<|by rw[h1];exact gU hd⟩
def zqo{U:Type}{b:U->xn}{a:U->zC FF}{ok:U->Prop}(f:xl ops env o=I)(hd:kP N.n o.dst=I)
 (h:OpE P o env ms Γ b a ok) (k:∀u,ok u->TL P N we Se ms (a u++Γ) ops rest Q (put env o.dst<|b u)):TL P N we Se ms Γ ops (o::rest) Q env:=by
 refine zp9 f hd λw g=> ?_;have⟨h1,j,l,S,p,d,q,c,e⟩:=g;refine(h w S d c e).mono ?_;rintro v w' ⟨u,rfl,r,x,s⟩
 exact k u r w' ⟨h1.trans x,j,l,S,p,λk t=>d k<|PX x.size t,q,
  xd.keep x.to (λm y i hi=>x.block i (xd.lt c m y i hi) xS) c,zK.append s<|zK.keep x.to e⟩
def Y0{v:xn}(a:xl ops env o=I)(hd:kP N.n o.dst=I)(h:∀w,(wD (ev env) o).run P w=.ok (.value v) w)
 (k:TL P N we Se ms Γ ops rest Q (put env o.dst v)):TL P N we Se ms Γ ops (o::rest) Q env:=
 zp9 a hd λw b=>Yq.of_value (h w)<|k w b
end
def OG{ι:Type}(P:ww)(o:wT)(env:xt)(we:xN)(Se:K->Prop)(ms:N MF)(Γ:N FF)(a:ι->xn)(b:ι->N MF)(c:ι->N FF)(ok:ι->Prop):Prop:=
 ∀w,St we Se ms Γ w->Yq P o env w (λv w'=>∃i,v=a i/\ok i/\St we Se (b i) (c i) w')
section
variable{P:ww}{N:Nd}{we:xN}{Se:zV->Prop}{ms:zC MF}{Γ:zC FF}{Q:Qs}{env:xt}{ops:wL wT}{o:wT}{rest:zC wT}
def zsS{ι:Type}{a:ι->xn}{b:ι->zC MF}{c:ι->zC FF}{ok:ι->Prop}(d:xl ops env o=I)(hd:kP N.n o.dst=I)(h:OG P o env we Se ms Γ a b c ok)
 (k:∀i,ok i->TL P N we Se (b i) (c i) ops rest Q (put env o.dst<|a i)):TL P N we Se ms Γ ops (o::rest) Q env:=
 zp9 d hd λw f=>(h w f).mono λv w' ⟨i,e,hi,g⟩=>e▸k i hi w' g
def ze2{U:Type}{b:U->xn}{a:U->zC FF}{ok:U->Prop}(h:OpE P o env ms Γ b a ok):OG P o env we Se ms Γ b (λ_=>ms) (λu=>a u++Γ) ok:=by
 intro w ⟨h1,g,j,S,l,d,n,c,f⟩;refine(h w S d c f).mono ?_;rintro v w' ⟨u,e,p,x,q⟩
 exact⟨u,e,p,h1.trans x,g,j,S,l,λk r=>d k<|PX x.size r,n,
  xd.keep x.to (λm s i hi=>x.block i (xd.lt c m s i hi) xS) c,zK.append q<|zK.keep x.to f⟩
end
def pv(o:wT)(env:xt):V xn:=
 match o.op with
 |.move x|.assign x=>Z<|ev env x
 |.extract t i=>match ev env t with
  |.tuple vs=>vs[i]?
  |_=>yD
 |.pick c a b=>match ev env c with
  |.bool t=>Z<|bif t then ev env a else ev env b
  |_=>yD
 |.unOp .not _ x=>match ev env x with
  |.bool t=>Z (.bool !t)
  |_=>yD
 |.makeFunc f first d=>Z (.func f (first.map<|ev env)<|d.map<|ev env)
 |_=>yD
def sX{P:ww}{o:wT}{env:xt}{v:xn}(h:pv o env=Z v)(w:xN):(wD (ev env) o).run P w=.ok (.value v) w:=by
 unfold pv at h;unfold wD;split at h
 ·simp_all
 ·simp_all
 ·next t i e=>
  simp only[e];split at h
  ·next vs hv=>simp[hv,Instr.extract,h]
  ·cases h
 ·next c a b e=>
  simp only[e];split at h
  ·next t d=>cases h;cases t<;>simp[d,asBool]
  ·cases h
 ·next ty x e=>
  simp only[e];split at h
  ·next t d=>cases h;simp[d,Op.unary]
  ·cases h
 ·next f a b e=>cases h;simp[e,Instr.makeFunc]
 ·cases h
def Ic(N:K)(a:wL wT):zC wT->xt->V xt
 |[],env=>Z env
 |o::r,env=>bif kP N o.dst then(bif xl a env o then(match pv o env with
  |some v=>Ic N a r<|put env o.dst v
  |none=>yD)else(match o.guard with
  |some (j,b)=>bif gd a env j==Z (!b)then Ic N a r (put env o.dst wR)else yD
  |none=>yD))else yD
section
variable{P:ww}{N:Nd}{we:xN}{Se:zV->Prop}{ms:zC MF}{Γ:zC FF}{Q:Qs}{ops:wL wT}
def iH:∀(l:zC wT) (b:zC wT) (env a:xt),Ic N.n ops l env=Z a->TL P N we Se ms Γ ops b Q a->TL P N we Se ms Γ ops (l++b) Q env
 |[],_,env,a,h,k=>by cases h;exact k
 |o::r,b,env,a,h,k=>by
  unfold Ic at h;cases hd:kP N.n o.dst
  ·simp_all
  ·rw[hd]at h;cases d:xl ops env o
   ·rw[d]at h;simp only[vH]at h;split at h
    ·next j c f=>
     cases e:(gd ops env j==Z (!c))
     ·simp_all
     ·rw[e]at h;exact zuy d hd<|iH r b _ _ h k
    ·cases h
   ·rw[d]at h
    cases hp:pv o env with
    |none=>rw[hp]at h;cases h
    |some v=>rw[hp]at h;exact Y0 d hd (λw=>sX hp w)<|iH r b _ _ h k
def chk(env:V xt)(live:zC (K×xn)):Prop:=match env with
 |some env=>gb env live
 |none=>jN
def zbJ(n:K)(live:zC (K×xn)){l:zC wT}{env:xt}(h:chk (Ic N.n ops (l.take n) env) live)(k:∀rest,TL P N we Se ms Γ ops (l.drop n) Q<|L live rest):TL P N we Se ms Γ ops l Q env:=by
 rw[<-xbw n l]
 cases hp:Ic N.n ops (l.take n) env with
 |none=>rw[hp]at h;exact h.elim
 |some a=>
  rw[hp]at h;refine iH _ _ _ _ hp ?_;exact zps live h k
end
structure UI(P:ww)(t:wn)(agg:ws)(size bytes:K)(zero:xn):Prop where
 und:∃d,P.underlying t=Z d/\(match d with|.struct _|.array _ _=>I|_=>yL)=agg
 info:∃i,P.info? t=Z i/\i.size=size/\i.bytes=bytes/\i.zero=Z zero
def tyB(P:ww)(t:wn):V (ws×K×K×V xn):=
 match P.underlying t,P.info? t with
 |some d,Z i=>Z ((match d with|.struct _|.array _ _=>I|_=>yL),i.size,i.bytes,i.zero)
 |_,_=>yD
def UI.of{P:ww}{t:wn}{agg:ws}{size bytes:K}{a:xn}(h:tyB P t=Z (agg,size,bytes,Z a)):UI P t agg size bytes a:=by
 unfold tyB at h;split at h
 ·next d i hd hi=>
  simp only[xao,xcZ]at h;exact⟨⟨d,hd,h.1⟩,i,hi,h.2.1,h.2.2.1,h.2.2.2⟩
 ·cases h
def jY(b o j:K):(⟨b,o,yD⟩:kG).add j=⟨b,o+j,yD⟩:=by unfold Addr.add;split<;>simp_all
def zbu{P:ww}{t:wn}{agg:ws}{size bytes:K}{a:xn}(b:UI P t agg size bytes a)(w:xN):(isAgg t).run P w=.ok agg w:=by
 have⟨⟨d,hd,c⟩,_⟩:=b;unfold isAgg;simp only[xau,wE hd];cases d<;>simp_all
def wM{P:ww}{t:wn}{agg:ws}{size bytes:K}{a:xn}(b:UI P t agg size bytes a)(w:xN):(qo t).run P w=.ok size w:=by
 have⟨_,i,hi,h1,_⟩:=b;simp[qo,qL,hi,h1]
def Zu{P:ww}{t:wn}{agg:ws}{size bytes:K}{a:xn}(b:UI P t agg size bytes a)(w:xN):(Zl t).run P w=.ok a w:=by
 have⟨_,i,hi,_,_,h1⟩:=b;simp[Zl,qL,hi,h1]
def zce{P:ww}{α:Type}{e:ye α}{t:wn}{bytes:K}{a:xn}(f:UI P t e.agg e.n bytes a){w w0:xN}{b o:K}{cs:N xn}{S:K->Prop}{x:α}
 (hp:e.p S x cs w0) (g:At w b o cs):(Z6 t ⟨b,o,yD⟩).run P w=.ok (e.val cs) w:=by
 unfold Z6;rw[xau,zbu f];cases d:e.agg
 ·have hl:=e.len hp;rw[e.n1 d]at hl;obtain⟨c,rfl⟩:=xdi.1 hl;have:=g.2 0 c O;simp only[xbM]at this;simp[this,ye.val,d]
 ·have hl:=e.len hp;have hc:=uP (P:=P) w ⟨b,o,yD⟩ cs (λj v hv=>by rw[jY];exact g.2 j v hv);rw[hl]at hc;simp[wM f,hc,ye.val,d]
def oc{P:ww}{α:Type}{e:ye α}{t:wn}{bytes:K}{a:xn}(c:UI P t e.agg e.n bytes a){w:xN}{b o:K}{cs:N xn}{S:K->Prop}{x:α}
 (hp:e.p S x cs w) (d:At w b o cs):(Z6 t ⟨b,o,yD⟩).run P w=.ok (e.val cs) w:=zce c hp d
section
variable{P:ww}{env:xt}{ms:zC MF}{Γ:zC FF}{d:z7 vn}{ty:wn}{pos:String}{aft:wL Edge}{g:z7 (zV×ws)}
def zvp{α:Type}{e:ye α}{xs:N α}{v:xn}{x:wr}{a c:wn}(f:P.underlying a=Z (.slice c))(h:ev env x=v)(i:∀(S:K->Prop) (w:xN),zK S Γ w->(fV (eS e) xs v).p S w):
 OpE P ⟨d,.call ⟨.builtin .len,#[x],#[a]⟩,ty,pos,aft,g⟩ env ms Γ (λ_:wW=> .int .i64 (X xs:J)) (λ_=>[]) (λ_=>X xs<=9223372036854775807):=by
 intro w S _ _ b;have⟨k,cap,hv,hc,j,_⟩:=wc.1<|i S w b;refine Yq.of_value ?_ ⟨(),O,PX hc j,yO.refl _ _,xS⟩;simp[wD,vS,qR,ut,h,hv,Builtin.len_,Z7,wE f]
def ze1{α:Type}{e:ye α}{t c:wn}{bytes:K}{a:xn}(f:P.underlying t=Z (.slice c))(h:UI P c e.agg e.n bytes a){w:xN}{b o n cap k:K}
 (i:k<n) (ik:vu):(Instr.indexAt t (.slice (Z ⟨b,o,yD⟩) n cap) (.int ik (k:J))).run P w=.ok (.pointer<|some ⟨b,o+k*e.n,yD⟩) w:=by
 unfold Instr.indexAt;have:(0:J)<=k/\(k:J)<n:=W
 simp only[jp,wE f,xau,xaO,xai,iq this,wM h,jY,xaJ]
theorem zo4{α:Type}{e:ye α}{xs:N α}{v:xn}{x i:wr}{t h:wn}{bytes:K}{a:xn}{k:K}{y:α}{ik:vu}(q:ev env x=v)(hi:ev env i=.int ik (k:J))
 (r:P.underlying t=Z (.slice h)) (s:UI P h e.agg e.n bytes a) (l:xs[k]? =Z y) (u:∀(S:K->Prop) (w:xN),zK S Γ w->(fV (eS e) xs v).p S w):
 OpE P ⟨d,.indexAddr t x i,ty,pos,aft,g⟩ env ms Γ (λp:xn=>p) (λp=>[fP e y p]) (λ_=>vF):=by
 intro w S _ _ f;have⟨E,cap,hv,h1,F,z⟩:=wc.1<|u S w f;have A:=(xav.1 l).1;obtain rfl|⟨b,o,cs,rfl,B,m,C⟩:=z
 ·grind
 ·refine Yq.of_value (v:=.pointer<|some ⟨b,o+k*e.n,yD⟩) ?_ ⟨_,O,xS,yO.refl _ _,⟨⟨b,o+k*e.n,?_⟩,xS⟩⟩
  ·simp[wD,q,hi,hv,ze1 r s A]
  ·have⟨c,hc,D⟩:=C.get l;refine⟨c,O,B,⟨m.1,λj v hv=> ?_⟩,hc⟩;have hd:j<e.n:=by rw[<-e.len hc];exact(xav.1 hv).1
   rw[xcL];exact m.2 _ v<|by rw[D j hd];exact hv
def zqk{α:Type}{e:ye α}{y:α}{p:xn}{x:wr}{t:wn}{bytes:K}{a:xn}(h:ev env x=p)(i:UI P t e.agg e.n bytes a)
 (j:∀(S:K->Prop) (w:xN),zK S Γ w->(fP e y p).p S w):
 OpE P ⟨d,.load t x,ty,pos,aft,g⟩ env ms Γ (λv:xn=>v) (λv=>[fV e y v]) (λ_=>vF):=by
 intro w S _ _ c;obtain⟨b,o,cs,rfl,l,k,f⟩:=j S w c;refine Yq.of_value ?_ ⟨_,O,xS,yO.refl _ _,⟨⟨cs,O,f⟩,xS⟩⟩;simp[wD,h,Instr.loadAt,xfi,oc i f k]
def zfg{α:Type}{e:ye α}{xs:N α}{v:xn}{x:wr}{lo hi:V wr}{t j:wn}{bytes:K}{a:xn}{l h:K}(q:ev env x=v)
 (k:P.underlying t=Z (.slice j)) (r:UI P j e.agg e.n bytes a) (hl:(lo.map<|ev env)=Z (.int .i64 (l:J))\/(lo=yD/\l=0)) (c:(hi.map<|ev env)=Z (.int .i64 (h:J))\/(hi=yD/\h=X xs))
 (B:l<=h) (C:h<=X xs) (s:∀(S:K->Prop) (w:xN),zK S Γ w->(fV (eS e) xs v).p S w):
 OpE P ⟨d,.slice t x lo hi yD,ty,pos,aft,g⟩ env ms Γ (λp:xn=>p) (λp=>[fV (eS e) ((xs.drop l).take<|h-l) p]) (λ_=>vF):=by
 intro w S _ _ i;have⟨f,cap,hv,h1,D,u⟩:=wc.1<|s S w i;have b1:(0:J)<=(l:J)/\(l:J)<=(h:J):=W
 have b2:(0:J)<=(h:J)/\(h:J)<=(cap:J):=W
 have hd:(xcS t v (lo.map<|ev env) (hi.map<|ev env) yD).run P w=.ok (.slice (if cap=l then f else f.map (·.add (l*e.n))) (h-l)<|cap-l) w:=by
  unfold xcS;rw[hv];simp only[xau,wE k,xai];unfold xfC;simp only[xau,wE k,xai];unfold xed
  obtain hl|⟨hl,rfl⟩:=hl<;>obtain c|⟨c,rfl⟩:=c<;>
   simp only[hl,c,xeo,jp,Option.map_none,xau,xaO,xai,iq b1,iq b2,wM r,xaJ]
 refine Yq.of_value (w':=w) (v:=.slice (if cap=l then f else f.map (·.add (l*e.n))) (h-l)<|cap-l) ?_ ⟨_,O,xS,yO.refl _ _,⟨?_,xS⟩⟩
 ·simp[wD,q,hd]
 ·have m:X ((xs.drop l).take<|h-l)=h-l:=by simp;lia
  refine wc.2 ⟨_,cap-l,by rw[m],by rw[m];lia,W,?_⟩;obtain rfl|⟨b,o,cs,rfl,y,z,A⟩:=u
  ·left;simp
  ·by_cases hc:cap=l
   ·left;have:h-l=0:=W
    simp[this]
   ·right;refine⟨b,o+l*e.n,(cs.drop<|l*e.n).take<|(h-l)*e.n,by simp[hc,jY],y,(z.drop _).take _,(A.drop l).take<|h-l⟩
end
end
section
section
variable{P:ww}{env:xt}{Γ:zC FF}{d:z7 vn}{ty yt t:wn}{pos:String}{aft:wL Edge}{g:z7 (zV×ws)}{x y:wr}
def w64{x:J}(h: -9223372036854775808<=x/\x<=9223372036854775807):xcO.wrap x=x:=IntWalk.i64_in x h
def zyN(n:K):xcw.wrap (n:J)=((n%18446744073709551616:K):J):=by
 rfl
theorem DW{n:K}(h:n<18446744073709551616):xcw.wrap (n:J)=(n:J):=by rw[zyN,xag h]
def O8(x:J):xcw.wrap x=x%18446744073709551616:=by
 rfl
def Im{c:qS}{k:vu}{a b:J}{v:xn}(e:ev env x=.int k a)(f:ev env y=.int k b)(hv:∀w,(qC c t (.int k a) (.int k b)).run P w=.ok v w)(w:xN):
 (wD (ev env) ⟨d,.binOp c t x y yt,ty,pos,aft,g⟩).run P w=.ok (.value v) w:=by
 have:(qZ c t x y (.int k a) (.int k b)).run P w=.ok () w:=by
  unfold qZ;simp_all
 simp only[wD,e,f,xau,this,xai,hv,xaO]
def RA{k:vu}{a b c:J}(e:ev env x=.int k a)(f:ev env y=.int k b)(hc:k.wrap (a+b)=c)(w:xN):
 (wD (ev env) ⟨d,.binOp .add t x y yt,ty,pos,aft,g⟩).run P w=.ok (.value (.int k c)) w:=
 Im e f (λw=>by simp[qC,Op.intArith,hc]) w
def zn3{k:vu}{a b c:J}(e:ev env x=.int k a)(f:ev env y=.int k b)(hc:k.wrap (a-b)=c)(w:xN):
 (wD (ev env) ⟨d,.binOp .sub t x y yt,ty,pos,aft,g⟩).run P w=.ok (.value (.int k c)) w:=
 Im e f (λw=>by simp[qC,Op.intArith,hc]) w
def zsr{k:vu}{a b c:J}(e:ev env x=.int k a)(f:ev env y=.int k b)(hc:k.wrap (a*b)=c)(w:xN):
 (wD (ev env) ⟨d,.binOp .mul t x y yt,ty,pos,aft,g⟩).run P w=.ok (.value (.int k c)) w:=
 Im e f (λw=>by simp[qC,Op.intArith,hc]) w
def zs2{k:vu}{a b c:J}(e:ev env x=.int k a)(f:ev env y=.int k b)(h0:b≠0)(hc:k.wrap (a.tdiv b)=c)(w:xN):
 (wD (ev env) ⟨d,.binOp .quo t x y yt,ty,pos,aft,g⟩).run P w=.ok (.value (.int k c)) w:=
 Im e f (λw=>by simp[qC,Op.intDiv,h0,hc]) w
def zsZ{k:vu}{a b c:J}(e:ev env x=.int k a)(f:ev env y=.int k b)(h0:b≠0)(hc:a.tmod b=c)(w:xN):
 (wD (ev env) ⟨d,.binOp .rem t x y yt,ty,pos,aft,g⟩).run P w=.ok (.value (.int k c)) w:=
 Im e f (λw=>by simp[qC,Op.intDiv,h0,hc]) w
def NJ{k e:vu}{a b c:J}(f:ev env x=.int k a)(h:ev env y=.int e b)(h0:0<=b)(hc:a.fdiv (2^(min b.toNat k.bits))=c)(w:xN):
 (wD (ev env) ⟨d,.binOp .shr t x y yt,ty,pos,aft,g⟩).run P w=.ok (.value (.int k c)) w:=by
 have:¬b<0:=W
 simp[wD,f,h,qZ,qC,Op.shift,this,hc]
def zi6{k e:vu}{a b c:J}(f:ev env x=.int k a)(h:ev env y=.int e b)(h0:0<=b)(hc:k.wrap (a*2^(min b.toNat k.bits))=c)(w:xN):
 (wD (ev env) ⟨d,.binOp .shl t x y yt,ty,pos,aft,g⟩).run P w=.ok (.value (.int k c)) w:=by
 have:¬b<0:=W
 simp[wD,f,h,qZ,qC,Op.shift,this,hc]
def ztg{k:vu}{a b c:J}(e:ev env x=.int k a)(f:ev env y=.int k b)(hc:k.wrap (((a%2^k.bits).toNat &&& (b%2^k.bits).toNat:K):J)=c)(w:xN):
 (wD (ev env) ⟨d,.binOp .and t x y yt,ty,pos,aft,g⟩).run P w=.ok (.value (.int k c)) w:=
 Im e f (λw=>by simp[qC,Op.intBits,hc]) w
def zvZ{k:vu}{a b c:J}(e:ev env x=.int k a)(f:ev env y=.int k b)(hc:k.wrap (((a%2^k.bits).toNat|||(b%2^k.bits).toNat:K):J)=c)(w:xN):
 (wD (ev env) ⟨d,.binOp .or t x y yt,ty,pos,aft,g⟩).run P w=.ok (.value (.int k c)) w:=
 Im e f (λw=>by simp[qC,Op.intBits,hc]) w
def ztd{k:vu}{a c:J}(b:ev env x=.int k a)(hc:k.wrap (0-a)=c)(w:xN):
 (wD (ev env) ⟨d,.unOp .neg t x,ty,pos,aft,g⟩).run P w=.ok (.value (.int k c)) w:=by
 simp only[wD,b,Op.unary,Op.intArith,hc,xau,xaO,xai]
def Ku{k e:vu}{src b:wn}{f:TypeDesc}{a c:J}(h:P.underlying src=Z f)(hd:P.underlying b=Z (.int e))(i:ev env x=.int k a)(hc:e.wrap a=c)(w:xN):
 (wD (ev env) ⟨d,.convert src b x,ty,pos,aft,g⟩).run P w=.ok (.value (.int e c)) w:=by
 simp[wD,i,convert,wE h,wE hd,Conv.intToInt,hc]
def zwq{a b:J}{ts:wL wn}(c:ev env x=.int .i64 a)(f:ev env y=.int .i64 b)(w:xN):
 (wD (ev env) ⟨d,.call ⟨.builtin .max,#[x,y],ts⟩,ty,pos,aft,g⟩).run P w=.ok (.value (.int .i64<|max a b)) w:=by
 have e:(if b>a then b else a)=max a b:=W
 simp only[wD,vS,qR,ut,xdS,xch,xew,c,f,Builtin.max_,Builtin.max2,xau,xaO,xai,List.foldlM_cons,List.foldlM_nil,e]
def zwM{a b:J}{ts:wL wn}(c:ev env x=.int .i64 a)(f:ev env y=.int .i64 b)(w:xN):
 (wD (ev env) ⟨d,.call ⟨.builtin .min,#[x,y],ts⟩,ty,pos,aft,g⟩).run P w=.ok (.value (.int .i64<|min a b)) w:=by
 have e:(if b<a then b else a)=min a b:=W
 simp only[wD,vS,qR,ut,xdS,xch,xew,c,f,Builtin.min_,Builtin.min2,xau,xaO,xai,List.foldlM_cons,List.foldlM_nil,e]
end
end
section
def zek{α:Type}(l:N α){n:K}(h:X l<=n):l.drop n=[]:=xbS h
section
variable{P:ww}{N:Nd}{we:xN}{Se:zV->Prop}{ms:zC MF}{Γ:zC FF}{Q:Qs}{env:xt}{ops:wL wT}{rest:zC wT}
 {d:z7 vn}{ty yt t:wn}{pos:String}{aft:wL Edge}{g:z7 (zV×ws)}{x y:wr}
def Iy{e:qS}{k:vu}{a b:J}{c:ws}(f:ev env x=.int k a)(h:ev env y=.int k b)
 (hc:∀w,(qC e t (.int k a) (.int k b)).run P w=.ok (.bool c) w) (w:xN):(wD (ev env) ⟨d,.binOp e t x y yt,ty,pos,aft,g⟩).run P w=.ok (.value (.bool c)) w:=Im f h hc w
def zhk{k:vu}{a b:J}(c:xl ops env ⟨d,.binOp .geq t x y yt,ty,pos,aft,g⟩=I)(hd:kP N.n d=I)(e:ev env x=.int k a)(f:ev env y=.int k b)
 (k1:b<=a->TL P N we Se ms Γ ops rest Q (put env d (.bool I))) (k2:¬b<=a->TL P N we Se ms Γ ops rest Q (put env d (.bool yL))):
 TL P N we Se ms Γ ops (⟨d,.binOp .geq t x y yt,ty,pos,aft,g⟩::rest) Q env:=by
 by_cases h:b<=a
 ·exact Y0 c hd (Iy e f λw=>by simp[qC,xfD,h])<|k1 h
 ·exact Y0 c hd (Iy e f λw=>by simp[qC,xfD,h])<|k2 h
def zn4{k:vu}{a b:J}(c:ev env x=.int k a)(e:ev env y=.int k b)(w:xN):(wD (ev env) ⟨d,.binOp .lss t x y yt,ty,pos,aft,g⟩).run P w=.ok (.value (.bool<|decide<|a<b)) w:=
 Iy c e (λw=>by simp[qC,xfD]) w
def zn2{k:vu}{a b:J}(c:ev env x=.int k a)(e:ev env y=.int k b)(w:xN):(wD (ev env) ⟨d,.binOp .leq t x y yt,ty,pos,aft,g⟩).run P w=.ok (.value (.bool<|decide<|a<=b)) w:=
 Iy c e (λw=>by simp[qC,xfD]) w
def znI{k:vu}{a b:J}(c:ev env x=.int k a)(e:ev env y=.int k b)(w:xN):(wD (ev env) ⟨d,.binOp .gtr t x y yt,ty,pos,aft,g⟩).run P w=.ok (.value (.bool<|decide<|b<a)) w:=
 Iy c e (λw=>by simp[qC,xfD]) w
def zmu{k:vu}{a b:J}(c:ev env x=.int k a)(e:ev env y=.int k b)(w:xN):(wD (ev env) ⟨d,.binOp .geq t x y yt,ty,pos,aft,g⟩).run P w=.ok (.value (.bool<|decide<|b<=a)) w:=
 Iy c e (λw=>by simp[qC,xfD]) w
def zpC{k:vu}{a b:J}(c:ev env x=.int k a)(e:ev env y=.int k b)(w:xN):(wD (ev env) ⟨d,.binOp .eql t x y yt,ty,pos,aft,g⟩).run P w=.ok (.value (.bool<|decide<|a=b)) w:=
 Iy c e (λw=>by simp[qC,xfD];by_cases h:a=b<;>simp[h]) w
def zmI{k:vu}{a b:J}(c:ev env x=.int k a)(e:ev env y=.int k b)(w:xN):(wD (ev env) ⟨d,.binOp .neq t x y yt,ty,pos,aft,g⟩).run P w=.ok (.value (.bool (!decide (a=b)))) w:=
 Iy c e (λw=>by simp[qC,xfD];by_cases h:a=b<;>simp[h]) w
def rb{a b:ws}(c:P.underlying t=Z .bool)(w:xN):(Op.equal t (.bool a) (.bool b)).run P w=.ok (a==b) w:=by
 show(Op.equalIn (9999+1) t (.bool a) (.bool b)).run P w=_;unfold Op.equalIn;simp only[xau,wE c,xai,xaO]
def zw4{a b:ws}(c:P.underlying t=Z .bool)(e:ev env x=.bool a)(f:ev env y=.bool b)(w:xN):
 (wD (ev env) ⟨d,.binOp .eql t x y yt,ty,pos,aft,g⟩).run P w=.ok (.value (.bool<|a==b)) w:=by
 have h:(qZ .eql t x y (.bool a) (.bool b)).run P w=.ok () w:=by simp[qZ]
 have i:(qC .eql t (.bool a) (.bool b)).run P w=.ok (.bool<|a==b) w:=by simp only[qC,xau,rb c,xai,xaO]
 simp only[wD,e,f,xau,h,i,xai,xaO]
def zv6{a b:ws}(c:P.underlying t=Z .bool)(e:ev env x=.bool a)(f:ev env y=.bool b)(w:xN):
 (wD (ev env) ⟨d,.binOp .neq t x y yt,ty,pos,aft,g⟩).run P w=.ok (.value (.bool (!(a==b)))) w:=by
 have h:(qZ .neq t x y (.bool a) (.bool b)).run P w=.ok () w:=by simp[qZ]
 have i:(qC .neq t (.bool a) (.bool b)).run P w=.ok (.bool (!(a==b))) w:=by simp only[qC,xau,rb c,xai,xaO]
 simp only[wD,e,f,xau,h,i,xai,xaO]
def Tj(P:ww)(f:vi):ws:=match P.funcs[f]? with
 |some fn=> !(fn.name== "runtime.NumGoroutine") && fn.body.isSome
 |none=>yL
def Za{f:vi}(h:Tj P f=I)(args:wL xn)(w:xN):(Z8 f args).run P w=.ok (.enter f args) w:=by
 unfold Tj at h;unfold Z8;split at h
 ·next fn a=>
  simp only[Th,xcM]at h;have b:fn.body.isNone=yL:=by simpa using h.2
  simp only[xau,run_program,xai,a,h.1,b,xaj,wP,xaO]
 ·cases h
def zxS{U:Type}{b:U->xn}{a:U->zC FF}{ok:U->Prop}{c:zC FF}{f:vi}{asv:zC wr}{ts:wL wn}{args:zC xn}(i:Tj P f=I)
 (j:Fn P f args.toArray c b a ok) (k:asv.map (ev env)=args) (l:∀(S:K->Prop) (w:xN),zK S Γ w->zK S c w):
 OpE P ⟨d,.call ⟨.value (.func f),asv.toArray,ts⟩,ty,pos,aft,g⟩ env ms Γ b a ok:=by
 intro w S m _ h;unfold Yq;have:(wD (ev env) ⟨d,.call ⟨.value (.func f),asv.toArray,ts⟩,ty,pos,aft,g⟩).run P w=.ok (.enter f args.toArray) w:=by simp[wD,vS,ev,xdx,qR,Za i,k]
 rw[this];exact(j w S m<|l S w h).mono λe w' ⟨u,n,o,p,hc⟩=>⟨b u,n,u,O,o,p,hc⟩
def FK{U:Type}{b:U->xn}{a:U->zC FF}{ok:U->Prop}{c:zC FF}{f:vi}{asv:zC wr}{ts:wL wn}{args iG:zC xn}{x:wr}(j:Tj P f=I)
 (h:ev env x=.func (.func f) #[] iG.toArray) (k:Fn P f (args++iG).toArray c b a ok) (l:asv.map (ev env)=args) (m:∀(S:K->Prop) (w:xN),zK S Γ w->zK S c w):
 OpE P ⟨d,.call ⟨.value x,asv.toArray,ts⟩,ty,pos,aft,g⟩ env ms Γ b a ok:=by
 intro w S n _ i;unfold Yq;have:(wD (ev env) ⟨d,.call ⟨.value x,asv.toArray,ts⟩,ty,pos,aft,g⟩).run P w=.ok (.enter f (args++iG).toArray) w:=by simp[wD,vS,h,xdx,qR,Za j,l]
 rw[this];exact(k w S n<|m S w i).mono λe w' ⟨u,o,p,h,hc⟩=>⟨b u,o,u,O,p,h,hc⟩
def FY(off:K):∀(c:zC xn) (k:K) (a:wL xn),off+k+X c<=a.size->
 ((c.zipIdx k).foldl (λcs (x:xn×K)=>cs.setIfInBounds (off+x.2) x.1) a).toList=a.toList.take (off+k)++c++a.toList.drop (off+k+X c)
 |[],k,a,h=>by simp
 |v::c,k,a,h=>by
  simp only[xar]at h;rw[List.zipIdx_cons,List.foldl_cons];have:=FY off c (k+1) (a.setIfInBounds (off+k) v) (by simp;lia);rw[this];simp only[Array.toList_setIfInBounds,xar];have b:off+k<X a.toList:=by simp;lia
  rw[(W:off+(k+1)=off+k+1),xdT,iq b];have e1:X (a.toList.take<|off+k)=off+k:=by simp;lia
  rw[List.take_append,List.drop_append,e1];simp only[(W:off+k+1-(off+k)=1),xek,List.take_zero,(W:off+k+1+X c-(off+k)=X c+1),List.drop_succ_cons];rw[xaQ (by rw[e1];lia),zek (xdo (off+k) a.toList) (by rw[e1];lia),List.drop_drop];simp only[xbF,xal,xbJ,xbF];congr 3;congr 1;lia
def kT(parts:zC (K×xn)):zC xn:=parts.flatMap λx=>x.2.cells.toList
def gX(a:K->V (K×K)):zC (K×xn)->K->Prop
 |[],_=>vF
 |(i,v)::r,off=>a i=Z (off,v.cells.size)/\gX a r (off+v.cells.size)
def C7{c:K->V (K×K)}:∀(parts:zC (K×xn)) (b z:zC xn),gX c parts (X b)->X (kT parts)<=X z->
 xdu c (b++z).toArray parts=Z (b++kT parts++z.drop (X (kT parts))).toArray
 |[],b,z,_,_=>by simp[xdu,kT]
 |(i,v)::r,b,z,⟨h1,e⟩,hl=>by
  simp only[kT,List.flatMap_cons,xak,xeH]at hl;have f:¬(X b+v.cells.size>(b++z).toArray.size):=by simp;lia
  have h:v.cells.zipIdx.foldl (λcs (x:xn×K)=>cs.setIfInBounds (X b+x.2) x.1) (b++z).toArray=((b++v.cells.toList)++z.drop v.cells.size).toArray:=by
   apply Array.ext';rw[<-Array.foldl_toList,Array.toList_zipIdx,FY (X b) v.cells.toList 0 _<|by simp;lia];simp
  unfold xdu;simp only[h1];rw[ir<|by simp only[ne_eq,Z3,decide_false,xel,kR];exact f];have:=C7 r (b++v.cells.toList) (z.drop v.cells.size) (by simpa using e) (by simp[kT]at*;lia);refine(wF (λa=>xdu c a r) h).trans<|this.trans ?_;simp[kT]
def zkA(i:K)(v:xn)(r:zC (K×xn)):kT ((i,v)::r)=v.cells.toList++kT r:=by simp[kT]
def zee{α:Type}{e:ye α}{z:α}{bytes:K}{a:xn}{parts:zC (K×wr)}{vs:zC (K×xn)}(o:UI P t I e.n bytes a)(s:e.agg=I)(u:a.cells.size=e.n)
 (hv:parts.map (λx=>(x.1,ev env x.2))=vs)
 (hc:(∃fs,P.underlying t=Z (.struct fs)/\∃pl:wL (K×K),(∀w,(fs.mapM (λf=>do pure (f.offset,<-qo f.type)):Sem (wL<|K×K)).run P w=.ok pl w)/\(∀(S:K->Prop) (w:xN),zK S Γ w->gX (pl[·]?) vs 0))\/
  (∃k l n b2 z2 j,P.underlying t=Z (.array k l)/\UI P l j n b2 z2/\(∀(S:K->Prop) (w:xN),zK S Γ w->gX (λi=>Z (i*n,n)) vs 0)))
 (hp:∀(S:K->Prop) (w:xN),zK S Γ w->e.p S z (kT vs) w):
 OpE P ⟨d,.build t parts.toArray,ty,pos,aft,g⟩ env ms Γ (λv:xn=>v) (λv=>[fV e z v]) (λ_=>vF):=by
 intro w S _ _ c;have q:=hp S w c;have hl:=e.len q;have A:X a.cells.toList=e.n:=by simpa using u
 refine Yq.of_value (w':=w) (v:=.agg (kT vs).toArray) ?_ ⟨_,O,xS,yO.refl _ _,⟨⟨kT vs,by simp[ye.val,s],q⟩,xS⟩⟩;have r:∀b,gX b vs 0->xdu b a.cells vs=Z (kT vs).toArray:=by
  intro b h;have:=C7 vs [] a.cells.toList h (by rw[hl,A];exact eZ _);simp_all
 have hi:parts.toArray.map (λx=>(x.1,ev env x.2))=vs.toArray:=by rw[<-hv];simp
 simp only[wD,xau];have B:(Instr.build t<|parts.toArray.map λx=>(x.1,ev env x.2)).run P w=.ok (.agg (kT vs).toArray) w:=by
  rw[hi];unfold Instr.build;rcases hc with⟨fs,m,pl,hc,hd⟩|⟨k,l,n,b2,z2,j,m,C,hd⟩
  ·simp only[xau,Zu o,xai,wE m,hc,r _<|hd S w c,xaO]
  ·simp only[xau,Zu o,xai,wE m,wM C,r _<|hd S w c,xaO]
 rw[B];rfl
def zjn{α:Type}{e:ye α}{y:α}{v:xn}{S:K->Prop}{w:xN}(h:(fV e y v).p S w):v.cells.size=e.n:=by
 have:=e.len<|Xe h;simpa using this
def zaC{α:Type}{e:ye α}{c:wn}{zs:zC α}{len bytes:K}{a:xn}{parts:zC (K×wr)}{vs:zC (K×xn)}(m:P.underlying t=Z (.slice c))(j:UI P c e.agg e.n bytes a)
 (hn:0<e.n) (hd:X zs=len) (u:len*e.n<=16777216) (hv:parts.map (λx=>(x.1,ev env x.2))=vs)
 (o:∀(S:K->Prop) (w:xN),zK S Γ w->gX (λi=>Z (i*e.n,e.n)) vs 0) (hp:∀(S:K->Prop) (w:xN),zK S Γ w->xa e S zs (kT vs) w):
 OpE P ⟨d,.buildSlice t len parts.toArray,ty,pos,aft,g⟩ env ms Γ (λv:xn=>v) (λv=>[fV (eS e) zs v]) (λ_=>vF):=by
 intro w S p _ h;have k:=hp S w h;have hl:X (kT vs)=len*e.n:=by rw[k.len,hd]
 have x:=dN.alloc w (.cells (kT vs).toArray c);refine Yq.of_value (w':=w.alloc (.cells (kT vs).toArray c)) (v:=.slice (Z ⟨w.heap.size,0,yD⟩) len len) ?_ ⟨_,O,xS,x,⟨wc.2 ?_,xS⟩⟩
 ·have hi:parts.toArray.map (λx=>(x.1,ev env x.2))=vs.toArray:=by rw[<-hv];simp
  have hc:xdu (λi=>Z (i*e.n,e.n)) ((xeI<|len*e.n).map (a.cells[·%a.cells.size]!)) vs=Z (kT vs).toArray:=by
   have:=C7 vs [] ((xeI<|len*e.n).map (a.cells[·%a.cells.size]!)).toList (o S w h) (by simp[hl]);rw[xbF,xdf,xbF,xbS (by simp[hl]),xbN]at this;exact this
  have q:(xep t len<|parts.toArray.map λx=>(x.1,ev env x.2)).run P w=.ok (.slice (Z ⟨w.heap.size,0,yD⟩) len len) (w.alloc (.cells (kT vs).toArray c)):=by
   rw[hi];unfold xep;simp only[xau,wE m,xai,wM j,ir (W:¬len*e.n>2^24),Zv];by_cases h0:len*e.n=0
   ·have z:kT vs=[]:=xbk (by rw[hl,h0]);have r:xdu (λi=>Z (i*e.n,e.n)) ((xeI 0).map ((#[]:wL xn)[·%(#[]:wL xn).size]!)) vs=Z (kT vs).toArray:=by
     have l:∀f:K->xn,(xeI 0).map f= #[]:=λf=>by simp
     rw[<-hc,h0,l,l]
    simp only[h0,wN];simp only[r,xau,qV,xai,xaO]
   ·simp only[ir h0,xau,Zu j,xai,xaO,hc,qV]
  simp only[wD,xau,q,xai,xaO]
 ·have s:At (w.alloc (.cells (kT vs).toArray c)) w.heap.size 0 (kT vs):=by
   have:=At.row (b:=w.heap.size) (cs:=(kT vs).toArray) (t:=c) (fr:=(0,0))<|v6 w _;simpa using this
  refine SlP.of_at (p _<|eZ _) s (k.keep x.to) hd.symm W ?_;have:len<=len*e.n:=xcl _ hn;unfold qs;lia
def zu2{α:Type}{e:ye α}{E:wn}{z:α}{v:xn}(c:ev env x=v)(f:∀(S:K->Prop) (w:xN),zK S Γ w->(fV e z v).p S w):
 OpE P ⟨d,.box E x,ty,pos,aft,g⟩ env ms Γ (λv:xn=>v) (λp=>[fP e z p]) (λ_=>vF):=by
 intro w S i _ a;have h:=Xe<|f S w a;have b:=dN.alloc w (.cells v.cells E);refine Yq.of_value (w':=w.alloc (.cells v.cells E)) (v:=.pointer<|some ⟨w.heap.size,0,yD⟩) ?_ ⟨_,O,xS,b,⟨⟨w.heap.size,0,v.cells.toList,O,i _<|eZ _,At.row<|v6 w _,e.keep h b.to⟩,xS⟩⟩;simp[wD,c,Instr.box,newVar,Zv]
end
end
section
def Sub{α β:Type}(e:FZ α)(x:α)(o:K)(d:ye β)(g:β)(up:β->α):Prop:=
 ∀(S:K->Prop) (w:xN) (cs:N xn),e.p S x cs w->∃b c a,cs=b++c++a/\X b=o/\d.p S g c w/\∀(w':xN) y f,yO S w w'->d.p S y f w'->e.p S (up y) (b++f++a) w'
def Sub.self{α:Type}(e:ye α)(x:α):Sub e.c x 0 e x id:=
 λ_ _ cs h=>⟨[],cs,[],Xn,O,h,λ_ y b _ a=>by simpa[ye.c]using a⟩
def Sub.fst{α β:Type}(e:ye α)(f:ye β)(x:α×β):Sub (eP e f).c x 0 e x.1 (λy=>(y,x.2)):=by
 rintro S w cs ⟨c,d,rfl,hc,hd⟩;exact⟨[],c,d,Xn,O,hc,λw' y a k b=>⟨a,d,Xn,b,f.keep hd k⟩⟩
def Sub.snd{α β:Type}(e:ye α)(f:ye β)(x:α×β):Sub (eP e f).c x e.n f x.2 (λy=>(x.1,y)):=by
 rintro S w cs ⟨c,d,rfl,hc,hd⟩;exact⟨c,d,[],Xn,e.len hc,hd,λw' y a k b=>⟨c,a,Xn,e.keep hc k,b⟩⟩
def Sub.nth{α:Type}(k:K)(e:ye α)(xs:N α)(i:K)(x:α)(d:xs[i]? =Z x):Sub (eA k e).c xs (i*e.n) e x (λy=>xs.set i y):=by
 rintro S w cs ⟨hl,a⟩;obtain⟨hi,rfl⟩:=xav.1 d;have hd:=a.drop i;rw[xbK hi]at hd;have⟨c,r,h1,f,g⟩:=hd;have l:i*e.n<=X cs:=by rw[a.len];exact xaf _ W
 refine⟨cs.take<|i*e.n,c,r,?_,by simp;lia,f,λw' y h b j=>⟨by simpa using hl,?_⟩⟩
 ·rw[xal,<-h1,xbw]
 ·show xa e S (xs.set i y) _ w';rw[xdT,iq hi,xal];exact((a.keep b).take i).append ⟨h,r,O,j,g.keep b⟩
def Sub.row{α:Type}(e:ye α)(xs:N α)(i:K)(x:α)(d:xs[i]? =Z x):Sub (zwN e) xs (i*e.n) e x (λy=>xs.set i y):=by
 intro S w cs f;have⟨b,c,a,h1,g,h,j⟩:=Sub.nth (X xs) e xs i x d S w cs ⟨O,f⟩;exact⟨b,c,a,h1,g,h,λw' y k l m=>(j w' y k l m).2⟩
def Sub.comp{α β γ:Type}{e:FZ α}{x:α}{o m:K}{f:ye β}{y:β}{g:ye γ}{z:γ}{up:β->α}{b:γ->β}(h:Sub e x o f y up)(n:Sub f.c y m g z b):
 Sub e x (o+m) g z (λt=>up<|b t):=by
 intro S w cs p;obtain⟨j,c,d,rfl,h1,q,r⟩:=h S w cs p;obtain⟨i,s,a,rfl,u,v,hd⟩:=n S w c q;refine⟨j++i,s,a++d,Xn,by simp[h1,u],v,λw' t l k hc=> ?_⟩;have:=r w' _ _ k<|hd w' t l k hc;simp_all
section
variable{P:ww}{N:Nd}{we:xN}{Se:zV->Prop}{ms:zC MF}{Γ:zC FF}{Q:Qs}{env:xt}{ops:wL wT}{rest:zC wT}
 {d:z7 vn}{ty yt t:wn}{pos:String}{aft:wL Edge}{g:z7 (zV×ws)}{x y:wr}
def MQ{c:wn}{ag:ws}{e bytes:K}{a:xn}{b o n cap k:K}{ik:vu}(f:P.underlying t=Z (.slice c))(h:UI P c ag e bytes a)
 (i:ev env x=.slice (Z ⟨b,o,yD⟩) n cap) (hi:ev env y=.int ik (k:J)) (j:k<n) (w:xN):
 (wD (ev env) ⟨d,.indexAddr t x y,ty,pos,aft,g⟩).run P w=.ok (.value (.pointer<|some ⟨b,o+k*e,yD⟩)) w:=by
 have:(0:J)<=k/\(k:J)<n:=W
 simp only[wD,i,hi,Instr.indexAt,jp,wE f,xau,xaO,xai,iq this,wM h,jY,xaJ]
def zfp{c:wn}{ag:ws}{e bytes:K}{a:xn}{b o n k:K}{ik:vu}(f:P.underlying t=Z (.array n c))(h:UI P c ag e bytes a)
 (i:ev env x=.pointer (Z ⟨b,o,yD⟩)) (hi:ev env y=.int ik (k:J)) (j:k<n) (w:xN):
 (wD (ev env) ⟨d,.indexAddr t x y,ty,pos,aft,g⟩).run P w=.ok (.value (.pointer<|some ⟨b,o+k*e,yD⟩)) w:=by
 have:(0:J)<=k/\(k:J)<n:=W
 simp only[wD,i,hi,Instr.indexAt,xfi,jp,wE f,xau,xaO,xai,iq this,wM h,jY,xaJ]
theorem zkE{α β:Type}{e:ye α}{f:ye β}{z:α}{z':β}{up:β->α}{p:xn}{l:wn}{ag:ws}{h bytes:K}{a:xn}{n k:K}{ik:vu}(r:P.underlying t=Z (.array n l))(hc:UI P l ag h bytes a)
 (s:ev env x=p) (hi:ev env y=.int ik (k:J)) (u:k<n) (A:Sub e.c z (k*h) f z' up) (B:∀(S:K->Prop) (w:xN),zK S Γ w->(fP e z p).p S w):
 OpE P ⟨d,.indexAddr t x y,ty,pos,aft,g⟩ env ms Γ (λp:xn=>p) (λp=>[fP f z' p]) (λ_=>vF):=by
 intro w S _ _ i;obtain⟨b,o,cs,rfl,C,m,D⟩:=B S w i;obtain⟨E,c,q,rfl,h1,F,_⟩:=A S w cs D;refine Yq.of_value (zfp r hc s hi u w) ⟨_,O,xS,yO.refl _ _,⟨⟨b,o+k*h,c,O,C,⟨m.1,λj v hv=> ?_⟩,F⟩,xS⟩⟩;rw[xcL];refine m.2 _ v ?_;grind
def ziD(P:ww)(t:wn)(i:K):V K:=match P.underlying t with
 |some (.struct fs)=>match fs[i]? with
  |some f=>match P.info? f.type with
   |some a=>if a.size=0 then yD else Z f.offset
   |none=>yD
  |none=>yD
 |_=>yD
def zen{i off b o:K}(h:ziD P t i=Z off)(w:xN):(Instr.fieldAt t (.pointer<|some ⟨b,o,yD⟩) i).run P w=.ok (.pointer<|some ⟨b,o+off,yD⟩) w:=by
 unfold ziD at h;split at h
 ·next fs a=>
  split at h
  ·next f c=>
   split at h
   ·next e hi=>
    split at h
    ·cases h
    ·next j=>
     cases h;simp only[Instr.fieldAt,xau,wE a,xai,c,xfi,xaO,fieldPlace,qo,qL,run_program,hi,ir j,jY]
   ·cases h
  ·cases h
 ·cases h
def Ei{i off b o:K}(h:ziD P t i=Z off)(a:ev env x=.pointer (Z ⟨b,o,yD⟩))(w:xN):
 (wD (ev env) ⟨d,.fieldAddr t x i,ty,pos,aft,g⟩).run P w=.ok (.value (.pointer<|some ⟨b,o+off,yD⟩)) w:=by
 simp only[wD,a,xau,zen h,xai,xaO]
theorem zqb{α β:Type}{e:ye α}{f:ye β}{z:α}{z':β}{up:β->α}{p:xn}{i off:K}(h:ziD P t i=Z off)(m:ev env x=p)(n:Sub e.c z off f z' up)
 (q:∀(S:K->Prop) (w:xN),zK S Γ w->(fP e z p).p S w):OpE P ⟨d,.fieldAddr t x i,ty,pos,aft,g⟩ env ms Γ (λp:xn=>p) (λp=>[fP f z' p]) (λ_=>vF):=by
 intro w S _ _ a;obtain⟨b,o,cs,rfl,r,k,s⟩:=q S w a;obtain⟨u,c,l,rfl,h1,A,_⟩:=n S w cs s;refine Yq.of_value (Ei h m w) ⟨_,O,xS,yO.refl _ _,⟨⟨b,o+off,c,O,r,⟨k.1,λj v hv=> ?_⟩,A⟩,xS⟩⟩;rw[xcL];refine k.2 _ v ?_;grind
theorem St.muts{i:K}{m:MF}{w:xN}(h:St we Se ms Γ w)(hi:ms[i]? =Z m):∃S:K->Prop,m.p S w/\xd S ms w/\zK S Γ w:=by
 have⟨h1,c,e,S,f,j,k,a,b⟩:=h;exact⟨S,xd.get a hi,a,b⟩
def St.mut{i:K}{m:MF}{w:xN}(h:St we Se ms Γ w)(hi:ms[i]? =Z m):∃S:K->Prop,(∀k,w.heap.size<=k->S k)/\m.p S w/\zK S Γ w/\∀(Δ:zC FF),zK S Δ w->St we Se ms Δ w:=by
 have⟨h1,e,f,S,j,b,l,c,n⟩:=h;exact⟨S,b,xd.get c hi,n,λΔ a=>⟨h1,e,f,S,j,b,l,c,a⟩⟩
def At.mid{w:xN}{b:K}{cs:wL xn}{E:wn}{a c e:zC xn}(h:w.heap[b]? =Z (.cells cs E (0,0)))(f:cs.toList=a++c++e):At w b (X a) c:=by
 have:=((At.row h).drop (X a)).take (X c);simp_all
def JR{α β:Type}{e:FZ α}{E b:K}{z:α}{f:ye β}{o:K}{z':β}{up:β->α}{bytes:K}{a:xn}(i:K)
 (k:ms[i]? =Z (mB e E b z)) (l:ev env x=.pointer (Z ⟨b,o,yD⟩)) (m:Sub e z o f z' up) (p:UI P t f.agg f.n bytes a):
 OpE P ⟨d,.load t x,ty,pos,aft,g⟩ env ms Γ (λv:xn=>v) (λv=>[fV f z' v]) (λ_=>vF):=by
 intro w S _ q r;have⟨cs,s,hp⟩:=xd.get q k;have⟨u,c,h,hc,h1,j,_⟩:=m S w cs.toList hp;have A:=h1▸At.mid s hc;refine Yq.of_value ?_ ⟨_,O,xS,yO.refl _ _,zxE j,xS⟩;simp[wD,l,Instr.loadAt,xfi,oc p j A]
def UD(w:xN)(b:K)(cs:wL xn):yO (λk=>k≠b) w (w.setRow b cs):=
 ⟨O,O,O,Xn,λk _ a=>setRow_other w b k cs a⟩
def zcY{ag:ws}{n bytes:K}{f:xn}(j:UI P t ag n bytes f){w:xN}{b:K}{cs:wL xn}{E:wn}{a c e:zC xn}{v:xn}
 (h:w.heap[b]? =Z (.cells cs E (0,0))) (i:cs.toList=a++c++e) (hc:X c=n) (hv:X v.cells.toList=n) (h1:∀u∈v.cells.toList,u.oneCell'=I):
 (storeVar t ⟨b,X a,yD⟩ v).run P w=.ok () (w.setRow b (a++v.cells.toList++e).toArray):=by
 unfold storeVar;have k:cs.size=X (a++c++e):=by rw[<-i];simp
 have l:=uV P b (X a) E v.cells.toList 0 cs w h (by rw[k,hv];simp;lia) h1;have hd:v.cells.size=n:=by simpa using hv
 simp only[xau,wM j,xai,hd,ne_eq,Z3,wP];refine l.trans ?_;congr 2;rw[i,hv,xbM];congr 2
 ·rw[xal,List.take_left' O]
 ·rw[<-hc,<-xak,xfB O]
theorem Zn{α β:Type}{e:FZ α}{E b:K}{z:α}{f:ye β}{o:K}{z' y':β}{up:β->α}{bytes:K}{q v:xn}(i:K)(r:ms[i]? =Z (mB e E b z))(H:ev env x=.pointer (Z ⟨b,o,yD⟩))(J:ev env y=v)(s:Sub e z o f z' up)(L:UI P t f.agg f.n bytes q)
 (hv:∀(S:K->Prop) (w:xN),zK S Γ w->(fV f y' v).p S w):OG P ⟨yD,.store t x y,ty,pos,aft,g⟩ env we Se ms Γ (λ_:wW=>wR) (λ_=>(ms.set i<|mB e E b<|up y')) (λ_=>Γ) (λ_=>vF):=by
 intro w u;have⟨S0,_,⟨h,hd,M⟩,R,_⟩:=u.mut r;have⟨l,c0,a,A,B,hi,_⟩:=s S0 w h.toList M;have C:=Xe<|hv S0 w R;have hn:(wD (ev env) ⟨yD,.store t x y,ty,pos,aft,g⟩).run P w=.ok .skip (w.setRow b (l++v.cells.toList++a).toArray):=by
  have:=zcY L hd A (f.len hi) (f.len C)<|f.one C;rw[B]at this;simp only[wD,H,J,Instr.storeAt,xfi,xau,xaO,xai,this]
 refine Yq.of_skip hn ⟨(),O,xS,u.write r O O (UD w b _) ?_⟩;rintro S T ⟨cs,D,hp⟩ U;rw[hd]at D;cases D;have⟨m,c,j,F,hl,hc,V⟩:=s S w h.toList hp;have e1:m=l:=by
  have h1:m=h.toList.take o:=by rw[F,xal,<-hl,List.take_left' O]
  grind
 have Y:j=a:=by
  have h1:j=h.toList.drop (o+f.n):=by rw[F,<-hl,<-f.len hc,<-xak,xfB O]
  have h2:a=h.toList.drop (o+f.n):=by rw[A,<-B,<-f.len hi,<-xak,xfB O]
  rw[h1,h2]
 subst e1 Y;have G:yO S w (w.setRow b (m++v.cells.toList++j).toArray):=(UD w b _).weak λk _ hk=>T k hk;exact⟨_,Z5 w b h _ E (0,0) hd,by simpa using V _ y' _ G (f.keep (Xe<|hv S w U) G)⟩
def zke{α:Type}{e:ye α}{c:wn}{z:α}{n bytes:K}{zero:xn}{q:wr}{r s:vu}(u:P.underlying t=Z (.slice c))(A:UI P c e.agg e.n bytes zero)(B:ev env x=.int r (n:J))(C:ev env q=.int s (n:J))(D:bytes*n<=281474976710656)(hn:n<=9223372036854775807)
 (f:∀(S:K->Prop) (w:xN),e.p S z zero.cells.toList w):OG P ⟨d,.makeSlice t x q,ty,pos,aft,g⟩ env we Se ms Γ (λb=>(.slice (Z ⟨b,0,yD⟩) n n)) (λb=>(mR e c b (sR n z)::ms)) (λ_=>Γ) (λ_=>vF):=by
 intro w E;have⟨i,hi,h1,F,G⟩:=A.info;have H:=run_make (P:=P) w t c i zero u hi G r s (n:J) (n:J) W W (by rw[F,<-xda];exact Int.ofNat_le.2 D) W;have hd:X zero.cells.toList=e.n:=e.len<|f (λ_=>vF) w;have hc:(Z4 zero.cells<|n*i.size).toList=(sR n zero.cells.toList).flatten:=by
  rw[h1];apply xcC;intro j;have L:zero.cells.size=e.n:=by simpa using hd
  by_cases a:j<n*e.n
  ·have k:0<e.n:=xcm λh0=>by rw[h0]at a;simp at a
   have e1:(Z4 zero.cells<|n*e.n).toList[j]? =zero.cells.toList[j%e.n]? :=by
    have o:=xaI j k;simp[Z4,a,L,o]
   have M:((sR n zero.cells.toList).flatten)[j]? =zero.cells.toList[j%e.n]? :=by
    have:=(xa.replicate (f (λ_=>vF) w) n).get (i:=j/e.n) (x:=z) (by rw[xeQ,iq<|(xaM k).2 a]);exact flatten_get zero.cells.toList e.n hd k n j a
   rw[e1,M]
  ·rw[xbB (by simp[size_madeCells];lia),xbB<|by simp[hd];lia]
 refine Yq.of_value (w':=w.alloc (.cells (Z4 zero.cells<|n*i.size) c)) (v:=.slice (Z ⟨w.heap.size,0,yD⟩) n n) ?_ ⟨_,O,xS,E.fresh (dN.alloc w _) O Xn ?_⟩
 ·simp only[wD,B,C,xau,H,xai,xaO,xaJ]
 ·intro S _ _;refine⟨_,v6 w _,?_⟩;rw[hc];exact xa.replicate (f _ _) n
 where
 flatten_get (l:zC xn) (m:K) (hl:X l=m) (o:0<m):∀(n j:K),j<n*m->((sR n l).flatten)[j]? =l[j%m]?
  |0,j,h=>by simp at h
  |n+1,j,h=>by
   rw[xdM,List.flatten_cons];by_cases a:j<m
   ·rw[xbb W,xag a]
   ·rw[xbv W,hl,flatten_get l m hl o n (j-m) (by rw[xaT]at h;lia),<-Nat.mod_eq_sub_mod W]
end
end
section
section
variable{we:xN}{Se:zV->Prop}{ms:zC MF}{Γ Δ:zC FF}{w w':xN}
theorem St.growM{i:K}{m m':MF}(h:St we Se ms Γ w)(hi:ms[i]? =Z m)(x:yO (λk=>¬m.blk k) w w')(s:∀k,m'.blk k->m.blk k\/w.heap.size<=k)
 (n:∀S:K->Prop,(∀k,S k->¬m.blk k)->xd S ms w->zK S Γ w->m'.p S w'):St we Se (ms.set i m') Γ w':=by
 have⟨h1,C,u,S,D,E,q,t,v⟩:=h;have o:=xbI hi;have F:∀k,S k->¬m.blk k:=λk a e=>(q m o k e).1 a;have hd:∀k,k<w.heap.size->S k->S k/\¬m'.blk k:=λk a G=>⟨G,λe=>by
  obtain h|h:=s k e
  ·simp_all
  ·lia⟩
 have y:∀k,(S k/\¬m'.blk k)->¬m.blk k:=λk a=>F k a.1;have z:yO (λk=>S k/\¬m'.blk k) w w':=x.weak λk _ a=>y k a;have A:=λb f=>xd.lt t b f;have other:∀(j:K) (b:MF),j≠i->ms[j]? =Z b->∀k,b.blk k->¬m.blk k/\¬m'.blk k:=λj b g f k a=>by
  have h1:¬m.blk k:=λe=>px u hi k e j b g f a;refine⟨h1,λe=> ?_⟩;obtain h|h:=s k e
  ·exact h1 h
  ·have:=A b (xbI f) k a;lia
 have B:=n _ y (xd.sub hd t)<|zK.sub hd v;refine⟨h1.behind x (λk a e=>by have:=(q m o k e).2;lia),C,?_,λk=>S k/\¬m'.blk k,λk a=>D k a.1,?_,?_,?_,?_⟩
 ·exact c i m' u<|λj b g f k a=>(other j b g f k a).2
 ·exact λk a=>⟨E k<|PX x.size a,λe=>by have:=m'.lt B k e;lia⟩
 ·intro b f k a;obtain⟨j,g,rfl⟩:=xcz f;rw[List.getElem_set]at a;rw[xbz]at g;split at a
  ·refine⟨λhc=>hc.2 a,?_⟩;obtain h|h:=s k a
   ·exact(q m o k h).2
   ·have:=h1.size;lia
  ·exact⟨λhc=>(q _ (xbx g) k a).1 hc.1,(q _ (xbx g) k a).2⟩
 ·exact d i m' z B (λj b g f k a=>x.block k (A b (xbI f) k a) (other j b g f k a).1)<|xd.sub hd t
 ·exact zK.keep z<|zK.sub hd v
 where
 c:∀{ms:N MF} (i:K) (m':MF),KJ ms->(∀(j:K) (b:MF),j≠i->ms[j]? =Z b->∀k,b.blk k->¬m'.blk k)->KJ (ms.set i m')
  |[],_,_,h,_=>by simpa using h
  |m::r,0,m',h,l=>⟨λk a b f hc=>by
   obtain⟨j,g,rfl⟩:=xcz f;exact l (j+1) r[j] W (by simp[g]) k hc a,h.2⟩
  |m::r,i+1,m',h,l=>by
   refine⟨λk a b f=> ?_,c i m' h.2<|λj b g f=>l (j+1) b W<|by simpa using f⟩;obtain⟨j,g,rfl⟩:=xcz f;rw[List.getElem_set];split
   ·exact l 0 m W O k a
   ·exact h.1 k a _<|xbx _
 d {S:K->Prop}:∀{ms:N MF} (i:K) (m':MF),yO S w w'->m'.p S w'->(∀(j:K) (b:MF),j≠i->ms[j]? =Z b->∀k,b.blk k->w'.heap[k]? =w.heap[k]?)->xd S ms w->xd S (ms.set i m') w'
  |[],_,_,_,_,_,_=>trivial
  |m::r,0,m',x,o,l,h=>⟨o,xd.keep x (λb f k a=>by
   obtain⟨j,g,rfl⟩:=xcz f;exact l (j+1) r[j] W (by simp[g]) k a) h.2⟩
  |m::r,i+1,m',x,o,l,h=>⟨m.keep h.1 x<|λk a=>l 0 m W O k a,d i m' x o (λj b g f=>l (j+1) b W<|by simpa using f) h.2⟩
theorem St.grow{i:K}{m m':MF}(h:St we Se ms Γ w)(hi:ms[i]? =Z m)(x:yO (λk=>¬m.blk k) w w')(a:∀k,m'.blk k->m.blk k\/w.heap.size<=k)
 (n:∀S:K->Prop,(∀k,S k->¬m.blk k)->m.p S w->zK S Γ w->m'.p S w'):St we Se (ms.set i m') Γ w':=by grind [St.growM,xd.get]
theorem St.conv{i:K}{m m':MF}(h:St we Se ms Γ w)(hi:ms[i]? =Z m)(a:m'.blk=m.blk)(n:∀S:K->Prop,m.p S w->m'.p S w):St we Se (ms.set i m') Γ w:=by grind [St.grow,yO.refl]
theorem St.nilO{α:Type}{e:ye α}{E:wn}(h:St we Se ms Γ w):St we Se (mO e E (.slice yD 0 0) []::ms) Γ w:=by
 have⟨h1,b,c,S,d,f,j,g,i⟩:=h;refine⟨h1,b,⟨(λ_ a=>by cases a),c⟩,S,d,f,?_,⟨⟨[],World.ownsRow_nil _ _ _ _,O⟩,g⟩,i⟩;intro m hm k a;obtain rfl|hm:=PQ.1 hm
 ·cases a
 ·grind
end
section
variable{P:ww}{N:Nd}{we:xN}{Se:zV->Prop}{ms:zC MF}{Γ:zC FF}{Q:Qs}{env:xt}{ops:wL wT}{rest:zC wT}
 {d:z7 vn}{ty yt t:wn}{pos:String}{aft:wL Edge}{g:z7 (zV×ws)}{x y:wr}
def GR{α:Type}{e:FZ α}{z:α}{ag:ws}{c bytes:K}{a:xn}{E:wn}(f:UI P E ag c bytes a)
 (h:∀(S:K->Prop) (w:xN),e.p S z a.cells.toList w):OG P ⟨d,.alloc E,ty,pos,aft,g⟩ env we Se ms Γ (λb=>(.pointer<|some ⟨b,0,yD⟩)) (λb=>(mB e E b z::ms)) (λ_=>Γ) (λ_=>vF):=by
 intro w i;refine Yq.of_value ?_ ⟨_,O,xS,i.fresh (dN.alloc w _) O Xn λS _ _=>⟨_,v6 w _,h _ _⟩⟩;simp only[wD,Instr.alloc,xau,Zu f,xai,newVar,Zv,qV,xaO]
def zrd{α:Type}{e:ye α}{z:α}{v:xn}{E:wn}(f:ev env x=v)
 (h:∀(S:K->Prop) (w:xN),zK S Γ w->(fV e z v).p S w):OG P ⟨d,.box E x,ty,pos,aft,g⟩ env we Se ms Γ (λb=>(.pointer<|some ⟨b,0,yD⟩)) (λb=>(mB e.c E b z::ms)) (λ_=>Γ) (λ_=>vF):=by
 intro w i;refine Yq.of_value (w':=w.alloc (.cells v.cells E)) ?_ ⟨_,O,xS,i.fresh (dN.alloc w _) O Xn λS l a=>⟨_,v6 w _,?_⟩⟩
 ·simp only[wD,f,Instr.box,newVar,Zv,xau,qV,xai,xaO]
 ·exact e.keep (e.sub (Xe<|h S w a) λk m j=>⟨j,W⟩) (dN.alloc w _).to
def p8(w:xN)(t ty e:wn)(i:Z9)(z:xn)(size bytes:K)(l:P.underlying t=Z (.slice e))(hi:P.info? e=Z i)(s:i.zero=Z z)
 (A:i.size=size) (hn:i.bytes=bytes) (C:z.cells.size=size) (hv:0<size)
 (v:xn) (n:K) (xs:zC xn) (hd:w.ownsRow 0 e size v n xs)
 (a:kG) (m c:K) (b:zC xn) (hl:X b=m*size) (r:∀j u,b[j]? =Z u->w.cell? (a.add j)=Z u) (h1:∀u∈b,u.oneCell'=I)
 (hp:n+m<=qs) (hc:(n+m)*bytes<=140737488355328):
 ∃p w',(xcc #[t,t] ty #[v,.slice (Z a) m c]).run P w=.ok p w'/\w'.ownsRow 0 e size p (n+m) (xs++b)/\w.grownBy w' v.ownBlock/\
  ∀k,p.ownBlock=Z k->v.ownBlock=Z k\/w.heap.size<=k:=by
 have⟨p,w',h,D,E,_⟩:=run_append_own (P:=P) w 0 t ty e i z size bytes l hi s A hn C hv v n xs hd a m c b hl r h1 hp hc<|sB _;refine⟨p,w',h,D,E,?_⟩;subst A hn;have R:n+m<=9223372036854775807:=by simp only[qs]at hp;lia
 rcases hd.2 with⟨rfl,rfl⟩|⟨g,cap,q,rfl,S,F,T,U,G,V⟩
 ·by_cases H:m=0
  ·subst H;have:=f (w:=w) t ty e i l hi a c;rw[this]at h;cases h;exact λk o=>by cases o
  ·have:=run_append_nil (P:=P) w t ty e i z l hi s a m c b hl r W W (by have J:=hc;simp only[xaF]at J;lia);rw[this]at h;cases h;exact λk o=> .inr<|by cases o;exact eZ _
 ·by_cases B:n+m<=cap
  ·have L:n*i.size+X b<=q.size:=by rw[hl,G,<-xaT];exact xaf _ B
   have:=run_append_room (P:=P) w t ty e i l hi g n cap q F a m c b hl r h1 B L;rw[this]at h;cases h;exact λk o=> .inl o
  ·have M:∀j u,xs[j]? =Z u->w.cell? ((⟨g,0,yD⟩:kG).add j)=Z u:=hd.cells (g:=g) O;have:=run_append_grow (P:=P) w t ty e i z l hi s ⟨g,0,yD⟩ n cap xs hd.1 M a m c b hl r W W<|ZL W hc;rw[this]at h;cases h;exact λk o=> .inr<|by cases o;exact eZ _
 where
 f {w:xN} (t ty e:wn) (i:Z9) (l:P.underlying t=Z (.slice e)) (hi:P.info? e=Z i) (a:kG) (c:K):
  (xcc #[t,t] ty #[.slice yD 0 0,.slice (Z a) 0 c]).run P w=.ok (.slice yD 0 0) w:=by
  simp[xcc,wE l,qo,qL,hi,xfy,xet,loadCells,loadCellsFrom]
def SlQ{α:Type}(e:ye α)(S:K->Prop)(xs:zC α)(v:xn)(w:xN):Prop:=
 ∃a cap,v=.slice a (X xs) cap/\X xs<=cap/\cap<=qs/\(xs=[]\/∃b o cs,a=Z ⟨b,o,yD⟩/\At w b o cs/\xa e S xs cs w)
theorem SlQ.of{α:Type}{e:ye α}{S:K->Prop}{xs:zC α}{v:xn}{w:xN}(h:(fV (eS e) xs v).p S w):SlQ e S xs v w:=by
 have⟨c,cap,h1,f,i,a⟩:=wc.1 h;refine⟨c,cap,h1,f,i,?_⟩;obtain a|⟨b,o,cs,j,k,a3,a4⟩:=a
 ·simp_all
 ·grind
def iE{α:Type}{e:ye α}{z:wn}{xs ys:zC α}{v u:xn}{bytes:K}{zero:xn}(i:K)(D:P.underlying t=Z (.slice z))(hK:UI P z e.agg e.n bytes zero)(hD:zero.cells.size=e.n)(hn:0<e.n)
 (L:ms[i]? =Z (mO e z v xs)) (hx:ev env x=v) (hy:ev env y=u) (hf:∀(S:K->Prop) (w:xN),xd S ms w->zK S Γ w->SlQ e S ys u w)
 (h4:X xs+X ys<=9223372036854775807) (hb:(X xs+X ys)*bytes<=140737488355328):OG P ⟨d,.call ⟨.builtin .append,#[x,y],#[t,t]⟩,ty,pos,aft,g⟩ env we Se ms Γ (λq=>q) (λq=>(ms.set i<|mO e z q<|xs++ys)) (λ_=>Γ) (λ_=>vF):=by
 intro w hE;have⟨S,⟨cs,E,he⟩,h7,h8⟩:=hE.muts L;have⟨ao,cap,M,h1,h2,h3⟩:=hf S w h7 h8;have⟨T,hi,i1,i2,i3⟩:=hK.info;have hL:∀q w',(xcc #[t,t] ty #[v,u]).run P w=.ok q w'->(wD (ev env) ⟨d,.call ⟨.builtin .append,#[x,y],#[t,t]⟩,ty,pos,aft,g⟩).run P w=.ok (.value q) w':=λq w' B=>by simp only[wD,vS,qR,ut,xdS,xch,xew,hx,hy,xau,B,xaO,xai]
 have hz:X xs+X ys<=qs:=by unfold qs;lia
 have F:∃q w',(xcc #[t,t] ty #[v,u]).run P w=.ok q w'/\w.grownBy w' v.ownBlock/\(∀k,q.ownBlock=Z k->v.ownBlock=Z k\/w.heap.size<=k)/\
  ∀S:K->Prop,(∀k,S k->v.ownBlock≠Z k)->xd S ms w->zK S Γ w->(mO e z q<|xs++ys).p S w':=by
  have G:∀(w':xN) (q:xn) (m:zC xn),w.grownBy w' v.ownBlock->w'.ownsRow 0 z e.n q (X xs+X ys) (cs++m)->
   (∀S:K->Prop,xd S ms w->zK S Γ w->xa e S ys m w)->∀S:K->Prop,(∀k,S k->v.ownBlock≠Z k)->xd S ms w->zK S Γ w->(mO e z q<|xs++ys).p S w':=by
   intro w' q m s hd hB S hS hM U;have⟨C,hF,hN⟩:=xd.get hM L;have hO:C=cs:=by
    rcases E.2 with⟨rfl,h0⟩|⟨g,cap,V,rfl,_,hP,_,_,_,hQ⟩
    ·have a1:=E.1;have a2:=hF.1;rw[h0]at a1 a2;have c1:cs=[]:=xbk (by simpa using a1);have c2:C=[]:=xbk (by simpa using a2);rw[c1,c2]
    ·rcases hF.2 with⟨hc,_⟩|⟨g',a0,a3,hR,_,hA,_,_,_,hG⟩
     ·cases hc
     ·cases hR;rw[hP]at hA;cases hA;rw[<-hQ,<-hG]
   subst hO;have kk:yO S w w':=⟨s.os,s.tape,s.output,s.size,λk Y hs=>s.block k Y<|λe=>hS k hs e.symm⟩;exact⟨C++m,by rw[xak];exact hd,(hN.keep kk).append<|(hB S hM U).keep kk⟩
  have A:ys=[]->(ao=yD->u=.slice yD 0 cap)->∃q w',(xcc #[t,t] ty #[v,u]).run P w=.ok q w'/\w.grownBy w' v.ownBlock/\(∀k,q.ownBlock=Z k->v.ownBlock=Z k\/w.heap.size<=k)/\
   ∀S:K->Prop,(∀k,S k->v.ownBlock≠Z k)->xd S ms w->zK S Γ w->(mO e z q<|xs++ys).p S w':=by
   intro R hC
   subst R
   cases ao with
   |none=>
    have hT:=hC O
    have B:=f (w:=w) t ty z T e.n D hi v (X xs) cs E cap
    rw[<-hT]at B
    exact⟨v,w,B,⟨O,O,O,eZ _,λ_ _ _=>O⟩,λk Y=> .inl Y,λS _ hp _=>by simpa using xd.get hp L⟩
   |some a=>
    have⟨q,w',B,hd,s,hl⟩:=p8 w t ty z T zero e.n bytes D hi i3 i1 i2 hD hn v (X xs) cs E a 0 cap [] Xn Xn Xn (by simpa using hz)<|by simpa using hb
    exact⟨q,w',by rw[M];exact B,s,hl,G w' q [] s (by simpa using hd)<|λ_ _ _=>O⟩
  obtain R|⟨b,o,m,rfl,ha,H⟩:=h3
  ·exact A R<|λh=>by rw[M,h,R];rfl
  ·have⟨q,w',B,hd,s,hl⟩:=p8 w t ty z T zero e.n bytes D hi i3 i1 i2 hD hn v (X xs) cs E ⟨b,o,yD⟩ (X ys) cap m H.len
    (λj c hc=>by rw[jY];exact ha.2 j c hc) H.one hz hb
   refine⟨q,w',by rw[M];exact B,s,hl,G w' q m s hd λS2 hU hV=> ?_⟩;have⟨a5,a4,hH,_,_,hW⟩:=hf S2 w hU hV;rw[M]at hH;cases hH;obtain rfl|⟨b2,o2,r,hX,hY,hv⟩:=hW
   ·have:=H.len;rw[xbA,xcs]at this;rw[xbk this];rfl
   ·cases hX;have:r=m:=by
     apply xcC;intro j;by_cases J:j<X m
     ·have e1:=ha.2 j m[j] (by simp[J]);have hI:j<X r:=by rw[hv.len,<-H.len];exact J
      have e2:=hY.2 j r[j] (by simp[hI]);rw[e1]at e2;rw[xaa J,xaa hI,e2]
     ·have h5:X r=X m:=by rw[hv.len,<-H.len]
      rw[xbB (l:=m) W,xbB (l:=r) W]
    rw[<-this];exact hv
 have⟨q,w',B,s,hl,hp⟩:=F;exact Yq.of_value (hL q w' B) ⟨q,O,xS,hE.growM L ⟨s.os,s.tape,s.output,s.size,λj J hs=>s.block j J<|λe=>hs e.symm⟩ hl hp⟩
 where
 f {w:xN} (t ty e:wn) (i:Z9) (size:K) (D:P.underlying t=Z (.slice e)) (hi:P.info? e=Z i)
  (v:xn) (n:K) (xs:zC xn) (hJ:w.ownsRow 0 e size v n xs) (c:K):
  (xcc #[t,t] ty #[v,.slice yD 0 c]).run P w=.ok v w:=by
  rcases hJ.2 with⟨rfl,rfl⟩|⟨g,cap,V,rfl,_,_,hZ,_⟩
  ·simp[xcc,wE D,qo,qL,hi,xfy,xet]
  ·simp[xcc,wE D,qo,qL,hi,xfy,xet,hZ,storeCells]
def ziy{α:Type}{e:ye α}{b:wn}{xs ys:zC α}{v u:xn}{bytes:K}{a:xn}(i:K)(f:xl ops env ⟨d,.call ⟨.builtin .append,#[x,y],#[t,t]⟩,ty,pos,aft,g⟩=I)(hd:kP N.n d=I)
 (h:P.underlying t=Z (.slice b)) (j:UI P b e.agg e.n bytes a) (hc:a.cells.size=e.n) (hn:0<e.n)
 (l:ms[i]? =Z (mO e b v xs)) (m:ev env x=v) (o:ev env y=u) (p:∀(S:K->Prop) (w:xN),xd S ms w->zK S Γ w->SlQ e S ys u w)
 (q:X xs+X ys<=9223372036854775807) (r:(X xs+X ys)*bytes<=140737488355328)
 (k:∀c,TL P N we Se (ms.set i<|mO e b c<|xs++ys) Γ ops rest Q<|put env d c):TL P N we Se ms Γ ops (⟨d,.call ⟨.builtin .append,#[x,y],#[t,t]⟩,ty,pos,aft,g⟩::rest) Q env:=
 zsS f hd (iE i h j hc hn l m o p q r) λc _=>k c
def zk0{α:Type}{e:ye α}{b:wn}{xs ys:zC α}{v u:xn}{bytes:K}{a:xn}(i:K)(f:xl ops env ⟨d,.call ⟨.builtin .append,#[x,y],#[t,t]⟩,ty,pos,aft,g⟩=I)(hd:kP N.n d=I)
 (j:P.underlying t=Z (.slice b)) (l:UI P b e.agg e.n bytes a) (hc:a.cells.size=e.n) (hn:0<e.n)
 (m:ms[i]? =Z (mO e b v xs)) (o:ev env x=v) (q:ev env y=u) (r:∀(S:K->Prop) (w:xN),zK S Γ w->(fV (eS e) ys u).p S w)
 (s:X xs+X ys<=9223372036854775807) (z:(X xs+X ys)*bytes<=140737488355328)
 (k:∀c,TL P N we Se (ms.set i<|mO e b c<|xs++ys) Γ ops rest Q<|put env d c):TL P N we Se ms Γ ops (⟨d,.call ⟨.builtin .append,#[x,y],#[t,t]⟩,ty,pos,aft,g⟩::rest) Q env:=
 ziy i f hd j l hc hn m o q (λS w _ h=>SlQ.of<|r S w h) s z k
def zvf{α:Type}{e:ye α}{E b:K}{z:α}{w:xN}(i:K)(h:St we Se ms Γ w)(a:ms[i]? =Z (mB e.c E b z)):
 St we Se (ms.eraseIdx i) (fP e z (.pointer<|some ⟨b,0,yD⟩)::Γ) w:=
 h.freeze a λS k f j hp=>zuh f (j b O) hp
def zcE{α:Type}{e:ye α}{E:K}{v:xn}{xs:zC α}{w:xN}(i:K)(h:St we Se ms Γ w)(a:ms[i]? =Z (mO e E v xs)):
 St we Se (ms.eraseIdx i) (fV (eS e) xs v::Γ) w:=
 h.freeze a λS f b c hp=>DJ b c hp
def zrz{α:Type}{e:ye α}{E b:K}{xs:zC α}{n:K}{w:xN}(i:K)(h:St we Se ms Γ w)(c:ms[i]? =Z (mR e E b xs))(hn:n=X xs)(j:X xs<=9223372036854775807):
 St we Se (ms.set i<|mO e E (.slice (Z ⟨b,0,yD⟩) n n) xs) Γ w:=
 h.conv c O λS ⟨cs,f,a⟩=>by
  subst hn;have hl:cs.size=X xs*e.n:=by have:=xa.len a;simpa using this
  refine⟨cs.toList,⟨by simpa using hl,.inr ⟨b,X xs,cs,O,sB _,f,eZ _,by unfold qs;lia,hl,?_⟩⟩,a⟩;rw[xaQ<|by simp[hl]]
end
end
section
def XO{a b:K}(h:a≠b):xad a b=yL:=by grind [xdn]
def Ss{a b:K}(h:b<=a):xcU a b=yL:=by
 cases c:xcU a b
 ·rfl
 ·have:=xbW c;omega
structure Pr where
 p:(K->Prop)->xn->xN->Prop
 keepS:∀{S:K->Prop}{v:xn}{w w':xN},p S v w->yO S w w'->p S v w'
 sub:∀{S S':K->Prop}{v:xn}{w:xN},p S v w->(∀k,k<w.heap.size->S k->S' k)->p S' v w
def Pr.keep(a:Pr){S:K->Prop}{v:xn}{w w':xN}(h:a.p S v w)(x:dN w w'):a.p S v w':=a.keepS h x.to
def Hz(d:V vn)(a:Pr)(K:N (vn×Pr)):N (vn×Pr):=match d with
 |some d=>(d,a)::K
 |none=>K
def VB(K:N (vn×Pr))(env0 env:xt)(S:zV->Prop)(w:xN)(t:vn):Prop:=match K.find? (λx=>xad x.1 t)with
 |some x=>x.2.p S (env t) w
 |none=>env t=env0 t
def U2(K:N (vn×Pr))(env0 env:xt)(S:zV->Prop)(w:xN):N vn->Prop
 |[]=>vF
 |t::ts=>VB K env0 env S w t/\U2 K env0 env S w ts
def Ob(P:ww)(a:wL wT)(ms:N MF)(Γ:N FF)(env0:xt)(K:N (vn×Pr))(o:wT)(b:Pr):Prop:=
 ∀(S:zV->Prop) (w:xN) (env:xt),(∀k,w.heap.size<=k->S k)->xd S ms w->zK S Γ w->U2 K env0 env S w (o.looksAt a)->
  (xl a env o=I->Yq P o env w (λv w'=>dN w w'/\b.p S v w'))/\(xl a env o=yL->b.p S wR w)
def Obs(P:ww)(a:wL wT)(ms:N MF)(Γ:N FF)(env0:xt):N (wT×Pr)->N (vn×Pr)->Prop
 |[],_=>vF
 |(o,b)::r,K=>Ob P a ms Γ env0 K o b/\Obs P a ms Γ env0 r (Hz o.dst b K)
def Kof:N (wT×Pr)->N (vn×Pr)->N (vn×Pr)
 |[],K=>K
 |(o,a)::r,K=>Kof r<|Hz o.dst a K
def KQ(o:wT)(i:K):ws:=o.after.toList.any λe=>xct .any e && xad e.on i
def yn(l:N wT)(i:K):wT:=l.getD i default
def zhw(l:N wT)(m:K):ws:=xfI m (X l) && (xaE (X l)).all λj=>
 ((yn l j).after.toList.all λe=> !xct .any e||xcU e.on j) &&
 (bif xcU j m then(xaE m).all λi=>xad i j||(match(yn l i).dst with
  |some t=> !((xbr l.toArray<|yn l j).contains t||(yn l j).dst==Z t)||(bif xcU i j then KQ (yn l j) i else KQ (yn l i) j)
  |none=>I)
  else(xaE j).all λk=>KQ (yn l j) k)
def jL(l:N wT):K->K->K->ws
 |0,i,k=>KQ (yn l i) k
 |f+1,i,k=>KQ (yn l i) k||(yn l i).after.toList.any λe=>xct .any e && jL l f e.on k
def Q4(l:N wT)(m:K):ws:=xfI m (X l) && (xaE (X l)).all λj=>
 ((yn l j).after.toList.all λe=> !xct .any e||xcU e.on j) &&
 (bif xcU j m then(xaE m).all λi=>xad i j||(match(yn l i).dst with
  |some t=> !((xbr l.toArray<|yn l j).contains t||(yn l j).dst==Z t)||(bif xcU i j then KQ (yn l j) i else KQ (yn l i) j)
  |none=>I)
  else bif xad j m then(xaE m).all λk=>jL l 16 m k else KQ (yn l j) (j-1))
section
variable{l:zC wT}{m:zV}
def ZN{o:wT}{i:K}(h:KQ o i=I):∃e∈o.after,xct .any e=I/\e.on=i:=by
 unfold KQ at h;rw[xft]at h;simp_all
def zh6(h:zhw l m=I):m<=X l/\
 (∀j,j<X l->∀e∈(yn l j).after,xct .any e=I->e.on<j)/\
 (∀j i t,j<m->i<m->i≠j->(yn l i).dst=Z t->(t∈xbr l.toArray (yn l j)\/(yn l j).dst=Z t)->(i<j->KQ (yn l j) i=I)/\(j<i->KQ (yn l i) j=I))/\
 (∀j,m<=j->j<X l->∀k,k<j->KQ (yn l j) k=I):=by
 unfold zhw at h;rw[Th,xaS]at h;have⟨h0,h1⟩:=h;have d:=xbW h0;refine⟨d,λj a e f g=> ?_,λj i t a hi hc n hl=> ?_,λj hd a k o=> ?_⟩
 ·have:=h1 j<|xaZ.2 a;rw[Th,xaS]at this;have:=this.1 e<|xdC.2 f;rw[g]at this;simpa using this
 ·have:=h1 j (xaZ.2 YD);rw[Th]at this;have b:=this.2;rw[show xcU j m=I by simpa using a,vL,xaS]at b;have c:=b i<|xaZ.2 hi;rw[XO hc,xel,n]at c;have p:((xbr l.toArray<|yn l j).contains t||(yn l j).dst==Z t)=I:=by
   rw[xee];obtain hl|hl:=hl
   ·left;simpa using hl
   ·right;simp[hl]
  simp only[p,xdG,xel]at c;constructor
  ·intro q;rwa[show xcU i j=I by simpa using q,vL]at c
  ·intro r;rwa[Ss YD,vH]at c
 ·have:=h1 j<|xaZ.2 a;rw[Th]at this;have b:=this.2;rw[Ss hd,vH,xaS]at b;exact b k<|xaZ.2 o
def X7(h:Q4 l m=I):m<=X l/\
 (∀j,j<X l->∀e∈(yn l j).after,xct .any e=I->e.on<j)/\
 (∀j i t,j<m->i<m->i≠j->(yn l i).dst=Z t->(t∈xbr l.toArray (yn l j)\/(yn l j).dst=Z t)->(i<j->KQ (yn l j) i=I)/\(j<i->KQ (yn l i) j=I))/\
 (∀j,m<j->j<X l->KQ (yn l j) (j-1)=I)/\(m<X l->∀k,k<m->jL l 16 m k=I):=by
 unfold Q4 at h;rw[Th,xaS]at h;have⟨h0,h1⟩:=h;have d:=xbW h0;refine⟨d,λj b e f g=> ?_,λj i t b hi hc n hl=> ?_,λj r b=> ?_,λo k p=> ?_⟩
 ·have:=h1 j<|xaZ.2 b;rw[Th,xaS]at this;have:=this.1 e<|xdC.2 f;rw[g]at this;simpa using this
 ·have:=h1 j (xaZ.2 YD);rw[Th]at this;have a:=this.2;rw[show xcU j m=I by simpa using b,vL,xaS]at a;have c:=a i<|xaZ.2 hi;rw[XO hc,xel,n]at c;have q:((xbr l.toArray<|yn l j).contains t||(yn l j).dst==Z t)=I:=by
   rw[xee];obtain hl|hl:=hl
   ·left;simpa using hl
   ·right;simp[hl]
  simp only[q,xdG,xel]at c;constructor
  ·intro hd;rwa[show xcU i j=I by simpa using hd,vL]at c
  ·intro s;rwa[Ss YD,vH]at c
 ·have:=h1 j<|xaZ.2 b;rw[Th]at this;have a:=this.2;rw[Ss YD,vH,XO YD,vH]at a;exact a
 ·have:=h1 m<|xaZ.2 o;rw[Th]at this;have a:=this.2;rw[Ss<|eZ m,vH,Nat.beq_refl,vL,xaS]at a;exact a k<|xaZ.2 p
theorem lJ{a:wL ws}(d:∀i,i<X l->a.getD i yL=I->∀e∈(yn l i).after,xct .any e=I->a.getD e.on yL=I)
 (h1:∀j,j<X l->∀e∈(yn l j).after,xct .any e=I->e.on<j):∀(f i k:K),i<X l->(∀e∈(yn l i).after,xct .any e=I->a.getD e.on yL=I)->jL l f i k=I->a.getD k yL=I
 |0,i,k,hi,hd,h=>by
  have⟨e,c,g,n⟩:=ZN h;grind
 |f+1,i,k,hi,hd,h=>by
  unfold jL at h;rw[xee]at h;obtain h|h:=h
  ·have⟨e,c,g,n⟩:=ZN h;grind
  ·rw[xft]at h;have⟨e,c,b⟩:=h;rw[Th]at b;have hc:=xdC.1 c;have o:=h1 i hi e hc b.1;exact lJ d h1 f e.on k YD (d e.on YD<|hd e hc b.1) b.2
def XA{i:K}(h:i<X l):l.toArray[i]? =Z (yn l i):=by
 simp[yn,h]
end
def cvt{α:Type}{e:ye α}{x y:α}{v:xn}{S:K->Prop}{w:xN}(h:x=y)(hp:(fV e x v).p S w):(fV e y v).p S w:=h▸hp
def zl4{α:Type}{e:ye α}{S:K->Prop}{w:xN}:(fV (eS e) [] (.slice yD 0 0)).p S w:=wc.2 SlP.nil
def getD_some{α:Type}{l:N α}{k:K}(z:α)(h:k<X l):l[k]? =Z (l.getD k z):=by grind
def ztC{α:Type}{e:ye α}{xs:N α}{v:xn}{S:K->Prop}{w:xN}(h:(fV (eS e) xs v).p S w):X xs<=9223372036854775807:=by
 have⟨b,cap,hv,hc,a,_⟩:=wc.1 h;exact PX hc a
def xa.all_u{S:K->Prop}{w:xN}:∀{xs:N K}{cs:N xn},xa eU S xs cs w->∀x∈xs,x<18446744073709551616
 |[],_,_=>λx hx=>wl hx QT
 |y::ys,_,⟨c,r,_,hc,a⟩=>λx hx=>by
  obtain rfl|hx:=PQ.1 hx
  ·exact hc.2
  ·exact xa.all_u a x hx
def zn(l:N K):Prop:=∀x∈l,x<18446744073709551616
def zpG{xs:N K}{v:xn}{S:K->Prop}{w:xN}(h:(fV (eS eU) xs v).p S w):zn xs:=by
 have⟨e,cap,hv,hc,f,a⟩:=wc.1 h;obtain rfl|⟨b,o,cs,_,_,_,c⟩:=a
 ·exact λx d=>wl d QT
 ·exact c.all_u
def Dm(t:vn):∀(r:N (wT×Pr)) (K:N (vn×Pr)),
 (∃(i:zV) (x:wT×Pr),r[i]? =Z x/\x.1.dst=Z t/\(∀(a:zV) (b:wT×Pr),r[a]? =Z b->b.1.dst=Z t->a<=i)/\(Kof r K).find? (λy=>xad y.1 t)=Z (t,x.2))\/
 ((∀(i:zV) (x:wT×Pr),r[i]? =Z x->x.1.dst≠Z t)/\(Kof r K).find? (λy=>xad y.1 t)=K.find? (λy=>xad y.1 t))
 |[],K=> .inr ⟨λi x h=>by simp at h,O⟩
 |(o,c)::r,K=>by
  rcases Dm t r (Hz o.dst c K)with⟨i,x,h1,f,j,k⟩|⟨h1,f⟩
  ·refine .inl ⟨i+1,x,by simpa using h1,f,λa b g hd=> ?_,k⟩
   cases a with
   |zero=>omega
   |succ a=>have:=j a b (by simpa using g) hd;omega
  ·by_cases hd:o.dst=Z t
   ·refine .inl ⟨0,(o,c),O,hd,λa b g hc=> ?_,?_⟩
    ·grind
    ·show(Kof r<|Hz o.dst c K).find? _=_;rw[f,hd];simp[Hz]
   ·refine .inr ⟨λi x m=> ?_,?_⟩
    ·grind
    ·show(Kof r<|Hz o.dst c K).find? _=_;rw[f]
     cases l:o.dst with
     |none=>rfl
     |some d=>
      have:xad d t=yL:=XO λe=>hd (by rw[l,e]);simp[Hz,this]
def zj0{P:ww}{a:wL wT}{ms:N MF}{Γ:N FF}{env0:xt}:∀(r:N (wT×Pr)) (K:N (vn×Pr)) (i:zV) (x:wT×Pr),Obs P a ms Γ env0 r K->r[i]? =Z x->Ob P a ms Γ env0 (Kof (r.take i) K) x.1 x.2
 |[],_,_,_,_,h=>by simp at h
 |(o,c)::r,K,0,x,h,b=>by simp at b;subst b;exact h.1
 |(o,c)::r,K,i+1,x,h,b=>by
  have:=zj0 r (Hz o.dst c K) i x h.2 (by simpa using b);simpa[Kof]using this
def gj{K:N (vn×Pr)}{env0 env:xt}{S:zV->Prop}{w:xN}:∀(ts:N vn),(∀t∈ts,VB K env0 env S w t)->U2 K env0 env S w ts
 |[],_=>trivial
 |t::ts,h=>⟨h t<|Qh,gj ts λu a=>h u<|kE _ a⟩
def HG{a:wL ws}{i:K}(hi:i<a.size)(b:a.getD i I=yL):∀(r:N K),
 (r.countP λk=> !(a.setIfInBounds i I).getD k I)<=(r.countP λk=> !a.getD k I)/\
 (i∈r->(r.countP λk=> !(a.setIfInBounds i I).getD k I)<(r.countP λk=> !a.getD k I))
 |[]=>⟨eZ _,λh=>by cases h⟩
 |k::r=>by
  have d:=HG hi b r;rw[List.countP_cons,List.countP_cons];by_cases c:i=k
  ·subst c;have e1:(a.setIfInBounds i I).getD i I=I:=by simp[hi]
   grind
  ·simp_all
section
variable{P:ww}{N:Nd}{we:xN}{Se:zV->Prop}{ms:zC MF}{Γ:zC FF}{Q:Qs}{env0:xt}{l:zC wT}{m:zV}
def zwG(hc:zhw l m=I){q:ZV->kg->xN->Prop}:∀(c j:K) (b:wL ws) (a:kg) (w:xN),m<=j->j<=X l->X l-j<=c->b.size=X l->
 (∀k,k<X l->b.getD k I=decide (k<j))->vX N.F 0 P l.toArray q (l.drop j) a w->uT N.F 0 P .any l.toArray q c b a w:=by
 have⟨h0,h1,S,A⟩:=zh6 hc;have hd:∀(j:K) (b:wL ws),m<=j->j<=X l->b.size=X l->(∀k,k<X l->b.getD k I=decide (k<j))->∀i,i∈xdU .any l.toArray b->i=j:=by
  intro j b hn hp p d i hi;have⟨s,o,n,B⟩:=mem_ready.1 hi;have t:i<X l:=by simpa using(xbd.1 n).1
  rw[d i t]at s;have T:j<=i:=by simpa using s
  rw[XA t]at n;cases n;obtain g|hge:=xbO j i
  ·have⟨e,u,v,C⟩:=ZN<|A i YD t j g;have hl:=B e u v;rw[C]at hl;have x:=d j YD;have D:j<b.size:=YD
   simp only[xbh,xcQ D,xeq]at hl x;rw[hl]at x;simp at x
  ·omega
 intro c
 induction c with
 |zero=>
  intro j b a w hn hp E p d f;have:j=X l:=YD
  subst this;refine⟨?_,by simpa[vX]using f⟩
  cases G:xdU .any l.toArray b with
  |nil=>rfl
  |cons i r=>
   have hi:i∈xdU .any l.toArray b:=by rw[G];exact Qh
   have H:=hd _ b hn hp p d i hi;have⟨s,o,n,_⟩:=mem_ready.1 hi;have:=(xbd.1 n).1;simp at this;omega
 |succ c J=>
  intro j b a w hn hp E p d f;rcases xbO j (X l) with g|hge
  ·have hv:j∈xdU .any l.toArray b:=by
    refine mem_ready.2 ⟨by rw[d j g];simp,yn l j,XA g,λe u v=> ?_⟩;have:=h1 j g e u v;have hl:=d e.on YD;have L:e.on<b.size:=YD
    simp only[xbh,xcQ L,xeq]at hl⊢;rw[hl];simpa using this
   refine⟨λh=>(by rw[h]at hv;cases hv),λi hi=> ?_⟩;have:=hd j b hn hp p d i hi;subst this;rw[xbK g]at f;have M:l[i]=yn l i:=by simp[yn,g]
   unfold vX at f;unfold wpOpIn;rw[XA g];simp only[<-M];have next:∀a w,vX N.F 0 P l.toArray q (l.drop<|i+1) a w->uT N.F 0 P .any l.toArray q c (b.setIfInBounds i true) a w:=λa w h=>
    J (i+1) _ a w YD YD YD (by simpa using p) (λk R=>by
     by_cases z:i=k
     ·subst z;have:i<b.size:=YD
      simp[this]
     ·rw[qv I z,d k R];simp only[decide_eq_decide];omega) h
   split
   ·rename_i y;rw[iq y]at f;exact Oper.wpIn_mono next f
   ·rename_i y;rw[ir y]at f;exact⟨f.1,next _ _ f.2⟩
  ·have:j=X l:=YD
   subst this;refine⟨λ_=>by simpa[vX]using f,λi hi=> ?_⟩;have H:=hd _ b hn hp p d i hi;have⟨s,o,n,_⟩:=mem_ready.1 hi;have:=(xbd.1 n).1;simp at this;omega
def tH(hc:Q4 l m=I){q:ZV->kg->xN->Prop}:∀(c j:K) (b:wL ws) (a:kg) (w:xN),m<=j->j<=X l->X l-j<=c->b.size=X l->
 (∀k,k<X l->b.getD k I=decide (k<j))->vX N.F 0 P l.toArray q (l.drop j) a w->uT N.F 0 P .any l.toArray q c b a w:=by
 have⟨h0,h1,S,A,_⟩:=X7 hc;have hd:∀(j:K) (b:wL ws),m<=j->j<=X l->b.size=X l->(∀k,k<X l->b.getD k I=decide (k<j))->∀i,i∈xdU .any l.toArray b->i=j:=by
  intro j b hn hp p d i hi;have⟨s,o,g,B⟩:=mem_ready.1 hi;have t:i<X l:=by simpa using(xbd.1 g).1
  rw[d i t]at s;have T:j<=i:=by simpa using s
  rw[XA t]at g;cases g;obtain n|hge:=xbO j i
  ·have⟨e,u,v,C⟩:=ZN<|A i YD t;have hl:=B e u v;rw[C]at hl;have x:=d (i-1) YD;have D:i-1<b.size:=YD
   simp only[xbh,xcQ D,xeq]at hl x;rw[hl]at x;simp at x;omega
  ·omega
 intro c
 induction c with
 |zero=>
  intro j b a w hn hp E p d f;have:j=X l:=YD
  subst this;refine⟨?_,by simpa[vX]using f⟩
  cases G:xdU .any l.toArray b with
  |nil=>rfl
  |cons i r=>
   have hi:i∈xdU .any l.toArray b:=by rw[G];exact Qh
   have H:=hd _ b hn hp p d i hi;have⟨s,o,g,_⟩:=mem_ready.1 hi;have:=(xbd.1 g).1;simp at this;omega
 |succ c J=>
  intro j b a w hn hp E p d f;rcases xbO j (X l) with n|hge
  ·have hv:j∈xdU .any l.toArray b:=by
    refine mem_ready.2 ⟨by rw[d j n];simp,yn l j,XA n,λe u v=> ?_⟩;have:=h1 j n e u v;have hl:=d e.on YD;have L:e.on<b.size:=YD
    simp only[xbh,xcQ L,xeq]at hl⊢;rw[hl];simpa using this
   refine⟨λh=>(by rw[h]at hv;cases hv),λi hi=> ?_⟩;have:=hd j b hn hp p d i hi;subst this;rw[xbK n]at f;have M:l[i]=yn l i:=by simp[yn,n]
   unfold vX at f;unfold wpOpIn;rw[XA n];simp only[<-M];have next:∀a w,vX N.F 0 P l.toArray q (l.drop<|i+1) a w->uT N.F 0 P .any l.toArray q c (b.setIfInBounds i true) a w:=λa w h=>
    J (i+1) _ a w YD YD YD (by simpa using p) (λk R=>by
     by_cases z:i=k
     ·subst z;have:i<b.size:=YD
      simp[this]
     ·rw[qv I z,d k R];simp only[decide_eq_decide];omega) h
   split
   ·rename_i y;rw[iq y]at f;exact Oper.wpIn_mono next f
   ·rename_i y;rw[ir y]at f;exact⟨f.1,next _ _ f.2⟩
  ·have:j=X l:=YD
   subst this;refine⟨λ_=>by simpa[vX]using f,λi hi=> ?_⟩;have H:=hd _ b hn hp p d i hi;have⟨s,o,g,_⟩:=mem_ready.1 hi;have:=(xbd.1 g).1;simp at this;omega
def zmA{id:K}(m:K)(d:zC Pr)(ts:zC vn)(hm:P.follows .mixedOrders=I)(hc:Q4 l m=I)(hl:X d=m)(hd:(l.all λo=>kP N.n o.dst)=I)
 (hX:Obs P l.toArray ms Γ env0 ((l.take m).zip d) [])
 (a3:∀(S:K->Prop) (w:xN) (env:xt),(∀k,w.heap.size<=k->S k)->zK S Γ w->U2 (Kof ((l.take m).zip d) []) env0 env S w ts->
  ∃s live,zK S s w/\gb env live/\∀rest,TL P N we Se ms s l.toArray (l.drop m) Q<|L live rest):
 T P N we Se ms Γ (.region id l.toArray I) Q env0:=by
 intro w0 b3 a0 b4 b5 b6;have⟨h0,h1,h2,h3,c0⟩:=X7 hc;have⟨s1,s2,s3,S,s4,s5,s6,s7,s8⟩:=b3;have mk:∀w' Δ,dN w0 w'->zK S Δ w'->St we Se ms Δ w':=λw' Δ x c1=>
  ⟨s1.trans x,s2,s3,S,s4,λk f=>s5 k<|PX x.size f,s6,xd.keep x.to (λm hm i hi=>x.block i (xd.lt s7 m hm i hi) xS) s7,c1⟩
 have e0:X ((l.take m).zip d)=m:=by simp;omega
 have hC:∀i,i<m->∃u,((l.take m).zip d)[i]? =Z (yn l i,u):=λi hi=>by
  have hn:i<X l:=YD
  refine⟨d[i]'YD,?_⟩;rw[List.getElem?_zip_eq_some];refine⟨?_,Xn⟩;rw[xcx,iq hi];simp[yn,hn]
 have hp:∀i x,((l.take m).zip d)[i]? =Z x->i<m/\x.1=yn l i:=λi x hx=>by
  have hi:i<m:=by have:=(xav.1 hx).1;omega
  have⟨u,h⟩:=hC i hi;rw[h]at hx;cases hx;exact⟨hi,O⟩
 refine wpIn_region_any hm ?_
 have c2:∀(g:K) (b:wL ws) (a:kg) (w:xN),(xaE (X l)).countP (λk=> !b.getD k I)<=g->b.size=X l->a.tmps.size=N.n->a.defers=N.ds->dN w0 w->
  (∀i,m<=i->i<X l->b.getD i I=yL)->
  (∀i,i<X l->b.getD i yL=I->∀e∈(yn l i).after,xct .any e=I->b.getD e.on yL=I)->
  (∀t,((∀i,i<m->b.getD i yL=I->(yn l i).dst≠Z t)/\xf a t=env0 t)\/
   ∃i u,i<m/\b.getD i yL=I/\((l.take m).zip d)[i]? =Z (yn l i,u)/\(yn l i).dst=Z t/\(∀M,M<m->b.getD M yL=I->(yn l M).dst=Z t->M<=i)/\u.p S (xf a t) w)->
  uT N.F 0 P .any l.toArray (zlu N Q) g b a w:=by
  intro g
  induction g with
  |zero=>
   intro b a w hM hL b1 b2 x hq hw R;have H:∀k,k<X l->b.getD k I=I:=λk f=>by
    have hz:(xaE (X l)).countP (λk=> !b.getD k I)=0:=YD
    rw[List.countP_eq_zero]at hz;have:=hz k<|xaZ.2 f;simpa using this
   have e1:m=X l:=by
    rcases xbO m (X l) with U|hge
    ·have h5:=hq m (eZ _) U;rw[H m U]at h5;cases h5
    ·omega
   have hI:=zK.keep x.to s8;have⟨s,live,f1,f2,f3⟩:=a3 S w (xf a) (λk f=>s5 k<|PX x.size f) hI (gj ts λt _=>hJ hC hp R (λi hi=>by
    have B:=H i YD;rwa[c (by omega:i<b.size)]at B))
   refine tH hc 0 m b a w (eZ _) h0 YD hL (λk f=>by rw[H k f];simp;omega) ?_;exact f3 (xf a) w (mk w s x f1) a b1 b2 (lF f2).symm
  |succ g ih=>
   intro b a w hM hL b1 b2 x hq hw R;by_cases H:∀k,k<m->b.getD k I=I
   ·have hI:=zK.keep x.to s8;have⟨s,live,f1,f2,f3⟩:=a3 S w (xf a) (λk f=>s5 k<|PX x.size f) hI (gj ts λt _=>hJ hC hp R (λi hi=>by
     have B:=H i hi;rwa[c (by omega:i<b.size)]at B))
    have hY:∀k,k<X l->b.getD k I=decide (k<m):=λk f=>by
     by_cases hQ:k<m
     ·rw[H k hQ];simp[hQ]
     ·rw[hq k YD f];simp[hQ]
    refine tH hc (g+1) m b a w (eZ _) h0 (PX ?_ hM) hL hY ?_
    ·rw[show(xaE (X l)).countP (λk=> !b.getD k I)=(xaE (X l)).countP (λk=> !decide (k<m))from List.countP_congr λk f=>by rw[hY k<|xaZ.1 f]];exact count_ge m (X l)
    ·exact f3 (xf a) w (mk w s x f1) a b1 b2 (lF f2).symm
   ·have hZ:∃k,k<m/\b.getD k I=yL:=by
     by_cases hh:∃k,k<m/\b.getD k I=yL
     ·exact hh
     ·exact wl (λk f=>by
       cases r:b.getD k I
       ·exact wl ⟨k,f,r⟩ hh
       ·rfl) H
    refine⟨λhr=> ?_,λi hi=> ?_⟩
    ·exfalso;have⟨k,f,hR,h4⟩:=first_un hZ;have:k∈xdU .any l.toArray b:=mem_ready.2 ⟨hR,yn l k,XA YD,λe J r=>by
      have h5:=h1 k YD e J r;have B:=h4 e.on h5;rwa[c (by omega:e.on<b.size)]at B⟩
     rw[hr]at this;cases this
    ·have⟨hu,o,ho,hA⟩:=mem_ready.1 hi;have hn:i<X l:=by simpa using(xbd.1 ho).1
     rw[XA hn]at ho;cases ho;have hS:i<m:=by
      obtain h|h:=xbO i m
      ·exact h
      ·exfalso;by_cases h9:m=i
       ·subst h9;have⟨k,f,hR⟩:=hZ;have B:=lJ hw h1 16 m k hn hA<|c0 hn k f;rw[<-c (by omega:k<b.size),hR]at B;cases B
       ·have⟨e,J,r,hK⟩:=ZN<|h3 i YD hn;have B:=hA e J r;rw[hK,<-c (by omega:i-1<b.size),hq (i-1) YD YD]at B;cases B
     have⟨u,a4⟩:=hC i hS;have c3:=zj0 _ [] i _ hX a4;have hB:∀t,(t∈xbr l.toArray (yn l i)\/(yn l i).dst=Z t)->∀j,j<m->(yn l j).dst=Z t->j≠i->(b.getD j yL=I↔j<i):=by
      intro t ht j C hF hT;have h7:=h2 i j t hS C hT hF ht;constructor
      ·intro z;obtain h|h:=xbO j i
       ·exact h
       ·exfalso;have⟨e,J,r,hK⟩:=ZN (h7.2 YD);have h8:=hw j YD z e J r;rw[hK,<-c (by omega:i<b.size),hu]at h8;cases h8
      ·intro D;have⟨e,J,r,hK⟩:=ZN<|h7.1 D;have h8:=hA e J r;rwa[hK]at h8
     have h':b.getD i yL=yL:=by rw[<-c (by omega:i<b.size)];exact hu
     have hU:U2 (Kof (((l.take m).zip d).take i) []) env0 (xf a) S w (xbr l.toArray<|yn l i):=by
      refine gj _ λt ht=> ?_;have tk:∀(j:K) (y:wT×Pr),(((l.take m).zip d).take i)[j]? =Z y->j<i/\((l.take m).zip d)[j]? =Z y:=λj y V=>by
       rw[xcx]at V;split at V
       ·exact⟨by assumption,V⟩
       ·cases V
      unfold VB;rcases Dm t (((l.take m).zip d).take i) []with⟨j,y,g1,A,g3,g4⟩|⟨g1,A⟩
      ·rw[g4];have⟨D,V⟩:=tk j y g1;have⟨Y,hV⟩:=hp j y V;rw[hV]at A;have z:=(hB t (.inl ht) j Y A YD).2 D;rcases R t with⟨f1,_⟩|⟨k,q,k1,k2,E,G,k5,k6⟩
       ·exact wl A<|f1 j Y z
       ·have hW:k=j:=by
         have a1:=k5 j Y z A;have hG:k<i:=(hB t (.inl ht) k k1 G<|λe=>by subst e;rw[h']at k2;cases k2).1 k2;have a2:=g3 k (yn l k,q) (by rw[xcx,iq hG];exact E) G;omega
        subst hW;rw[E]at V;cases V;exact k6
      ·rw[A];simp only[List.find?_nil];rcases R t with⟨_,f2⟩|⟨k,q,k1,k2,E,G,k5,k6⟩
       ·exact f2
       ·exfalso;have hG:k<i:=(hB t (.inl ht) k k1 G<|λe=>by subst e;rw[h']at k2;cases k2).1 k2;exact g1 k (yn l k,q) (by rw[xcx,iq hG];exact E) G
     have hI:=zK.keep x.to s8;have hN:=c3 S w (xf a) (λk f=>s5 k<|PX x.size f) (xd.keep x.to (λm hm i hi=>x.block i (xd.lt s7 m hm i hi) xS) s7) hI hU;have c4:kP N.n (yn l i).dst=I:=by
      rw[xaS]at hd;refine hd _ ?_;have:yn l i=l[i]:=by simp[yn,hn]
      rw[this];exact xbx _
     have next:∀v w',dN w w'->u.p S v w'->uT N.F 0 P .any l.toArray (zlu N Q) g (b.setIfInBounds i true) (a.put (yn l i).dst v) w':=by
      intro v w' x' hv;have hO:i<b.size:=YD
      refine ih _ _ w' ?_ (by simpa using hL) (by rw[gG];exact b1) (by rw[Qu];exact b2) (x.trans x') (λk c5 f=> ?_) (λk f a5 e J r=> ?_)<|λt=> ?_
      ·have:=(HG hO hu<|xaE (X l)).2<|xaZ.2 hn;omega
      ·rw[qv I YD];exact hq k c5 f
      ·by_cases hG:i=k
       ·subst hG;exact ul<|hA e J r
       ·rw[qv yL hG]at a5;exact ul<|hw k f a5 e J r
      ·rw[Qj<|by rw[b1];exact gU c4];by_cases hH:(yn l i).dst=Z t
       ·right;refine⟨i,u,hS,by simp[hO],a4,hH,λj C z hF=> ?_,?_⟩
        ·by_cases D:i=j
         ·omega
         ·rw[qv yL D]at z;have:=(hB t (.inr hH) j C hF YD).1 z;omega
        ·rw[hH];simpa[put,L]using hv
       ·have a9:put (xf a) (yn l i).dst v t=xf a t:=by
         cases c6:(yn l i).dst with
         |none=>rfl
         |some dd=>
          have hT:¬t=dd:=λe=>hH (by rw[c6,e]);have:xad t dd=yL:=XO hT;simp[put,L,this]
        rw[a9];rcases R t with⟨f1,f2⟩|⟨k,q,k1,k2,E,G,k5,k6⟩
        ·refine .inl ⟨λj C z=> ?_,f2⟩;by_cases D:i=j
         ·subst D;exact hH
         ·rw[qv yL D]at z;exact f1 j C z
        ·refine .inr ⟨k,q,k1,ul k2,E,G,λj C z hF=> ?_,q.keep k6 x'⟩;by_cases D:i=j
         ·subst D;exact wl hF hH
         ·rw[qv yL D]at z;exact k5 j C z hF
     unfold wpOpIn;rw[XA hn];simp only[UK];cases hP:xl l.toArray (xf a) (yn l i)
     ·simp only[xaj,wP];exact⟨λ_ _=>xS,next undef w (yO.refl _ _) (hN.2 hP)⟩
     ·simp only[wN];exact(hN.1 hP).wp λv w' b0=>next v w' b0.1 b0.2
 refine c2 l.toArray.size _ a0 _ ?_ Xn b4 b5 (dN.drawn w0 _) (λi h9 hi=>by simp[hi]) (λi hi U=> ?_)<|λt=> .inl ⟨λi hi U=> ?_,by rw[b6]⟩
 ·exact PX (List.countP_le_length) Xn
 ·have:i<(xev l.toArray.size yL).size:=by simpa using hi
  rw[<-c this]at U;simp[hi]at U
 ·have hn:i<X l:=YD
  have:i<(xev l.toArray.size yL).size:=by simpa using hn
  rw[<-c this]at U;simp[hn]at U
 where
 c {b:wL ws}{i:K} (h:i<b.size):b.getD i I=b.getD i yL:=by simp[xbh,xcQ h]
 first_un {m:K}{b:wL ws} (h:∃k,k<m/\b.getD k I=yL):∃k,k<m/\b.getD k I=yL/\∀j,j<k->b.getD j I=I:=by
  have⟨k,f,hu⟩:=h
  induction k using xcY with
  |_ k ih=>
   by_cases hh:∃j,j<k/\b.getD j I=yL
   ·have⟨j,C,c7⟩:=hh;exact ih j C YD c7
   ·refine⟨k,f,hu,λj C=> ?_⟩;cases r:b.getD j I
    ·exact wl ⟨j,C,r⟩ hh
    ·rfl
 count_ge (m:K):∀n,n-m<=(xaE n).countP (λk=> !decide (k<m))
  |0=>by simp
  |n+1=>by
   have:=count_ge m n;rw[xdb,List.countP_append];by_cases h:n<m
   ·omega
   ·simp[h];omega
 hJ {d:zC Pr}{b:wL ws}{a:kg}{w:xN}{S:K->Prop}{l:zC wT}{m:K}{env0:xt} (hC:∀i,i<m->∃u,((l.take m).zip d)[i]? =Z (yn l i,u)) (hp:∀i x,((l.take m).zip d)[i]? =Z x->i<m/\x.1=yn l i)
  (R:∀t,((∀i,i<m->b.getD i yL=I->(yn l i).dst≠Z t)/\xf a t=env0 t)\/
   ∃i u,i<m/\b.getD i yL=I/\((l.take m).zip d)[i]? =Z (yn l i,u)/\(yn l i).dst=Z t/\(∀M,M<m->b.getD M yL=I->(yn l M).dst=Z t->M<=i)/\u.p S (xf a t) w)
  (H:∀i,i<m->b.getD i yL=I) {t:vn}:VB (Kof ((l.take m).zip d) []) env0 (xf a) S w t:=by
  unfold VB;rcases Dm t ((l.take m).zip d) []with⟨j,y,g1,A,g3,g4⟩|⟨g1,A⟩
  ·rw[g4];have⟨Y,hV⟩:=hp j y g1;rw[hV]at A;rcases R t with⟨f1,_⟩|⟨k,q,k1,k2,E,G,k5,k6⟩
   ·exact wl A<|f1 j Y<|H j Y
   ·have hW:k=j:=by
     have a1:=k5 j Y (H j Y) A;have a2:=g3 k (yn l k,q) E G;omega
    subst hW;rw[E]at g1;cases g1;exact k6
  ·rw[A];simp only[List.find?_nil];rcases R t with⟨_,f2⟩|⟨k,q,k1,k2,E,G,k5,k6⟩
   ·exact f2
   ·exact wl G<|g1 k (yn l k,q) E
end
end
section
def zkV{we:xN}{Se:K->Prop}{ms a:N MF}{Γ b:N FF}{R:xN->Prop}(c:∀w,St we Se ms Γ w->St we Se a b w)(k:∀w,St we Se a b w->R w):∀w,St we Se ms Γ w->R w:=
 λw h=>k w<|c w h
def zqx{a b:K}:xcw.wrap ((a:J)+(b:J))=(((a+b)%18446744073709551616:K):J):=by
 rfl
def zrf{a b:K}:xcw.wrap ((a:J)*(b:J))=(((a*b)%18446744073709551616:K):J):=by
 rfl
def zrt{a b:K}(h:b<=18446744073709551616):xcw.wrap ((a:J)-(b:J))=(((a+18446744073709551616-b)%18446744073709551616:K):J):=by
 rw[O8];lia
def zt0{a:K}(h:a<18446744073709551616):xcw.wrap (0-(a:J))=(((18446744073709551616-a)%18446744073709551616:K):J):=by
 rw[O8];lia
def zlK{a b:K}(h:a<18446744073709551616):xcw.wrap ((a:J).tdiv (b:J))=((a/b:K):J):=by
 exact DW<|xaG (xcd _ _) h
def zvQ{a b:K}:(a:J).tmod (b:J)=((a%b:K):J):=(Int.ofNat_tmod a b).symm
section
variable{P:ww}{N:Nd}{we:xN}{Se:zV->Prop}{ms:zC MF}{Γ:zC FF}{Q:Qs}{env:xt}{ops:wL wT}{rest:zC wT}
 {d:z7 vn}{ty yt t:wn}{pos:String}{aft:wL Edge}{g:z7 (zV×ws)}{x y:wr}
def zgO{a n cap:K}{b:V kG}(c:P.underlying t=Z (.slice a))(e:ev env x=.slice b n cap)(w:xN):
 (wD (ev env) ⟨d,.call ⟨.builtin .len,#[x],#[t]⟩,ty,pos,aft,g⟩).run P w=.ok (.value (.int .i64 (n:J))) w:=by
 simp[wD,vS,qR,ut,e,Builtin.len_,Z7,wE c]
def zdK{α:Type}{e:ye α}{E c:K}{v:xn}{xs:zC α}(i:K)(f:ms[i]? =Z (mO e E v xs))(a:P.underlying t=Z (.slice c))(b:ev env x=v):
 OpE P ⟨d,.call ⟨.builtin .len,#[x],#[t]⟩,ty,pos,aft,g⟩ env ms Γ (λ_:wW=> .int .i64 (X xs:J)) (λ_=>[]) (λ_=>X xs<=9223372036854775807):=by
 intro w S _ h _;have⟨cs,h1,l⟩:=xd.get h f;rcases h1.2 with⟨rfl,h0⟩|⟨m,cap,j,rfl,n,o,hc,k,_⟩
 ·refine Yq.of_value (zgO a b w) ⟨(),by rw[h0],W,yO.refl _ _,xS⟩
 ·exact Yq.of_value (zgO a b w) ⟨(),O,by unfold qs at k;lia,yO.refl _ _,xS⟩
end
end
section
def zqY{P:ww}{f:vi}{fn:jP}{e:wL xn->Sem xn}{args:wL xn}{w:xN}{v:xn}(a:P.funcs[f]? =Z fn)(hn:(fn.name== "runtime.NumGoroutine")=yL)(b:fn.body=yD)
 (h1:(xex fn).isNone=I) (c:xeJ fn=Z e) (d:(e args).run P w=.ok v w):(Z8 f args).run P w=.ok (.value v) w:=by simp_all [Z8]
section
variable{P:ww}{env:xt}{d:z7 vn}{ty:wn}{pos:String}{aft:wL Edge}{g:z7 (zV×ws)}
def zs5{f:vi}{fn:jP}{e:wL xn->Sem xn}{asv:N wr}{ts:wL wn}{args:N xn}{v:xn}(a:P.funcs[f]? =Z fn)(hn:(fn.name== "runtime.NumGoroutine")=yL)(b:fn.body=yD)
 (h1:(xex fn).isNone=I) (c:xeJ fn=Z e) (h:asv.map (ev env)=args) (i:∀w,(e args.toArray).run P w=.ok v w) (w:xN):
 (wD (ev env) ⟨d,.call ⟨.value (.func f),asv.toArray,ts⟩,ty,pos,aft,g⟩).run P w=.ok (.value v) w:=by
 have:=zqY (P:=P) (args:=args.toArray) (w:=w) a hn b h1 c<|i w;simp[wD,vS,ev,xdx,qR,h,this]
def zmE(s:String)(x y c:xn):∃z:String,xbE s #[x,y,c]=(do
 let c:=(<-ZR c).toNat
 if c>1 then unsupported (.noEntry z)
 pure ((<-ZR x).toNat,(<-ZR y).toNat,c)):=⟨_,O⟩
def zbi(s:String){x y c:K}(hc:c<=1)(w:xN):(xbE s #[.int .u64 (x:J),.int .u64 (y:J),.int .u64 (c:J)]).run P w=.ok (x,y,c) w:=by
 have:¬c>1:=W
 have⟨z,a⟩:=zmE s (.int .u64 x) (.int .u64 y) (.int .u64 c);rw[a];simp only[ZR,jp,xau,xaO,xai,xaJ,this,wP]
def zkQ{x y c:K}(hc:c<=1)(w:xN):((do
 let(x,y,c)<-xbE "Add64" #[.int .u64 (x:J),.int .u64 (y:J),.int .u64 (c:J)]
 pure (xcq ((x+y+c)%xba)<|(x+y+c)/xba):Sem xn)).run P w=
  .ok (.tuple #[.int .u64 (((x+y+c)%18446744073709551616:K):J),.int .u64 (((x+y+c)/18446744073709551616:K):J)]) w:=by
 rw[xau,zbi _ hc];rfl
def zlo{x y c:K}(hc:c<=1)(w:xN):((do
 let(x,y,b)<-xbE "Sub64" #[.int .u64 (x:J),.int .u64 (y:J),.int .u64 (c:J)]
 pure (xcq ((x+xba-y-b)%xba) (if x<y+b then 1 else 0)):Sem xn)).run P w=
  .ok (.tuple #[.int .u64 (((x+18446744073709551616-y-c)%18446744073709551616:K):J),.int .u64 ((if x<y+c then 1 else 0:K):J)]) w:=by
 rw[xau,zbi _ hc];rfl
def zrJ{f:vi}{fn:jP}{a b c:wr}{ts:wL wn}{x y z:K}(e:P.funcs[f]? =Z fn)(hn:(fn.name== "runtime.NumGoroutine")=yL)(h:fn.body=yD)
 (h1:(xex fn).isNone=I) (i:xeJ fn=Z (λargs=>do
  let(x,y,c)<-xbE "Add64" args
  pure (xcq ((x+y+c)%xba)<|(x+y+c)/xba)))
 (j:ev env a=.int .u64 (x:J)) (hc:ev env b=.int .u64 (y:J)) (hd:ev env c=.int .u64 (z:J)) (k:z<=1) (w:xN):
 (wD (ev env) ⟨d,.call ⟨.value (.func f),#[a,b,c],ts⟩,ty,pos,aft,g⟩).run P w=
  .ok (.value (.tuple #[.int .u64 (((x+y+z)%18446744073709551616:K):J),.int .u64 (((x+y+z)/18446744073709551616:K):J)])) w:=
 zs5 e hn h h1 i (by simp[j,hc,hd]) (λw=>zkQ k w) w
def zr3{f:vi}{fn:jP}{a b c:wr}{ts:wL wn}{x y z:K}(e:P.funcs[f]? =Z fn)(hn:(fn.name== "runtime.NumGoroutine")=yL)(h:fn.body=yD)
 (h1:(xex fn).isNone=I) (i:xeJ fn=Z (λargs=>do
  let(x,y,b)<-xbE "Sub64" args
  pure (xcq ((x+xba-y-b)%xba) (if x<y+b then 1 else 0))))
 (j:ev env a=.int .u64 (x:J)) (hc:ev env b=.int .u64 (y:J)) (hd:ev env c=.int .u64 (z:J)) (k:z<=1) (w:xN):
 (wD (ev env) ⟨d,.call ⟨.value (.func f),#[a,b,c],ts⟩,ty,pos,aft,g⟩).run P w=
  .ok (.value (.tuple #[.int .u64 (((x+18446744073709551616-y-z)%18446744073709551616:K):J),.int .u64 ((if x<y+z then 1 else 0:K):J)])) w:=
 zs5 e hn h h1 i (by simp[j,hc,hd]) (λw=>zlo k w) w
end
def zr7(P:ww)(w:xN)(env:xt):qc->xn->Prop
 |.tmp t,v=>env t=v
 |.cell a t,v=>∃b,env a=.pointer (Z b)/\(Z6 t b).run P w=.ok v w
def oj(P:ww)(w:xN)(env:xt):N qc->N xn->Prop
 |[],[]=>vF
 |r::rs,v::vs=>zr7 P w env r v/\oj P w env rs vs
 |_,_=>jN
def zf1(P:ww)(w:xN)(a:kg):∀(rs:N qc) (vs:N xn),oj P w (xf a) rs vs->(rs.mapM<|Sz a.tmps).run P w=Result.ok vs w
 |[],[],_=>by simp
 |r::rs,v::vs,⟨h1,c⟩=>by
  have f:=zf1 P w a rs vs c;have h:(Sz a.tmps r).run P w=.ok v w:=by
   cases r with
   |tmp t=>simp only[zr7]at h1;simp[Sz,<-h1,xf]
   |cell x t=>
    have⟨d,e1,e⟩:=h1;have b:a.tmps.getD x wR=.pointer (Z d):=e1;simp only[Sz,b,xau,asAddr,xaO,xai,e]
  simp_all
 |[],_::_,h=>h.elim
 |_::_,[],h=>h.elim
def Qa:N xn->xn
 |[v]=>v
 |vs=> .tuple vs.toArray
def JA{P:ww}{fn:jP}{rs:N qc}{vs:N xn}{w:xN}{a:kg}(b:fn.results=rs.toArray)(h:oj P w (xf a) rs vs):(kw fn a.tmps).run P w=.ok (Qa vs) w:=by
 have e:kw fn a.tmps=(do let vs<-fn.results.mapM (Sz a.tmps);pure (if h:vs.size=1 then vs[0]else .tuple vs)):=by rfl
 rw[e,b,Array.mapM_eq_mapM_toList];have:=zf1 P w a rs vs h;simp only[xau,Sem.run_map,this]
 match vs with
 |[]=>simp[Qa]
 |[v]=>simp[Qa]
 |v::u::r=>simp[Qa]
section
variable{P:ww}{we:xN}{Se:zV->Prop}{ms:zC MF}{Γ:zC FF}{env:xt}{U:Type}{val:U->xn}{facts:U->zC FF}{ok:U->Prop}{fn:jP}
def zmv{α:Type}{e:ye α}{E b:K}{z:α}{w:xN}{bytes:K}{d:xn}{R:Prop}{a:vn}(i:K)(g:St we Se ms Γ w)(h:ms[i]? =Z (mB e.c E b z))(j:env a=.pointer (Z ⟨b,0,yD⟩))
 (l:UI P E e.agg e.n bytes d) (k:∀v,St we Se ms (fV e z v::Γ) w->zr7 P w env (.cell a E) v->R):R:=by
 have⟨h1,m,o,S,p,q,r,f,s⟩:=g;have⟨cs,t,hp⟩:=xd.get f h;have u:=At.row t;exact k (e.val cs.toList) ⟨h1,m,o,S,p,q,r,f,⟨cs.toList,O,hp⟩,s⟩ ⟨_,j,oc l hp u⟩
end
def FnG{U:Type}(P:ww)(f:vi)(args:wL xn)(ms:N MF)(Γ:N FF)(b:U->xn)(own:U->N MF)(a:U->N FF)(ok:U->Prop):Prop:=
 ∀we Se F G w,St we Se (ms++F) (Γ++G) w->uL P f args w (λe w'=>∃u,e=.returned (b u)/\ok u/\St we Se (own u++F) (a u++G) w')
section
variable{P:ww}{N:Nd}{we:xN}{Se:zV->Prop}{ms F:zC MF}{Γ G:zC FF}{Q:Qs}{env:xt}{U:Type}{val:U->xn}{own:U->zC MF}{facts:U->zC FF}{ok:U->Prop}{fn:jP}
 {ops:wL wT}{rest:zC wT}{d:z7 vn}{ty:wn}{pos:String}{aft:wL Edge}{g:z7 (zV×ws)}
def FnG.plain{f:vi}{args:wL xn}(h:FnG P f args [] Γ val (λ_=>[]) facts ok):Fn P f args Γ val facts ok:=by
 intro w Se b a;refine(h w Se [] [] w<|St.nil (by simpa using a) b).mono ?_;rintro e w' ⟨u,h1,c,i⟩;have:=i.out (λS w h=>by simpa using h);exact⟨u,h1,c,this.1,this.2⟩
def FnG.frozen{f:vi}{args:wL xn}{Δ:U->zC FF}(h:FnG P f args [] Γ val own facts ok)
 (b:∀(u:U) (w':xN) (we:xN) (Se:K->Prop),St we Se (own u) (facts u) w'->St we Se [] (Δ u) w'):Fn P f args Γ val Δ ok:=by
 intro w Se c a;refine(h w Se [] [] w<|St.nil (by simpa using a) c).mono ?_;rintro e w' ⟨u,h1,i,j⟩;have:=(b u w' w Se<|by simpa using j).out<|λS w h=>h;exact⟨u,h1,i,this.1,this.2⟩
end
def zgl:∀{ms:N MF}{i:K}{m:MF},KJ ms->ms[i]? =Z m->KJ (m::ms.eraseIdx i):=by
 intro ms i m h e;refine⟨λk b m' a hc=> ?_,?_⟩
 ·rw[List.mem_eraseIdx_iff_getElem?]at a;have⟨j,c,d⟩:=a;exact px h e k b j m' c d hc
 ·exact dp i h
def St.front{we:xN}{Se:K->Prop}{ms:N MF}{Γ:N FF}{w:xN}{m:MF}(i:K)(h:St we Se ms Γ w)(hi:ms[i]? =Z m):St we Se (m::ms.eraseIdx i) Γ w:=by
 have⟨h1,b,c,S,d,e,f,a,g⟩:=h;refine⟨h1,b,zgl c hi,S,d,e,λm' hm'=> ?_,⟨xd.get a hi,iX i a⟩,g⟩;obtain rfl|hm':=PQ.1 hm'
 ·grind
 ·exact f m'<|xdt hm'
def zm3{m:K}(h:m<=9223372036854775807):xcO.wrap (m:J)=(m:J):=w64 W
def zfT{P:ww}{w:xN}(t s ty e:wn)(i:Z9)(z:xn)(size bytes:K){ik:vu}(h:P.underlying t=Z (.slice e))(l:P.underlying s=Z (.int ik))(hi:P.info? e=Z i)(x:i.zero=Z z)
 (Q:i.size=size) (R:i.bytes=bytes) (E:z.cells.size=size) (S:∀u∈z.cells.toList,u.oneCell'=I) (y:0<size)
 (v:xn) (n:K) (xs:N xn) (f:w.ownsRow 0 e size v n xs) (m:K)
 (F:n+m<=qs) (hc:(n+m)*bytes<=140737488355328):
 ∃A w',(xcc #[t,s] ty #[v,.int .i64 (m:J)]).run P w=.ok A w'/\w'.ownsRow 0 e size A (n+m) (xs++(xbm z.cells m).toList)/\w.grownBy w' v.ownBlock/\
  ∀k,A.ownBlock=Z k->v.ownBlock=Z k\/w.heap.size<=k:=by
 subst Q;subst R;have hI:n+m<=9223372036854775807:=by simp only[qs]at F;lia
 have G:(xbm z.cells m).toList.length=m*i.size:=by simp[ZI,E]
 have hd:X (xs++(xbm z.cells m).toList)=(n+m)*i.size:=by rw[xak,f.1,G,xaT]
 have B:=zm3 (m:=m) W;have hl:¬((m:J)<0):=W
 have T:¬((m:J)*(i.bytes:J)>281474976710656):=by
  have h1:m*i.bytes<=(n+m)*i.bytes:=xaf _ W;have:((m*i.bytes:K):J)<=140737488355328:=W
  rw[xda]at this;lia
 have hn:¬(281474976710656<(m:J)*(i.bytes:J)):=T
 have a:∀(old:K),old<n+m->∀(o:V K),
  (w.drew.alloc (.cells (xs.toArray++xbm z.cells m++xbm z.cells (Zi w (n+m) old e-(n+m))) e)).ownsRow 0 e i.size
   (.slice (Z ⟨w.heap.size,0,yD⟩) (n+m)<|Zi w (n+m) old e) (n+m) (xs++(xbm z.cells m).toList)/\
  w.grownBy (w.drew.alloc (.cells (xs.toArray++xbm z.cells m++xbm z.cells (Zi w (n+m) old e-(n+m))) e)) o:=by
  intro old ho o;have U:=grownCap_ge w (n+m) old e;have C:Zi w (n+m) old e<=qs:=grownCap_le_maxLen w (n+m) old e F;refine⟨⟨hd,.inr ⟨w.heap.size,_,_,O,sB _,v6 w.drew _,U,C,?_,?_⟩⟩,⟨O,O,O,Xn,λk b _=>RowKit.Below.heap_alloc w.drew _ k b⟩⟩
  ·simp only[Array.size_append,List.size_toArray,ZI,E,f.1,<-xaT];congr 1;lia
  ·simp only[Array.toList_append,xal];rw[<-xal,<-hd];exact List.take_left
 rcases f.2 with⟨rfl,rfl⟩|⟨g,cap,c,rfl,Y,H,hO,C,hP,hC⟩
 ·have hx:xs=[]:=xbk (by simpa using f.1);subst hx;by_cases d:m=0
  ·subst d;refine⟨.slice yD 0 0,w,?_,by simpa[xbm]using World.ownsRow_nil w 0 e i.size,⟨O,O,O,eZ _,λ_ _ _=>O⟩,λk b=> .inl b⟩;have e0:xcO.wrap 0=0:=YL
   simp[xcc,wE h,wE l,qo,qL,hi,ZR,jp,e0]
  ·have hp:¬(9223372036854775807<(m:J)):=W
   have q:=ZL (old:=0) (need:=0+m) (bytes:=i.bytes) W hc;have D:¬(281474976710656<Builtin.nextslicecap m 0*i.bytes):=by simp only[xaF]at q;lia
   have p:=a 0 W<|Value.ownBlock (.slice yD 0 0);refine⟨_,_,?_,p.1,p.2,λk b=> .inr<|by cases b;exact eZ _⟩;simp[xcc,wE h,wE l,qo,qL,Zl,hi,x,ZR,jp,B,d,hp,D,hl,hn,Question.forced,run_firstCells_none,Zv,Zi];intro h0;have:0<m*i.size:=Nat.mul_pos W y;lia
 ·by_cases r:n+m<=cap
  ·have q:n*i.size+(xbm z.cells m).toList.length<=c.size:=by rw[G,hP,<-xaT];exact xaf _ r
   have h1:∀u∈(xbm z.cells m).toList,u.oneCell'=I:=by
    intro u L;simp only[xbm,Array.toList_map,xan]at L;obtain⟨j,hj,rfl⟩:=L;have M:j%z.cells.size<z.cells.size:=xaI _ W;rw[getElem!_pos z.cells _ M];exact S _<|xdC.2<|Array.getElem_mem M
   have hv:=uV P g (n*i.size) e (xbm z.cells m).toList 0 c w H (by simpa using q) h1;simp only[xbM]at hv
   have hr:(xcc #[t,s] ty #[.slice (Z ⟨g,0,yD⟩) n cap,.int .i64 (m:J)]).run P w=
    .ok (.slice (Z ⟨g,0,yD⟩) (n+m) cap) (w.setRow g (c.toList.take (n*i.size)++(xbm z.cells m).toList++c.toList.drop (n*i.size+(xbm z.cells m).toList.length)).toArray):=by
    by_cases d:m=0
    ·subst d;have e0:xcO.wrap 0=0:=YL
     have ez:(xbm z.cells 0)= #[]:=by simp[xbm]
     rw[ez]at hv⊢;simp[xcc,wE h,wE l,qo,qL,hi,ZR,jp,e0,hO,Addr.add_lit,hv]
    ·have hQ:¬(m=0\/i.size=0):=W
     simp[xcc,wE h,wE l,qo,qL,Zl,hi,x,ZR,jp,B,hl,hn,r,hQ,Addr.add_lit,hv];intro h0;have:0<m*i.size:=Nat.mul_pos W y;lia
   refine⟨_,_,hr,⟨hd,.inr ⟨g,cap,_,O,Y,Z5 w g c _ e _ H,r,C,?_,?_⟩⟩,⟨O,O,O,Xn,λk _ b=>setRow_other w g k _<|λe=>b<|by simp[Value.ownBlock,e]⟩,λk b=> .inl b⟩
   ·simp only[List.size_toArray,xak,xap,xca,xeH]at q⊢;lia
   ·rw[hC,<-hd];exact List.take_left
  ·have hD:∀j u,xs[j]? =Z u->w.cell? ((⟨g,0,yD⟩:kG).add j)=Z u:=f.cells (g:=g) O;have hp:¬(9223372036854775807<(n:J)+(m:J)):=W
   have D:¬(281474976710656<Builtin.nextslicecap (n+m) cap*i.bytes):=by have:=ZL (old:=cap) (need:=n+m) (bytes:=i.bytes) W hc;lia
   have p:=a cap W<|Value.ownBlock (.slice (Z ⟨g,0,yD⟩) n cap);have hR:=run_firstCells_some (P:=P) w.drew i.size n ⟨g,0,yD⟩ n cap xs f.1 (by simpa using hD);refine⟨_,_,?_,p.1,p.2,λk b=> .inr<|by cases b;exact eZ _⟩;by_cases d:m=0
   ·subst d;lia
   simp[xcc,wE h,wE l,qo,qL,Zl,hi,x,ZR,jp,B,d,hp,D,hl,hn,r,Question.forced,hR,Zv,Zi];intro h0;have:0<m*i.size:=Nat.mul_pos W y;lia
def EU{z:wL xn}{m:K}(a:z.size=m)(n:K):(xbm z n).toList=(sR n z.toList).flatten:=by
 apply xcC;intro j;by_cases b:j<n*m
 ·have c:0<m:=xcm λh0=>by rw[h0]at b;simp at b
  have e1:(xbm z n).toList[j]? =z.toList[j%m]? :=by
   have:=xaI j c;simp[xbm,a,b,this]
  rw[e1,zke.flatten_get z.toList m (by simpa using a) c n j b];all_goals exact 0
 ·rw[xbB (by simp[ZI,a];lia),xbB<|by simp[a];lia]
section
variable{P:ww}{N:Nd}{we:xN}{Se:zV->Prop}{ms ms':zC MF}{Γ Γ':zC FF}{Q:Qs}{env:xt}{ops:wL wT}{rest:zC wT}
 {d:z7 vn}{ty yt t ti:wn}{pos:String}{aft:wL Edge}{g:z7 (zV×ws)}{x y:wr}
def zhW{α:Type}{e:ye α}{f:wn}{xs:zC α}{z:α}{n:K}{v:xn}{bytes:K}{a:xn}{ik:vu}(i:K)(D:P.underlying t=Z (.slice f))(E:P.underlying ti=Z (.int ik))(hv:UI P f e.agg e.n bytes a)(hd:a.cells.size=e.n)(hn:0<e.n)
 (o:ms[i]? =Z (mO e f v xs)) (F:ev env x=v) (G:ev env y=.int .i64 (n:J)) (q:∀(S:K->Prop) (w:xN),e.p S z a.cells.toList w)
 (hF:X xs+n<=9223372036854775807) (H:(X xs+n)*bytes<=140737488355328):OG P ⟨d,.call ⟨.builtin .append,#[x,y],#[t,ti]⟩,ty,pos,aft,g⟩ env we Se ms Γ (λc=>c) (λc=>(ms.set i<|mO e f c<|xs++sR n z)) (λ_=>Γ) (λ_=>vF):=by
 intro w r;have⟨S,_,⟨cs,l,he⟩,h8,_⟩:=r.mut o;have⟨L,hi,i1,i2,M⟩:=hv.info;have⟨c,w',R,hl,b,T⟩:=zfT (P:=P) t ti ty f L a e.n bytes D E hi M i1 i2 hd (e.one<|q S w) hn v (X xs) cs l n (by unfold qs;lia) H;refine Yq.of_value (w':=w') (v:=c) ?_ ⟨c,O,xS,r.grow o ⟨b.os,b.tape,b.output,b.size,λj U m=>b.block j U<|λe=>m e.symm⟩ T ?_⟩
 ·simp only[wD,vS,qR,ut,xdS,xch,xew,F,G,xau,R,xaO,xai]
 ·intro S V ⟨h,hp,Y⟩ a0;have hB:h=cs:=by
   rcases l.2 with⟨rfl,h0⟩|⟨g,cap,a3,rfl,_,hC,_,_,_,hD⟩
   ·have s:=l.1;have u:=hp.1;rw[h0]at s u;have c1:cs=[]:=xbk (by simpa using s);have c2:h=[]:=xbk (by simpa using u);rw[c1,c2]
   ·rcases hp.2 with⟨hc,_⟩|⟨g',A,B,hE,_,C,_,_,_,hq⟩
    ·cases hc
    ·cases hE;rw[hC]at C;cases C;rw[<-hD,<-hq]
  subst hB;have kk:yO S w w':=⟨b.os,b.tape,b.output,b.size,λk hk m=>b.block k hk<|λe=>V k m e.symm⟩;rw[EU hd]at hl;exact⟨_,by rw[xak,xaR];exact hl,(Y.keep kk).append<|xa.replicate (q _ _) n⟩
end
def zK.left{S:K->Prop}{w:xN}:∀{Γ Δ:N FF},zK S (Γ++Δ) w->zK S Γ w
 |[],_,_=>trivial
 |_::_,_,h=>⟨h.1,zK.left h.2⟩
def zK.right{S:K->Prop}{w:xN}:∀{Γ Δ:N FF},zK S (Γ++Δ) w->zK S Δ w
 |[],_,h=>h
 |_::_,_,h=>zK.right h.2
def Fn.ok_mono{U:Type}{P:ww}{f:vi}{args:wL xn}{Γ:N FF}{g:U->xn}{d:U->N FF}{ok i:U->Prop}(h:Fn P f args Γ g d ok)(j:∀u,ok u->i u):Fn P f args Γ g d i:=
 λw Se h1 k=>(h w Se h1 k).mono λe w' ⟨u,a,b,c⟩=>⟨u,a,j u b,c⟩
end
section
def rowT{α:Type}(e:ye α)(cap:K):FZ (N α)where
 p S xs cs w:=∃c post,cs=c++post/\xa e S xs c w/\X cs=cap*e.n
 keep:=λ⟨c,post,h1,a,b⟩ k=>⟨c,post,h1,a.keep k,b⟩
 sub:=λ⟨c,post,h1,a,b⟩ k=>⟨c,post,h1,a.sub k,b⟩
def Sub.rowT{α:Type}(e:ye α)(cap:K)(xs:N α)(i:K)(x:α)(j:xs[i]? =Z x):Sub (rowT e cap) xs (i*e.n) e x (λy=>xs.set i y):=by
 rintro S w cs ⟨c0,a,rfl,k,hl⟩;obtain⟨d,c,b,rfl,l,f,m⟩:=Sub.row e xs i x j S w c0 k;refine⟨d,c,b++a,Xn,l,f,λw' y g o h=>⟨d++g++b,a,Xn,m w' y g o h,?_⟩⟩;have e1:=e.len f;have p:=e.len h;simp_all
def Sub.rowT0{α:Type}(e:ye α)(cap:K)(xs:N α)(i:K)(x:α)(a:xs[i]? =Z x):Sub (Go.Proofs.YtdpdofimolhigaaGreat.rowT e cap) xs (0+i*e.n) e x (λy=>xs.set i y):=by
 rw[xaF];exact Sub.rowT e cap xs i x a
section
variable{we:xN}{Se:zV->Prop}{ms:zC MF}{Γ:zC FF}{w:xN}{α:Type}{e:ye α}{E:wn}{xs:zC α}
theorem wZ{i:K}{m:MF}(h:St we Se ms Γ w)(hi:ms[i]? =Z m){p:Prop}(hp:∀S:K->Prop,m.p S w->p):p:=by grind [St.muts]
def St.openO{v:xn}(i:K)(h:St we Se ms Γ w)(c:ms[i]? =Z (mO e E v xs))(m:0<X xs):
 ∃g cap,v=.slice (Z ⟨g,0,yD⟩) (X xs) cap/\X xs<=cap/\cap<=9223372036854775807/\St we Se (ms.set i<|mB (rowT e cap) E g xs) Γ w:=by
 have:∃g cap,v=.slice (Z ⟨g,0,yD⟩) (X xs) cap/\X xs<=cap/\cap<=9223372036854775807:=wZ h c λS ⟨cs,h1,b⟩=>by
  rcases h1.2 with⟨rfl,h0⟩|⟨g,cap,a,rfl,l,d,f,j,hc,hd⟩
  ·lia
  ·exact⟨g,cap,O,f,j⟩
 obtain⟨g,cap,rfl,h1,b⟩:=this;refine⟨g,cap,O,h1,b,h.conv c O λS ⟨cs,h1,b⟩=> ?_⟩;rcases h1.2 with⟨h0,_⟩|⟨o,k,a,hv,l,d,f,j,hc,hd⟩
 ·cases h0
 ·cases hv;refine⟨a,d,cs,a.toList.drop<|X xs*e.n,?_,b,by simpa using hc⟩;rw[<-hd,xbw]
theorem St.closeO{g cap:K}(i n:K)(h:St we Se ms Γ w)(d:ms[i]? =Z (mB (rowT e cap) E g xs))(hn:n<=X xs)(hc:n<=cap)(k:cap<=9223372036854775807):
 St we Se (ms.set i<|mO e E (.slice (Z ⟨g,0,yD⟩) n cap)<|xs.take n) Γ w:=by
 refine h.conv d O λS ⟨cs,f,c,a,h1,b,j⟩=>⟨c.take<|n*e.n,?_,b.take n⟩;have hl:X (xs.take n)=n:=by simp;lia
 have l:=b.len;have hd:n*e.n<=X xs*e.n:=xaf _ hn;rw[hl];refine⟨by simp;lia,.inr ⟨g,cap,cs,O,sB _,f,hc,by unfold qs;lia,by simpa using j,?_⟩⟩;grind
def St.closeF{g cap:K}(i:K)(h:St we Se ms Γ w)(a:ms[i]? =Z (mB (rowT e cap) E g xs))(hc:X xs<=cap)(b:cap<=9223372036854775807):
 St we Se (ms.set i<|mO e E (.slice (Z ⟨g,0,yD⟩) (X xs) cap) xs) Γ w:=by
 have:=h.closeO i (X xs) a (eZ _) hc b;simp_all
def St.rowRT{b n:K}(i:K)(h:St we Se ms Γ w)(c:ms[i]? =Z (mR e E b xs))(hn:n=X xs):St we Se (ms.set i<|mB (rowT e n) E b xs) Γ w:=
 h.conv c O λS ⟨cs,d,a⟩=>⟨cs,d,cs.toList,[],Xn,a,by rw[hn];exact xa.len a⟩
end
section
variable{P:ww}{N:Nd}{we:xN}{Se:zV->Prop}{ms:zC MF}{Γ:zC FF}{Q:Qs}{env:xt}{ops:wL wT}{rest:zC wT}
 {d:z7 vn}{ty yt t t':wn}{pos:String}{aft:wL Edge}{g:z7 (zV×ws)}{x y:wr}
def zgt{e:wn}{ag:ws}{c bytes:K}{a:xn}{b o n cap l h:K}{lo hi:V xn}{w:xN}(f:P.underlying t=Z (.slice e))(i:UI P e ag c bytes a)
 (hl:lo=Z (.int .i64 (l:J))\/(lo=yD/\l=0)) (j:hi=Z (.int .i64 (h:J))\/(hi=yD/\h=n)) (hd:l<=h) (m:h<=cap) (p:l<cap\/l=0):
 (xcS t (.slice (Z ⟨b,o,yD⟩) n cap) lo hi yD).run P w=.ok (.slice (Z ⟨b,o+l*c,yD⟩) (h-l)<|cap-l) w:=by
 have b1:(0:J)<=(l:J)/\(l:J)<=(h:J):=W
 have b2:(0:J)<=(h:J)/\(h:J)<=(cap:J):=W
 have k:(xcS t (.slice (Z ⟨b,o,yD⟩) n cap) lo hi yD).run P w=.ok (.slice (if cap=l then Z ⟨b,o,yD⟩else(Z (⟨b,o,yD⟩:kG)).map (·.add (l*c))) (h-l)<|cap-l) w:=by
  unfold xcS;simp only[xau,wE f,xai];unfold xfC;simp only[xau,wE f,xai];unfold xed
  obtain rfl|⟨rfl,rfl⟩:=hl<;>obtain rfl|⟨rfl,rfl⟩:=j<;>
   simp only[xeo,jp,xau,xaO,xai,iq b1,iq b2,wM i,xaJ]
 rw[k];by_cases hc:cap=l
 ·simp_all
 ·simp[hc,jY]
def zff{c:wn}{ag:ws}{e bytes:K}{a:xn}{b o n cap h:K}{hi:wr}(f:ev env x=.slice (Z ⟨b,o,yD⟩) n cap)(i:P.underlying t=Z (.slice c))(j:UI P c ag e bytes a)
 (k:ev env hi=.int .i64 (h:J)) (l:h<=cap) (w:xN):(wD (ev env) ⟨d,.slice t x yD (Z hi) yD,ty,pos,aft,g⟩).run P w=.ok (.value (.slice (Z ⟨b,o,yD⟩) h cap)) w:=by
 have:=zgt (b:=b) (o:=o) (n:=n) (w:=w) i j (.inr ⟨O,O⟩) (.inl O) (sB _) l (.inr O);simp[wD,f,k,this]
theorem zoz{α:Type}{e:ye α}{a:wn}{bytes:K}{b:xn}(c:P.underlying t=Z (.slice a))(f:UI P a e.agg e.n bytes b):OG P ⟨d,.buildSlice t 0 #[],ty,pos,aft,g⟩ env we Se ms Γ (λv=>v) (λv=>(mO e a v []::ms)) (λ_=>Γ) (λ_=>vF):=by
 intro w hc;have h:(xep t 0 #[]).run P w=.ok (.slice (Z ⟨w.heap.size,0,yD⟩) 0 0) (w.alloc (.cells #[] a)):=by
  unfold xep;simp only[xau,wE c,xai,wM f,Zv];simp[xdu];grind
 refine Yq.of_value (w':=w.alloc (.cells #[] a)) (v:=.slice (Z ⟨w.heap.size,0,yD⟩) 0 0) ?_ ⟨_,O,xS,hc.fresh (dN.alloc w _) O Xn λS _ _=>⟨[],?_,O⟩⟩
 ·simp[wD,h]
 ·exact⟨Xn,.inr ⟨w.heap.size,0,#[],O,sB _,v6 w _,eZ _,sB _,Xn,Xn⟩⟩
def zoE{α:Type}{e:ye α}{b:wn}{bytes:K}{a:xn}(c:xl ops env ⟨d,.buildSlice t 0 #[],ty,pos,aft,g⟩=I)(hd:kP N.n d=I)
 (f:P.underlying t=Z (.slice b)) (h:UI P b e.agg e.n bytes a)
 (k:∀v,TL P N we Se (mO e b v []::ms) Γ ops rest Q<|put env d v):TL P N we Se ms Γ ops (⟨d,.buildSlice t 0 #[],ty,pos,aft,g⟩::rest) Q env:=
 zsS c hd (zoz f h) λv _=>k v
end
section
variable{P:ww}{env:xt}{d:z7 vn}{ty t:wn}{pos:String}{aft:wL Edge}{g:z7 (zV×ws)}{x y c:wr}{w:xN}{S:zV->Prop}{v:xn}
def zx9{f:Go.Fn}{xs:N wr}{vs:N xn}(h:xs.map (ev env)=vs)(w:xN):(wD (ev env) ⟨d,.makeFunc f #[] xs.toArray,ty,pos,aft,g⟩).run P w=.ok (.value (.func f #[] vs.toArray)) w:=
 sX (by simp[pv,h]) w
end
section
variable{P:ww}{N:Nd}{we:xN}{Se:zV->Prop}{ms:zC MF}{Γ:zC FF}{Q:Qs}{env:xt}{ops:wL wT}{rest:zC wT}
 {d:z7 vn}{ty yt t t':wn}{pos:String}{aft:wL Edge}{g:z7 (zV×ws)}{x y:wr}
def zaa(w:xN)(k p ty b:wn)(g o dLen dCap:K)(a:kG)(e f:K)(c:wL xn)(t:wn)(cs:zC xn){n m:K}
 (q:P.underlying k=Z (.slice b)) (l:(P.info? b).map (·.size)=Z n) (r:Nat.min e dLen=m)
 (s:w.heap[g]? =Z (.cells c t (0,0))) (hn:X cs=m*n)
 (u:∀j v,cs[j]? =Z v->w.cell? (a.add j)=Z v) (z:o+X cs<=c.size) (h1:∀v∈cs,v.oneCell'=I):
 (xfz #[k,p] ty #[.slice (Z ⟨g,o,yD⟩) dLen dCap,.slice (Z a) e f]).run P w=
  .ok (Z7 m) (w.setRow g (c.toList.take o++cs++c.toList.drop (o+X cs)).toArray):=by
 have hl:=uP (P:=P) w a cs u;have hc:=uV P g o t cs 0 c w s (by simpa using z) h1
 cases h:P.info? b with
 |none=>simp[h]at l
 |some i=>
  have hi:i.size=n:=by simpa[h]using l
  simp[xfz,wE q,xfy,xet,qo,qL,h,hi,r,<-hn,hl,hc]
def UX(w:xN)(f j ty b:wn)(d a:V kG)(dLen dCap c e:K)(k:P.underlying f=Z (.slice b)){n:K}(l:(P.info? b).map (·.size)=Z n)(hn:Nat.min c dLen=0):
 (xfz #[f,j] ty #[.slice d dLen dCap,.slice a c e]).run P w=.ok (Z7 0) w:=by
 cases h:P.info? b with
 |none=>simp[h]at l
 |some i=>
  have hl:=λx=>by simpa using uP (P:=P) w x [] Xn
  cases d<;>cases a<;>simp[xfz,wE k,xfy,xet,qo,qL,h,hn,storeCells,hl]
def zfr{α:Type}{e:ye α}{r E b l dLen dCap cap bytes:K}{s u:xn}{xs ys:zC α}(i:K)(T:P.underlying t=Z (.slice r))(hH:UI P r e.agg e.n bytes s)(A:ms[i]? =Z (mB (rowT e cap) E b xs))(hx:ev env x=.slice (Z ⟨b,0+l*e.n,yD⟩) dLen dCap)(hy:ev env y=u)
 (hl:l+dLen<=X xs) (U:∀(S:K->Prop) (w:xN),zK S Γ w->(fV (eS e) ys u).p S w):OG P ⟨d,.call ⟨.builtin .copy,#[x,y],#[t,t']⟩,ty,pos,aft,g⟩ env we Se ms Γ (λn:J=>(.int .i64 n)) (λn=>(ms.set i<|mB (rowT e cap) E b<|xs.take l++ys.take (min (X ys) dLen)++xs.drop (l+min (X ys) dLen))) (λ_=>Γ) (λ_=>vF):=by
 intro w B;have⟨S0,⟨c,hn,c0,h,hs,hw,hI⟩,hQ,hJ⟩:=B.muts A;have⟨ao,f,C,h1,h2,D⟩:=wc.1<|U S0 w hJ;have⟨ti,hi,i1,i2,i3⟩:=hH.info;have V:(P.info? r).map (·.size)=Z e.n:=by rw[hi];simp[i1]
 have Y:∀v w',(xfz #[t,t'] ty #[.slice (Z ⟨b,0+l*e.n,yD⟩) dLen dCap,u]).run P w=.ok v w'->
  (wD (ev env) ⟨d,.call ⟨.builtin .copy,#[x,y],#[t,t']⟩,ty,pos,aft,g⟩).run P w=.ok (.value v) w':=λv w' o=>by
  simp only[wD,vS,qR,ut,xdS,xch,xew,hx,hy,xau,o,xaO,xai]
 have⟨m,hd⟩:∃m,min (X ys) dLen=m:=⟨_,O⟩;have hB:Nat.min (X ys) dLen=m:=hd;have hR:m<=dLen:=by rw[<-hd];exact Nat.min_le_right _ _
 have z:m<=X ys:=by rw[<-hd];exact Nat.min_le_left _ _
 have e1:(l+m)*e.n=l*e.n+m*e.n:=xaT _ _ _;have F:l*e.n+m*e.n<=X xs*e.n:=by rw[<-e1];exact xaf _ W
 have e3:m*e.n<=X ys*e.n:=xaf _ z;have hT:X c0=X xs*e.n:=hw.len;rw[hd];by_cases h0:m=0
 ·have o:=UX (P:=P) w t t' ty r (Z ⟨b,0+l*e.n,yD⟩) ao dLen dCap (X ys) f T V<|hB.trans h0;rw[<-C]at o;refine Yq.of_value (Y _ _ o) ⟨_,O,xS,?_⟩;rw[h0];simp only[xbM,List.take_zero,xbN,xbw];have:ms.set i (mB (rowT e cap) E b xs)=ms:=by
   have⟨hU,hK⟩:=xav.1 A;rw[<-hK,xcW]
  rw[this];exact B
 ·obtain D|⟨sb,so,cs,rfl,hV,ha,G⟩:=D
  ·rw[D]at z;simp at z;lia
  ·have hL:X cs=X ys*e.n:=G.len;have hC:X (cs.take<|m*e.n)=m*e.n:=by rw[xap,hL];lia
   have e4:X c.toList=X c0+X h:=by rw[hs,xak]
   have hD:0+l*e.n+X (cs.take<|m*e.n)<=c.size:=by
    simp only[xeH]at e4;lia
   have o:=zaa (P:=P) w t t' ty r b (0+l*e.n) dLen dCap ⟨sb,so,yD⟩ (X ys) f c E (cs.take<|m*e.n) T V hB hn hC
    (λj v hv=>by rw[jY];exact(ha.take _).2 j v hv) hD (λv hv=>G.one v<|xec hv)
   rw[<-C]at o;refine Yq.of_value (Y _ _ o) ⟨_,O,xS,B.write A O O (UD w b _) ?_⟩;rintro S hS ⟨a0,hE,c1,q,hF,hc,hp⟩ h8;rw[hn]at hE;cases hE;have⟨a1,H,hG,_,_,L⟩:=wc.1<|U S w h8;rw[C]at hG;cases hG;obtain L|⟨a2,a3,a,hM,hW,hN,he⟩:=L
   ·rw[L]at z;simp at z;lia
   ·cases hM;have hO:a=cs:=by
     have hP:X a=X cs:=by rw[he.len,G.len]
     apply xcC;intro j;by_cases M:j<X cs
     ·have e1:=ha.2 j cs[j] (by simp[M]);have F:=hN.2 j a[j] (by simp[hP,M]);rw[e1]at F;rw[xaa M,xaa (by lia:j<X a),F]
     ·rw[xbB (l:=cs) W,xbB (l:=a) W]
    subst hO;have hX:X c1=X xs*e.n:=hc.len;have R:yO S w (w.setRow b (c.toList.take (0+l*e.n)++a.take (m*e.n)++c.toList.drop (0+l*e.n+X (a.take<|m*e.n))).toArray):=(UD w b _).weak λk _ hk=>hS k hk;refine⟨_,Z5 w b c _ E (0,0) hn,c1.take (l*e.n)++a.take (m*e.n)++c1.drop ((l+m)*e.n),q,?_,?_,?_⟩
    ·rw[hC,xaF,e1,hF,List.take_append_of_le_length W,List.drop_append_of_le_length W];simp[xal]
    ·exact(((hc.keep R).take l).append<|(he.keep R).take m).append<|(hc.keep R).drop<|l+m
    ·rw[<-hp];simp only[xak,xap,xca];lia
end
end
section
section
variable{P:ww}{env:xt}{ms:zC MF}{Γ:zC FF}{d:z7 vn}{ty t yt:wn}{pos:String}{aft:wL Edge}{g:z7 (zV×ws)}{x y:wr}
def zaF{t E:wn}{a:V kG}{n c:K}(b:P.underlying t=Z (.slice E))(w:xN):(Op.equal t (.slice a n c) (.slice yD 0 0)).run P w=.ok a.isNone w:=by
 show(Op.equalIn (9999+1) t (.slice a n c) (.slice yD 0 0)).run P w=_;unfold Op.equalIn;cases a<;>simp only[xau,wE b,xai,xaO,Option.isNone_some]
def zrE{α:Type}{e:ye α}{xs:N α}{v:xn}{E:wn}(f:P.underlying t=Z (.slice E))(h:ev env x=v)(i:ev env y=.slice yD 0 0)(j:∀(S:K->Prop) (w:xN),zK S Γ w->(fV (eS e) xs v).p S w):
 OpE P ⟨d,.binOp .eql t x y yt,ty,pos,aft,g⟩ env ms Γ (λu:ws=> .bool u) (λ_=>[]) (λu=>u=I->xs=[]):=by
 intro w S _ _ b;have⟨a,cap,hv,h1,c,l⟩:=wc.1<|j S w b;have k:(qZ .eql t x y (.slice a (X xs) cap) (.slice yD 0 0)).run P w=.ok () w:=by simp[qZ]
 have c:(qC .eql t (.slice a (X xs) cap) (.slice yD 0 0)).run P w=.ok (.bool a.isNone) w:=by simp only[qC,xau,zaF f,xai,xaO]
 refine Yq.of_value ?_ ⟨a.isNone,O,λhn=> ?_,yO.refl _ _,xS⟩
 ·simp only[wD,h,hv,i,xau,k,c,xai,xaO]
 ·simp_all
end
section
variable{P:ww}{env:xt}{d:z7 vn}{ty t:wn}{pos:String}{aft:wL Edge}{g:z7 (zV×ws)}{x y c:wr}{w:xN}{S:zV->Prop}{v:xn}{o:wT}
def zqr(hc:ev env c=.bool I)(h:ev env x=v)(w:xN):(wD (ev env) ⟨d,.pick c x y,ty,pos,aft,g⟩).run P w=.ok (.value v) w:=sX (by simp[pv,hc,h]) w
def zrK(hc:ev env c=.bool yL)(h:ev env y=v)(w:xN):(wD (ev env) ⟨d,.pick c x y,ty,pos,aft,g⟩).run P w=.ok (.value v) w:=sX (by simp[pv,hc,h]) w
end
def ke(x y:J):J:=if x<y then-1 else if y<x then 1 else 0
theorem qN{x y:J}(h:x<y):ke x y= -1:=by simp[ke,h]
theorem qu{x y:J}(h:y<x):ke x y=1:=by grind [ke]
theorem ua{x y:J}(h:x=y):ke x y=0:=by grind [ke]
end
section
section
variable{P:ww}{N:Nd}{we:xN}{Se:zV->Prop}{ms:zC MF}{Γ:zC FF}{Q:Qs}{env0:xt}{l:zC wT}
theorem Ca{env:xt}{d:V vn}{v:xn}{t:vn}(h:d≠Z t):put env d v t=env t:=by
 cases d with
 |none=>rfl
 |some dd=>
  have a:¬t=dd:=λe=>h (by rw[e]);have:xad t dd=yL:=XO a;simp[put,L,this]
theorem Px{env:xt}{v:xn}{t:vn}:put env (Z t) v t=v:=by simp[put,L]
end
end
section
section
variable{P:ww}{N:Nd}{we:xN}{Se:zV->Prop}{ms F:zC MF}{Γ:zC FF}{env:xt}{U:Type}{val:U->xn}{own:U->zC MF}{facts:U->zC FF}{ok:U->Prop}{fn:jP}
 {ops:wL wT}{rest:zC wT}{d:z7 vn}{t ty yt:wn}{pos:String}{aft:wL Edge}{g:z7 (zV×ws)}{x y:wr}
def zky{α:Type}{e:ye α}{b:wn}{xs ys:zC α}{v u:xn}{bytes:K}{a:xn}(i:K)
 (f:P.underlying t=Z (.slice b)) (j:UI P b e.agg e.n bytes a) (hc:a.cells.size=e.n) (hn:0<e.n)
 (k:ms[i]? =Z (mO e b v xs)) (l:ev env x=v) (m:ev env y=u) (o:∀(S:K->Prop) (w:xN),zK S Γ w->(fV (eS e) ys u).p S w)
 (hd:X xs+X ys<=9223372036854775807) (q:(X xs+X ys)*bytes<=140737488355328):
 OG P ⟨d,.call ⟨.builtin .append,#[x,y],#[t,t]⟩,ty,pos,aft,g⟩ env we Se ms Γ (λc=>c) (λc=>ms.set i<|mO e b c<|xs++ys) (λ_=>Γ) (λ_=>vF):=
 iE i f j hc hn k l m (λS w _ h=>SlQ.of<|o S w h) hd q
end
end
section
abbrev Um(x:J):Prop:= -9223372036854775808<=x/\x<=9223372036854775807
abbrev n9(x:K):Prop:=x<18446744073709551616
section
variable{α β:Type}
def ck(p:Prop)[vU p](k:V α):V α:=if p then k else yD
def zf(e:J)(k:J->V α):V α:=if Um e then k e else yD
def zH(i:J)(n:K)(k:K->V α):V α:=if 0<=i/\i<(n:J)then k i.toNat else yD
def uC(i:J)(k:K->V α):V α:=if 0<=i then k i.toNat else yD
def ng(a:J):J:=if a= -9223372036854775808 then a else 0-a
def nm(e:β)(k:β->V α):V α:=k e
def bd(x:V β)(k:β->V α):V α:=match x with
 |some v=>k v
 |none=>yD
def zg(f:(β->V α)->β->V α):K->β->V α
 |0,_=>yD
 |k+1,s=>f (zg f k) s
theorem YK{p:Prop}[vU p]{k:V α}{r:α}(h:ck p k=Z r):p/\k=Z r:=by grind [ck]
theorem fi{e:J}{k:J->V α}{r:α}(h:zf e k=Z r):∃x,x=e/\Um x/\k x=Z r:=by grind [zf]
theorem zsO{i:J}{n:K}{k:K->V α}{r:α}(h:zH i n k=Z r):∃j:K,i=(j:J)/\j<n/\k j=Z r:=by grind [zH]
theorem zks{i:J}{k:K->V α}{r:α}(h:uC i k=Z r):∃j:K,i=(j:J)/\k j=Z r:=by grind [uC]
def x9{e:β}{k:β->V α}{r:α}(h:nm e k=Z r):∃x,x=e/\k x=Z r:=⟨e,O,h⟩
def Gx{x:V β}{k:β->V α}{r:α}(h:bd x k=Z r):∃v,x=Z v/\k v=Z r:=by
 cases x with
 |none=>cases h
 |some v=>exact⟨v,O,h⟩
def zt4{c:Prop}[vU c]{x y:V α}{r:α}(hc:c)(h:(if c then x else y)=Z r):x=Z r:=by rwa[iq hc]at h
def zty{c:Prop}[vU c]{x y:V α}{r:α}(hc:¬c)(h:(if c then x else y)=Z r):y=Z r:=by rwa[ir hc]at h
def zkr{f:(β->V α)->β->V α}{s:β}{r:α}(h:zg f 0 s=Z r):jN:=by cases h
def zkb{f:(β->V α)->β->V α}{k:K}{s:β}{r:α}(h:zg f (k+1) s=Z r):f (zg f k) s=Z r:=h
end
section
variable{α β:Type}
theorem xi{p:Prop}[vU p]{k:V α}(h:p):ck p k=k:=iq h
def yM{p:Prop}[vU p]{k:V α}(h:p:=by lia):ck p k=k:=Zc h
theorem fT{e:J}{k:J->V α}(h:Um e):zf e k=k e:=iq h
def zb{e:J}{k:J->V α}(h1: -9223372036854775808<=e:=by lia)(a:e<=9223372036854775807:=by lia):zf e k=k e:=Zc ⟨h1,a⟩
def N3{i:J}{n:K}{k:K->V α}(h:0<=i/\i<(n:J)):zH i n k=k i.toNat:=iq h
theorem zo{i n:K}{k:K->V α}(h:i<n):zH (i:J) n k=k i:=by rw[N3 ⟨W,W⟩];rfl
def yc{i n:K}{k:K->V α}(h:i<n:=by lia):zH (i:J) n k=k i:=zo h
theorem yU{i:K}{k:K->V α}:uC (i:J) k=k i:=by skip;rfl
theorem ze{e:β}{k:β->V α}:nm e k=k e:=O
theorem Gv{x:J}(h: -9223372036854775808<x){k:J->V α}:nm (ng x) k=k (0-x):=by unfold ng;rw[zA];rfl
theorem za{x:V β}{v:β}{k:β->V α}(h:x=Z v):bd x k=k v:=by rw[h];rfl
def w6{f:(β->V α)->β->V α}{k:K}{s:β}:zg f (k+1) s=f (zg f k) s:=O
end
def zgi{n:K}(h:n<=9223372036854775807):Um (n:J):=⟨W,W⟩
def zv4(x:K):n9 (x%18446744073709551616):=xaI _ YL
def ztA{x e:K}(h:x=e)(a:n9 e):n9 x:=h▸a
def zpw{x e:J}(h:x=e)(a:Um e):Um x:=h▸a
def JU{x e:K}(h:x=e%18446744073709551616):n9 x:=h▸zv4 e
def zuP{a b x:J}(c:Um a)(h:x=a.tmod b):Um x:=by
 have h1:=Int.natAbs_tmod a b;have d:=Nat.mod_le a.natAbs b.natAbs;obtain h0|h0:=Int.le_total 0 a
 ·lia
 ·have:a.tmod b<=0:=by
   have:=Int.tmod_nonneg b (a:= -a) W;simp_all
  lia
def ztn{a b x:K}(c:n9 a)(h:x=a%b):n9 x:=by
 have:=Nat.mod_le a b;lia
def Pj{a b x:K}(c:n9 a)(h:x=a/b):n9 x:=by
 have:=xcd a b;lia
def zvJ{a b:J}(c:Um a)(d:Um b):Um (max a b):=by unfold Um at*;lia
def zxx{a b:J}(c:Um a)(d:Um b):Um (min a b):=by unfold Um at*;lia
def zwJ{α:Type}{l:N α}{k:K}{y z:α}(h:k<X l)(a:y=l.getD k z):l[k]? =Z y:=by rw[a];exact getD_some z h
def sgn(x:K):J:=if x<9223372036854775808 then(x:J)else(x:J)-18446744073709551616
def NY(x:J):K:=(x%18446744073709551616).toNat
def zn7{x:K}(h:n9 x):Um (sgn x):=by unfold sgn n9 at*;split<;>constructor<;>lia
def P3(x:J):n9 (NY x):=by unfold NY n9;lia
def Ry{x:K}(h:n9 x):xcO.wrap (x:J)=sgn x:=by
 unfold sgn;split
 ·exact w64 ⟨W,W⟩
 ·rename_i b;have a:xcO.wrap x=xcO.wrap (x-18446744073709551616):=by simp[IntKind.wrap,IntKind.bits]
  rw[a];exact w64 ⟨W,W⟩
def znN(x:J):xcw.wrap x=((NY x:K):J):=by rw[O8];unfold NY;lia
def w_x{x c:J}(h:c=x)(a:Um c):xcO.wrap x=c:=by subst h;exact w64 a
def BW{k:vu}{x:J}{c n:K}(h:c=n)(a:k.wrap x=(n:J)):k.wrap x=(c:J):=by rw[a,h]
inductive Tg
 |n
 |x (i:K)
 |r
def tgB:Tg->ZV->ws
 |.n,.normal=>I
 |.x i,.exit j=>xad i j
 |.r,.ret=>I
 |_,_=>yL
def tgE:Tg->ZV
 |.n=> .normal
 |.x i=> .exit i
 |.r=> .ret
def zuq{t:Tg}{e:ZV}(h:tgB t e=I):e=tgE t:=by
 cases t<;>cases e<;>first|rfl|cases h|skip
 rename_i i j;rw[xdn (show xad i j=I from h)];rfl
def XQ:N (Tg×(xt->xN->Prop))->Qs
 |[],_,_,_=>jN
 |(t,J)::r,e,env,w=>bif tgB t e then J env w else XQ r e env w
def XK(Q:Qs):N (Tg×(xt->xN->Prop))->Prop
 |[]=>vF
 |(t,J)::r=>(∀env w,J env w->Q (tgE t) env w)/\XK Q r
def zso{Q:Qs}:∀{l:N (Tg×(xt->xN->Prop))},XK Q l->∀e env w,XQ l e env w->Q e env w
 |[],_,_,_,_,h=>h.elim
 |(t,J)::r,k,e,env,w,h=>by
  unfold XQ at h;cases a:tgB t e
  ·rw[a]at h;exact zso k.2 e env w h
  ·rw[a]at h;rw[zuq a];exact k.1 env w h
inductive JQ(we:xN)(Se:K->Prop){G:Type}(inv:G->Inv)(ok:G->Prop)(env:xt)(w:xN):Prop
 |mk (g:G) (h1:ok g) (h2:gb env (inv g).live) (h3:St we Se (inv g).ms (inv g).Γ w):JQ we Se inv ok env w
section
variable{P:ww}{N:Nd}{we:xN}{Se:zV->Prop}{ms:zC MF}{Γ:zC FF}{Q:Qs}{env:xt}
def T_X(l:zC (Tg×(xt->xN->Prop))){c:vP}(h:T P N we Se ms Γ c (XQ l) env)(k:XK Q l):T P N we Se ms Γ c Q env:=
 λw b a h1 d f=>qO (h w b a h1 d f) λe i w' ⟨q1,q2,g⟩=>⟨q1,q2,zso k e _ _ g⟩
def zkm{G:Type}{a:G->Inv}{ok:G->Prop}(g:G)(h1:ok g)(b:gb env (a g).live)(c:∀w,St we Se ms Γ w->St we Se (a g).ms (a g).Γ w):
 ∀w,St we Se ms Γ w->JQ we Se a ok env w:=λw d=>⟨g,h1,b,c w d⟩
def zwX{G:Type}{a:G->Inv}{ok:G->Prop}{R:xt->xN->Prop}(k:∀g,ok g->∀rest w,St we Se (a g).ms (a g).Γ w->R (L (a g).live rest) w):
 ∀env w,JQ we Se a ok env w->R env w:=λenv w ⟨g,h1,b,c⟩=>by
 have:=k g h1 env w c;rwa[lF b]at this
end
end
section
section
variable{P:ww}{N:Nd}{we:xN}{Se:zV->Prop}{ms F:zC MF}{Γ:zC FF}{Q:Qs}{env:xt}{ops:wL wT}{rest:zC wT}{o:wT}
 {d:z7 vn}{ty yt t ti t':wn}{pos:String}{aft:wL Edge}{g:z7 (zV×ws)}{x y:wr}
def v_i{k:vu}{c z:J}(h:∀w,(wD (ev env) o).run P w=.ok (.value (.int k c)) w)(a:z=c):∀w,(wD (ev env) o).run P w=.ok (.value (.int k z)) w:=by
 simp_all
def zmf{c z:ws}(h:∀w,(wD (ev env) o).run P w=.ok (.value (.bool c)) w)(a:z=c):∀w,(wD (ev env) o).run P w=.ok (.value (.bool z)) w:=by
 simp_all
theorem E7{a:K}{b:J}:(a:J).fdiv (2^(min b.toNat xcw.bits))=((a/2^(min b.toNat 64):K):J):=by
 have:xcw.bits=64:=O;grind
def zi2{a:K}{b:J}:xcw.wrap ((a:J)*2^(min b.toNat xcw.bits))=((a*2^(min b.toNat 64)%18446744073709551616:K):J):=by
 rfl
def znD{a x:J}{k:K}(b:Um a)(h:x=a.fdiv (2^k)):Um x:=by
 have hp:(0:J)<2^k:=Int.pow_pos YL;rw[Int.fdiv_eq_ediv_of_nonneg _ W]at h;have c:=xbX a<|2^k;rcases(W:a<0\/0<=a)with h0|h0
 ·have:=Int.ediv_neg_of_neg_of_pos h0 hp;lia
 ·lia
def ziI(a b:J):J:=sgn<|NY a &&& NY b
def orI(a b:J):J:=sgn (NY a|||NY b)
theorem FH{a b:K}(c:n9 a):n9 (a &&& b):=xaG Nat.and_le_left c
theorem NH{a b:K}(c:n9 a)(e:n9 b):n9 (a|||b):=Nat.or_lt_two_pow (n:=64) c e
theorem znf{a:K}(b:n9 a):((a:J)%2^xcw.bits).toNat=a:=by
 have:2^xcw.bits=18446744073709551616:=O;grind
theorem zqm{a b:K}(c:n9 a)(e:n9 b):xcw.wrap (((((a:J)%2^xcw.bits).toNat &&& ((b:J)%2^xcw.bits).toNat:K)):J)=((a &&& b:K):J):=by grind [znf,DW,FH]
theorem zu1{a b:K}(c:n9 a)(e:n9 b):xcw.wrap (((((a:J)%2^xcw.bits).toNat|||((b:J)%2^xcw.bits).toNat:K)):J)=((a|||b:K):J):=by grind [znf,DW,NH]
def zqD{a b:J}:xcO.wrap (((a%2^xcO.bits).toNat &&& (b%2^xcO.bits).toNat:K):J)=ziI a b:=Ry<|FH<|P3 a
def ztk{a b:J}:xcO.wrap (((a%2^xcO.bits).toNat|||(b%2^xcO.bits).toNat:K):J)=orI a b:=Ry<|NH (P3 a)<|P3 b
def ztt(a b:J):Um (ziI a b):=zn7<|FH<|P3 a
def zxz(a b:J):Um (orI a b):=zn7<|NH (P3 a)<|P3 b
def zxp{b:K}(h:b≠0):(b:J)≠0:=W
def zol{B n:K}(a:0<B)(h:B*n<=281474976710656):n<=9223372036854775807:=by
 have:=xdj n a;lia
def zeR{α:Type}{e:ye α}{c:wn}{z:α}{xs:zC α}{n bytes:K}{a:xn}{f:wr}{i j:vu}(k:P.underlying t=Z (.slice c))(l:UI P c e.agg e.n bytes a)(m:ev env x=.int i (n:J))(q:ev env f=.int j (n:J))(r:0<bytes)(h:bytes*n<=281474976710656)
 (s:∀(S:K->Prop) (w:xN),e.p S z a.cells.toList w) (hc:xs=sR n z):OG P ⟨d,.makeSlice t x f,ty,pos,aft,g⟩ env we Se ms Γ (λb=>(.slice (Z ⟨b,0,yD⟩) n n)) (λb=>(mB (rowT e n) c b xs::ms)) (λ_=>Γ) (λ_=>vF):=by
 subst hc;intro w hd;refine(zke k l m q h (zol r h) s w hd).mono ?_;rintro v w' ⟨b,h1,u,A⟩;exact⟨b,h1,u,A.rowRT 0 O Xn⟩
end
end
section
def zuW{α:Type}{a x:α}(h:Z a=Z x):a=x:=xdc h
def zlH{x:J}{c n:K}(h:c=n)(a:x=(n:J)):x=(c:J):=by rw[a,h]
def zrk{x y z q:K}(a:n9 x)(b:n9 y)(c:z<=1)(h:q=(x+y+z)/18446744073709551616):n9 q:=by unfold n9 at*;lia
def zrj{x y z q:K}(_:n9 x)(_:n9 y)(_:z<=1)(h:q=if x<y+z then 1 else 0):n9 q:=by unfold n9;split at h<;>lia
def v_2{P:ww}{env:xt}{o:wT}{k c:vu}{a b x y:K}(h:∀w,(wD (ev env) o).run P w=.ok (.value (.tuple #[.int k (a:J),.int c (b:J)])) w)(d:x=a)(e:y=b):
 ∀w,(wD (ev env) o).run P w=.ok (.value (.tuple #[.int k (x:J),.int c (y:J)])) w:=by subst d;subst e;exact h
def JG(we:xN)(Se:K->Prop)(i:Inv)(R:xt->xN->Prop)(rest:xt):Prop:=∀w,St we Se i.ms i.Γ w->R (L i.live rest) w
def zog{we:xN}{Se:K->Prop}{G:Type}{a:G->Inv}{ok:G->Prop}{R:xt->xN->Prop}(k:∀g,ok g->∀rest,JG we Se (a g) R rest):
 ∀env w,JQ we Se a ok env w->R env w:=zwX k
def zsz{we:xN}{Se:K->Prop}{i:Inv}{R:xt->xN->Prop}{rest:xt}{b:N MF}{c:N FF}{a:N (K×xn)}(h:i=⟨b,c,a⟩)(k:∀w,St we Se b c w->R (L a rest) w):JG we Se i R rest:=by
 subst h;exact k
def zhy{F:Fence}{n:K}{P:ww}{a:kg}{w:xN}{Q:ZV->kg->xN->Prop}{c:vP}(h:c.wpIn F n P (Exit.noGoto Q) a w):(Code.scope c).wpIn F n P Q a w:=by
 intro b k cs hc o p;have g:∀{cs:N Frame}{k:N Item},step P (lone (b.atR a (.code (.scope c)::k)) cs w)=.next (lone (b.atR a (.code c::.inScope c::k)) cs w):=step_lone_go (by simp[stepG,stepG.exec,Frame.atR]);have r:∀{a:kg}{w:xN}{cs:N Frame}{k:N Item},step P (lone (b.atR a (.inScope c::k)) cs w)=.next (lone (b.atR a k) cs w):=step_lone_go (by simp[stepG,stepG.exec,Frame.atR]);have h0:(lone (b.atR a (.code (.scope c)::k)) cs w).fenced P F:=ZC o p O;have⟨e,d,f,i,j⟩:=h b (.inScope c::k) cs hc o p
 cases e with
 |normal=>exact⟨.normal,d,f,i,.head h0 g<|StepsIn.trans j (.one (ZC o p O) r)⟩
 |exit id=>exact⟨.exit id,d,f,i,λs q=> .head h0 g (j.1 s<|by simp[exitTo,q]),λhd q=>let⟨m,h1,t⟩:=j.2 hd (by simp[exitTo,q]);⟨m,h1,.head h0 g t⟩⟩
 |goto l=>exact i.elim
 |ret=>exact⟨_,d,f,i,.of_steps (.one h0 g) j⟩
 |panic u=>exact⟨_,d,f,i,.of_steps (.one h0 g) j⟩
 |outgrown=>exact⟨_,d,f,i,.of_steps (.one h0 g) j⟩
section
variable{P:ww}{N:Nd}{we:xN}{Se:zV->Prop}{ms:zC MF}{Γ:zC FF}{Q:Qs}{env:xt}{ops:wL wT}{d:z7 vn}{ty t:wn}{pos:String}{aft:wL Edge}{g:z7 (zV×ws)}
def plB(P:ww)(t:wn):V (wL<|K×K):=match P.underlying t with
 |some (.struct fs)=>(fs.toList.mapM λf=>(P.info? f.type).map λi=>(f.offset,i.size)).map (·.toArray)
 |_=>yD
def ze8(w:xN):∀(l:zC Field) (r:zC (K×K)),(l.mapM λf=>(P.info? f.type).map λi=>(f.offset,i.size))=Z r->(l.mapM (λf=>do pure (f.offset,<-qo f.type)):Sem (zC<|K×K)).run P w=.ok r w
 |[],r,h=>by simp at h;subst h;simp
 |f::l,r,h=>by
  rw[List.mapM_cons]at h
  cases hi:P.info? f.type with
  |none=>rw[hi]at h;simp at h
  |some i=>
   cases hl:(l.mapM λf=>(P.info? f.type).map λi=>(f.offset,i.size))with
   |none=>rw[hl]at h;simp at h
   |some q=>
    have a:=ze8 w l q hl;have b:(qo f.type).run P w=.ok i.size w:=by simp[qo,qL,hi]
    simp_all
def zqh{pl:wL (K×K)}(h:plB P t=Z pl):∃fs,P.underlying t=Z (.struct fs)/\∀w,(fs.mapM (λf=>do pure (f.offset,<-qo f.type)):Sem (wL<|K×K)).run P w=.ok pl w:=by
 unfold plB at h;split at h
 ·next fs a=>
  refine⟨fs,a,λw=> ?_⟩
  cases hl:(fs.toList.mapM λf=>(P.info? f.type).map λi=>(f.offset,i.size))with
  |none=>rw[hl]at h;cases h
  |some q=>
   have:=ze8 w fs.toList q hl;rw[Array.mapM_eq_mapM_toList];simp_all
 ·cases h
def wu8(n:K):xfK.wrap (n:J)=((n%256:K):J):=by
 rfl
def zd8{x e:K}(h:x=e%256):x<256:=h▸xaI _ YL
def b_r{x:K}(h:x<256):Um (x:J):=⟨W,W⟩
def zoK{x y:wr}{s:vI}{k:vu}{j z:K}(a:P.underlying t=Z .string)(b:ev env x=.string s)(c:s=Lib.len8tab)(e:ev env y=.int k (j:J))(i:j<256)(f:z=xeM j)(w:xN):
 (wD (ev env) ⟨d,.index t x y,ty,pos,aft,g⟩).run P w=.ok (.value (.int .u8 (z:J))) w:=by
 subst c;subst f;have h:=Lib.run_index_len8tab w t k j a W W;rw[Lib.len8_of _ W W]at h;simp[wD,b,e,h]
theorem zbh{j z:K}(a:j<256)(b:z=xeM j):z<256:=by
 have:=Lib.bitLen_le8' j W W;grind
theorem zlB{a:K->V (K×K)}{i off:K}{v:xn}{b c e:zC xn}{r:zC (K×xn)}(hp:a i=Z (off,v.cells.size))(f:X b=off)(hc:X c=v.cells.size):
 xdu a (b++c++e).toArray ((i,v)::r)=xdu a (b++v.cells.toList++e).toArray r:=by
 subst f;have h:v.cells.zipIdx.foldl (λcs (x:xn×K)=>cs.setIfInBounds (X b+x.2) x.1) (b++c++e).toArray=(b++v.cells.toList++e).toArray:=by
  apply Array.ext';rw[<-Array.foldl_toList,Array.toList_zipIdx,FY (X b) v.cells.toList 0 _<|by simp;lia];simp_all
 conv=>lhs;unfold xdu
 grind
def zbV{α:Type}{e:ye α}{z0 z:α}{bytes:K}{a:xn}{parts:zC (K×wr)}{vs:zC (K×xn)}{pl:wL (K×K)}(c:UI P t I e.n bytes a)(hc:e.agg=I)
 (h:∀(S:K->Prop) (w:xN),e.p S z0 a.cells.toList w) (hd:∃fs,P.underlying t=Z (.struct fs)/\∀w,(fs.mapM (λf=>do pure (f.offset,<-qo f.type)):Sem (wL<|K×K)).run P w=.ok pl w)
 (hv:parts.map (λx=>(x.1,ev env x.2))=vs) (q:zC xn->Prop) (i:∀(S:K->Prop) (w:xN),zK S Γ w->∀cs,cs=a.cells.toList->e.p S z0 cs w->∃out,xdu (pl[·]?) cs.toArray vs=Z out.toArray/\e.p S z out w/\q out):
 OpE P ⟨d,.build t parts.toArray,ty,pos,aft,g⟩ env ms Γ (λv:xn=>v) (λv=>[fV e z v]) (λv=>q v.cells.toList):=by
 intro w S _ _ b;have⟨out,h1,j,k⟩:=i S w b _ O<|h S w;refine Yq.of_value (w':=w) (v:=.agg out.toArray) ?_ ⟨_,O,by simpa[xfA]using k,yO.refl _ _,⟨⟨out,by simp[ye.val,hc],j⟩,xS⟩⟩;have⟨fs,l,m⟩:=hd;have o:parts.toArray.map (λx=>(x.1,ev env x.2))=vs.toArray:=by rw[<-hv];simp
 simp only[wD,xau];have r:(Instr.build t<|parts.toArray.map λx=>(x.1,ev env x.2)).run P w=.ok (.agg out.toArray) w:=by
  rw[o];unfold Instr.build;simp only[xau,Zu c,xai,wE l,m,h1,xaO]
 rw[r];rfl
end
end
section
def ins(D:K->ws)(i:K):K->ws:=λk=>D k||xad k i
def DH(D:K->ws)(i:K):ins D i i=I:=by simp[ins]
def zhH{D:K->ws}{i k:K}(h:k≠i):ins D i k=D k:=by simp[ins,XO h]
def zrh{D:K->ws}{i k:K}(h:D k=I):ins D i k=I:=by simp[ins,h]
section
variable{P:ww}{N:Nd}{we:xN}{Se:zV->Prop}{ms:zC MF}{Γ:zC FF}{Q:Qs}{env0:xt}{l:zC wT}{m:zV}
def zwf{id:K}(m:K)(b:(K->ws)->xt->xN->Prop)(hm:P.follows .mixedOrders=I)(hc:Q4 l m=I)(hd:(l.all λo=>kP N.n o.dst)=I)
 (hN:∀w,St we Se ms Γ w->b (λ_=>yL) env0 w)
 (step:∀(D:K->ws) (i:K) (env:xt) (w:xN),i<m->D i=yL->(∀j,D j=I->j<m)->(∀e∈(yn l i).after,xct .any e=I->D e.on=I)->
  (∀j,D j=I->∀e∈(yn l j).after,xct .any e=I->D e.on=I)->b D env w->
  (xl l.toArray env (yn l i)=I->Yq P (yn l i) env w (λv w'=>b (ins D i) (put env (yn l i).dst v) w'))/\
  (xl l.toArray env (yn l i)=yL->b (ins D i) (put env (yn l i).dst wR) w))
 (z:∀(D:K->ws) (env:xt) (w:xN),(∀j,j<m->D j=I)->(∀j,D j=I->j<m)->b D env w->WpL P N l.toArray (l.drop m) Q env w):
 T P N we Se ms Γ (.region id l.toArray I) Q env0:=by
 intro w0 hO a0 hP hQ hR;have⟨h0,h1,h2,h3,hS⟩:=X7 hc;refine wpIn_region_any hm ?_;have p:∀{c:wL ws}{i:K},i<c.size->c.getD i I=c.getD i yL:=λ{c i} h=>by simp[xbh,xcQ h]
 have A:∀{c:wL ws}{i:K},c.getD i yL=I->i<c.size:=λ{c i} h=>by
  obtain hp|hge:=xbO i c.size
  ·exact hp
  ·simp[xbh,Array.getElem?_eq_none hge]at h
 have G:∀(d:K) (c:wL ws) (a:kg) (w:xN),(xaE (X l)).countP (λk=> !c.getD k I)<=d->c.size=X l->a.tmps.size=N.n->a.defers=N.ds->
  (∀i,m<=i->i<X l->c.getD i I=yL)->
  (∀i,i<X l->c.getD i yL=I->∀e∈(yn l i).after,xct .any e=I->c.getD e.on yL=I)->
  b (λi=>c.getD i yL) (xf a) w->uT N.F 0 P .any l.toArray (zlu N Q) d c a w:=by
  intro d
  induction d with
  |zero=>
   intro c a w S B b1 b2 r hl C;have s:∀k,k<X l->c.getD k I=I:=λk f=>by
    have U:(xaE (X l)).countP (λk=> !c.getD k I)=0:=W
    rw[List.countP_eq_zero]at U;have:=U k<|xaZ.2 f;simpa using this
   have hY:m=X l:=by
    rcases xbO m (X l) with hp|hge
    ·have E:=r m (eZ _) hp;rw[s m hp]at E;cases E
    ·lia
   refine tH hc 0 m c a w (eZ _) h0 W B (λk f=>by rw[s k f];simp;lia) ?_;exact z _ _ w (λj g=>by rw[<-p W];exact s j W) (λj g=>by have:=A g;lia) C a b1 b2 O
  |succ d ih=>
   intro c a w S B b1 b2 r hl C;by_cases s:∀k,k<m->c.getD k I=I
   ·have V:∀k,k<X l->c.getD k I=decide (k<m):=λk f=>by
     by_cases H:k<m
     ·rw[s k H];simp[H]
     ·rw[r k W f];simp[H]
    refine tH hc (d+1) m c a w (eZ _) h0 (PX ?_ S) B V ?_
    ·rw[show(xaE (X l)).countP (λk=> !c.getD k I)=(xaE (X l)).countP (λk=> !decide (k<m))from List.countP_congr λk f=>by rw[V k<|xaZ.1 f]];exact zmA.count_ge m [] m (X l)
    ·refine z _ _ w (λj g=>by rw[<-p W];exact s j g) (λj g=> ?_) C a b1 b2 O;obtain h|h:=xbO j m
     ·exact h
     ·have J:=A g;rw[<-p J,r j h W]at g;cases g
   ·have Y:∃k,k<m/\c.getD k I=yL:=by
     by_cases hh:∃k,k<m/\c.getD k I=yL
     ·exact hh
     ·exact wl (λk f=>by
       cases q:c.getD k I
       ·exact wl ⟨k,f,q⟩ hh
       ·rfl) s
    refine⟨λhr=> ?_,λi hi=> ?_⟩
    ·exfalso;have⟨k,f,L,hH⟩:=zmA.first_un m [] Y;have:k∈xdU .any l.toArray c:=mem_ready.2 ⟨L,yn l k,XA W,λe x q=>by
      have E:=h1 k W e x q;have t:=hH e.on E;rwa[p (by lia:e.on<c.size)]at t⟩
     rw[hr]at this;cases this
    ·have⟨hu,o,M,hn⟩:=mem_ready.1 hi;have u:i<X l:=by simpa using(xbd.1 M).1
     rw[XA u]at M;cases M;have hT:i<m:=by
      obtain h|h:=xbO i m
      ·exact h
      ·exfalso;by_cases hJ:m=i
       ·subst hJ;have⟨k,f,L⟩:=Y;have t:=lJ hl h1 16 m k u hn<|hS u k f;rw[<-p (by lia:k<c.size),L]at t;cases t
       ·have⟨e,x,q,hU⟩:=ZN<|h3 i W u;have t:=hn e x q;rw[hU,<-p (by lia:i-1<c.size),r (i-1) W W]at t;cases t
     have R:i<c.size:=W
     have hV:kP N.n (yn l i).dst=I:=by
      rw[xaS]at hd;refine hd _ ?_;have:yn l i=l[i]:=by simp[yn,u]
      rw[this];exact xbx _
     have hA:∀j,(λi=>c.getD i yL) j=I->j<m:=λj g=>by
      obtain h|h:=xbO j m
      ·exact h
      ·have J:=A g;have hK:c.getD j yL=I:=g;rw[<-p J,r j h W]at hK;cases hK
     have hs:=step (λi=>c.getD i yL) i (xf a) w hT (by rw[<-p R];exact hu) hA hn (λj g=>hl j (by have:=hA j g;lia) g) C;have hL:(λk=>(c.setIfInBounds i I).getD k yL)=ins (λi=>c.getD i yL) i:=by
      funext k;by_cases y:i=k
      ·subst y;rw[DH];simp[R]
      ·rw[qv yL y,zhH<|λe=>y e.symm]
     have next:∀v w',b (ins (λi=>c.getD i yL) i) (put (xf a) (yn l i).dst v) w'->uT N.F 0 P .any l.toArray (zlu N Q) d (c.setIfInBounds i I) (a.put (yn l i).dst v) w':=by
      intro v w' hv;refine ih _ _ w' ?_ (by simpa using B) (by rw[gG];exact b1) (by rw[Qu];exact b2) (λk hW f=> ?_) (λk f hM e x q=> ?_) ?_
      ·have:=(HG R hu<|xaE (X l)).2<|xaZ.2 u;lia
      ·rw[qv I W];exact r k hW f
      ·by_cases y:i=k
       ·subst y;exact ul<|hn e x q
       ·rw[qv yL y]at hM;exact ul<|hl k f hM e x q
      ·rw[Qj (by rw[b1];exact gU hV),hL];exact hv
     unfold wpOpIn;rw[XA u];simp only[UK];cases hB:xl l.toArray (xf a) (yn l i)
     ·simp only[xaj,wP];exact⟨λ_ _=>xS,next undef w (hs.2 hB)⟩
     ·simp only[wN];exact(hs.1 hB).wp λv w' hX=>next v w' hX
 refine G l.toArray.size _ a0 _ ?_ Xn hP hQ (λi hJ hi=>by simp[hi]) (λi hi hp=> ?_) ?_
 ·exact PX (List.countP_le_length) Xn
 ·have:=A hp;rw[<-p this]at hp;simp[hi]at hp
 ·have hf:(λi=>(xev l.toArray.size yL).getD i yL)=λ_=>yL:=by
   funext i;simp only[xbh,Array.getElem?_replicate];split<;>rfl
  rw[hf,hR];exact hN _<|hO.ext<|dN.drawn w0 _
end
end
section
def Y9{S:K->Prop}{w:xN}:∀{ms:N MF},xd S ms w↔∀m∈ms,m.p S w
 |[]=>⟨λ_ m h=>wl h QT,λ_=>xS⟩
 |m::r=>by
  have a:=Y9 (S:=S) (w:=w) (ms:=r);constructor
  ·intro h x hx;obtain rfl|hx:=PQ.1 hx
   ·exact h.1
   ·exact a.1 h.2 x hx
  ·intro h;exact⟨h m<|Qh,a.2 λx hx=>h x<|kE _ hx⟩
def Rk:∀{ms:N MF},KJ ms↔ms.Pairwise (λm m'=>∀k,m.blk k->¬m'.blk k)
 |[]=>⟨λ_=>xfc,λ_=>xS⟩
 |m::r=>by
  rw[xbR];have c:=Rk (ms:=r);exact⟨λh=>⟨λm' a k b=>h.1 k b m' a,c.1 h.2⟩,λh=>⟨λk b m' a=>h.1 m' a k b,c.2 h.2⟩⟩
def St.perm{we:xN}{Se:K->Prop}{ms a:N MF}{Γ:N FF}{w:xN}(h:St we Se ms Γ w)(hp:ms.Perm a):St we Se a Γ w:=by
 have⟨h1,c,d,S,e,f,g,i,j⟩:=h;refine⟨h1,c,Rk.2<|(hp.pairwise_iff λ{x y} l k n hc=>l k hc n).1<|Rk.1 d,S,e,f,λm b=>g m<|hp.mem_iff.2 b,Y9.2 λm b=>Y9.1 i m<|hp.mem_iff.2 b,j⟩
def zlW:xn->V K
 |.pointer (Z ⟨b,_,_⟩)=>Z b
 |_=>yD
def mP{α:Type}(e:FZ α)(E:wn)(v:xn)(z:α):MF where
 blk k:=zlW v=Z k
 p S w:=∃b,v=.pointer (Z ⟨b,0,yD⟩)/\(mB e E b z).p S w
 keep:=λ⟨b,h1,a⟩ k d=>⟨b,h1,(mB e E b z).keep a k λi hi=>d i<|by rw[h1];exact hi⟩
 sub:=λ⟨b,h1,a⟩ k=>⟨b,h1,(mB e E b z).sub a k⟩
 lt:=λ⟨b,h1,a⟩ k c=>(mB e E b z).lt a k<|by rw[h1]at c;exact c
def St.openP{α:Type}{e:FZ α}{E:wn}{v:xn}{z:α}{we:xN}{Se:K->Prop}{ms:N MF}{Γ:N FF}{w:xN}(i:K)(h:St we Se ms Γ w)(a:ms[i]? =Z (mP e E v z)):
 ∃b,v=.pointer (Z ⟨b,0,yD⟩)/\St we Se (ms.set i<|mB e E b z) Γ w:=by
 have⟨S,hp,_⟩:=h.muts a;have⟨b,hv,_⟩:=hp;subst hv;exact⟨b,O,h.conv a O λS ⟨d,h1,c⟩=>by cases h1;exact c⟩
def St.toP{α:Type}{e:FZ α}{E:wn}{b:K}{z:α}{we:xN}{Se:K->Prop}{ms:N MF}{Γ:N FF}{w:xN}(i:K)(h:St we Se ms Γ w)(a:ms[i]? =Z (mB e E b z)):
 St we Se (ms.set i<|mP e E (.pointer<|some ⟨b,0,yD⟩) z) Γ w:=h.conv a O λS h=>⟨b,O,h⟩
def zhr{K:N (vn×Pr)}{env0 env:xt}{S:zV->Prop}{w w':xN}{t:vn}(h:VB K env0 env S w t)(k:yO S w w'):VB K env0 env S w' t:=by grind [VB,Pr.keepS]
def zkZ{K:N (vn×Pr)}{env0 env:xt}{S a:zV->Prop}{w:xN}{t:vn}(h:VB K env0 env S w t)(k:∀k,k<w.heap.size->S k->a k):VB K env0 env a w t:=by grind [VB,Pr.sub]
def zoj(K:N (vn×Pr))(env0 env:xt)(ts:N vn):FF where
 p S w:=U2 K env0 env S w ts
 keep:=λ{S w w'} h k=>by
  induction ts with
  |nil=>trivial
  |cons t ts a=>exact⟨zhr h.1 k,a h.2⟩
 sub:=λ{S b w} h k=>by
  induction ts with
  |nil=>trivial
  |cons t ts a=>exact⟨zkZ h.1 k,a h.2⟩
structure Res where
 a:V K
 t:vn
 w:V K
 mf:ws->xn->MF
def Res.done(r:Res)(D:K->ws):ws:=match r.w with
 |some i=>D i
 |none=>yL
def Res.here(r:Res)(D:K->ws):ws:=match r.a with
 |some i=>D i
 |none=>I
def av(rs:N Res)(D:K->ws)(env:xt):N MF:=rs.filterMap λr=>bif r.here D then Z (r.mf (r.done D)<|env r.t)else yD
def zzr(l:N wT)(i j:K):ws:=match(yn l i).dst with
 |some t=>(yn l j).dst==Z t
 |none=>yL
section
variable{P:ww}{N:Nd}{we:xN}{Se:zV->Prop}{ms:zC MF}{Γ:zC FF}{Q:Qs}{env0:xt}{l:zC wT}{m:zV}
def zfX(L:zC (wT×Pr))(D:K->ws)(env:xt):FF where
 p S w:=∀i x t,D i=I->L[i]? =Z x->x.1.dst=Z t->x.2.p S (env t) w
 keep:=λh k i x t h1 a b=>x.2.keepS (h i x t h1 a b) k
 sub:=λh k i x t h1 a b=>x.2.sub (h i x t h1 a b) k
end
section
variable{P:ww}{N:Nd}{we:xN}{Se:zV->Prop}{ms:zC MF}{Γ:zC FF}{env:xt}{d:z7 vn}{ty t:wn}{pos:String}{aft:wL Edge}{g:z7 (zV×ws)}
def zpV{α:Type}{e:ye α}{c:wn}{zs:zC α}{len bytes:K}{a:xn}{parts:zC (K×wr)}{vs:zC (K×xn)}(m:P.underlying t=Z (.slice c))(hd:UI P c e.agg e.n bytes a)
 (hn:0<e.n) (hc:X zs=len) (z:len*e.n<=16777216) (hv:parts.map (λx=>(x.1,ev env x.2))=vs)
 (o:∀(S:K->Prop) (w:xN),zK S Γ w->gX (λi=>Z (i*e.n,e.n)) vs 0) (hp:∀(S:K->Prop) (w:xN),zK S Γ w->xa e S zs (kT vs) w):
 OG P ⟨d,.buildSlice t len parts.toArray,ty,pos,aft,g⟩ env we Se ms Γ (λv:xn=>v) (λv=>mO e c v zs::ms) (λ_=>Γ) (λ_=>vF):=by
 intro w h;have⟨S0,A,b⟩:=h.ex;have hi:=hp S0 w b;have hl:X (kT vs)=len*e.n:=by rw[hi.len,hc]
 have B:len<=9223372036854775807:=by have:len<=len*e.n:=xcl _ hn;lia
 refine Yq.of_value (w':=w.alloc (.cells (kT vs).toArray c)) (v:=.slice (Z ⟨w.heap.size,0,yD⟩) len len) ?_ ⟨_,O,xS,?_⟩
 ·have p:parts.toArray.map (λx=>(x.1,ev env x.2))=vs.toArray:=by rw[<-hv];simp
  have j:xdu (λi=>Z (i*e.n,e.n)) ((xeI<|len*e.n).map (a.cells[·%a.cells.size]!)) vs=Z (kT vs).toArray:=by
   have:=C7 vs [] ((xeI<|len*e.n).map (a.cells[·%a.cells.size]!)).toList (o S0 w b) (by simp[hl]);rw[xbF,xdf,xbF,xbS (by simp[hl]),xbN]at this;lia
  have q:(xep t len<|parts.toArray.map λx=>(x.1,ev env x.2)).run P w=.ok (.slice (Z ⟨w.heap.size,0,yD⟩) len len) (w.alloc (.cells (kT vs).toArray c)):=by
   rw[p];unfold xep;simp only[xau,wE m,xai,wM hd,ir (W:¬len*e.n>2^24),Zv];by_cases h0:len*e.n=0
   ·have C:kT vs=[]:=xbk (by rw[hl,h0]);have r:xdu (λi=>Z (i*e.n,e.n)) ((xeI 0).map ((#[]:wL xn)[·%(#[]:wL xn).size]!)) vs=Z (kT vs).toArray:=by
     have l:∀f:K->xn,(xeI 0).map f= #[]:=λf=>by simp
     rw[<-j,h0,l,l]
    simp only[h0,wN];simp only[r,xau,qV,xai,xaO]
   ·simp only[ir h0,xau,Zu hd,xai,xaO,j,qV]
  simp only[wD,xau,q,xai,xaO]
 ·have s:St we Se (mR e c w.heap.size zs::ms) Γ (w.alloc (.cells (kT vs).toArray c)):=by
   refine h.fresh (dN.alloc w _) O Xn ?_;intro S D b;refine⟨_,v6 w _,?_⟩;exact((hp S w b).sub λk u y=>⟨y,Nat.ne_of_lt u⟩).keep (dN.alloc w _).to
  exact zrz (n:=len) 0 s O hc.symm W
end
def zsx{P:ww}{env:xt}{d:V vn}{ty t:wn}{pos:String}{aft:wL Edge}{g:V (K×ws)}{x:wr}{b:ws}(h:ev env x=.bool b)(w:xN):
 (wD (ev env) ⟨d,.unOp .not t x,ty,pos,aft,g⟩).run P w=.ok (.value (.bool !b)) w:=sX (by show(match ev env x with|xes t=>Z (xes !t)|_=>yD)=_;rw[h]) w
abbrev iv(x:J):xn:=.int .i64 x
abbrev uv(x:K):xn:=.int .u64 (x:J)
def nz{p:Prop}(h:I=yL):p:=by cases h
def pvL(N:K)(b:wL wT):zC wT->xt->zC (K×xn)->V (zC<|K×xn)
 |[],_,a=>Z a
 |o::r,env,a=>match o.dst with
  |some d=>bif kP N (Z d)then(bif xl b (L a env) o then(match pv o (L a env)with
   |some v=>pvL N b r env ((d,v)::a)
   |none=>yD)else(match o.guard with
   |some (j,c)=>bif gd b (L a env) j==Z (!c)then pvL N b r env ((d,wR)::a)else yD
   |none=>yD))else yD
  |none=>yD
def zc9{N:K}{c:wL wT}:∀(l:zC wT) (env:xt) (b a:zC (K×xn)),pvL N c l env b=Z a->Ic N c l (L b env)=Z (L a env)
 |[],env,b,a,h=>by cases h;rfl
 |o::r,env,b,a,h=>by
  unfold pvL at h;unfold Ic
  cases hd:o.dst with
  |none=>rw[hd]at h;cases h
  |some d=>
   rw[hd]at h;simp only at h;cases i:kP N (Z d)
   ·simp_all
   ·rw[i]at h;simp only[vL]at h⊢;cases f:xl c (L b env) o
    ·rw[f]at h;simp only[vH]at h⊢;split at h
     ·next j e k=>
      cases g:(gd c (L b env) j==Z (!e))
      ·simp_all
      ·rw[g]at h;simp only[k,g,vL]at h⊢;exact zc9 r env _ a h
     ·cases h
    ·rw[f]at h;simp only[vL]at h⊢
     cases hp:pv o (L b env)with
     |none=>rw[hp]at h;cases h
     |some v=>rw[hp]at h;exact zc9 r env _ a h
def VJ{P:ww}{N:Nd}{we:xN}{Se:K->Prop}{ms:zC MF}{Γ:zC FF}{Q:Qs}{b:wL wT}(n:K)(a:zC (K×xn)){l:zC wT}{env:xt}
 (h:pvL N.n b (l.take n) env []=Z a) (k:TL P N we Se ms Γ b (l.drop n) Q (L a env)):TL P N we Se ms Γ b l Q env:=by
 rw[<-xbw n l];exact iH _ _ _ _ (zc9 _ env [] a h) k
def cpy{α:Type}(xs ys:N α):N α:=xdo (min (X ys) (X xs)) ys++xdD (min (X ys) (X xs)) xs
def Bh{α:Type}(lo n:K)(xs ys:N α):N α:=xdo lo xs++xdo (min (X ys) n) ys++xdD (lo+min (X ys) n) xs
end
def z2(S:K->Prop)(w:xN):(eI).p S 0 (xfA (.int .i64 0)).toList w:=⟨O,YL,YL⟩
def z3(S:K->Prop)(w:xN):(eI).p S 0 (xfA (.int .i64 0)).toList w:=⟨O,YL,YL⟩
def z4(S:K->Prop)(w:xN):(zfh).p S yL (xfA (.bool yL)).toList w:=O
def zwD:UI Tryz.prog 72 yL 1 8 (.int .u64 0):=UI.of Xs
section
open Go.ChangeShapes Go.WideShapes Go.ChangeAt Go.RowKit
variable{W W':xN}
def zfk(a:dN W W')(b:kW->Prop):W.keptBut W' b:=by
 refine⟨a.os,a.output,λi hi=> ?_⟩;rw[a.block i hi xS]
 cases h:W.heap[i]? with
 |none=>rfl
 |some o=>cases o<;>simp
def zm4{H:Type}{enc:wn×xn->H}{P:ww}{f:jP}{s:ChangeSpec}{c d i:ws}{args:wL xn}{v:xn}{ds e:N (Yd H)}{a pa pv:N kW}(g:DataW.Whole enc P f.params.toList s.vars c W args.toList ds e a)(j:∀(b:K) (sp:K->ws) (hd:ws),xeD enc P W' b sp hd f.resultTypes.toList (v.resultList f.resultTypes.size) (s.fn H<|ds++e).results [])(k:∀sp:K->ws,(∀p∈a,sp p.block=I)->xeD enc P W' 0 sp I f.params.toList args.toList (s.fn H<|ds++e).args pa)(hc:∀sp:K->ws,(∀p∈a,sp p.block=I)->DataW.TrodVars enc P W' sp s.vars (s.fn H<|ds++e).vars pv)(m:a=pa++pv)(l:dN W W'):s.post enc P f c d i yL W args v W':=
 ⟨ds,e,a,[],pa,pv,g,j _ _ _,k _ (λp hp=>by simpa using g.lt p hp),hc _ (λp hp=>by simpa using g.lt p hp),zfk l _,λh=>by cases h⟩
end
section
def P9{S:K->Prop}{w:xN}:∀{A B:N MF},xd S (A++B) w↔xd S A w/\xd S B w
 |[],_=>⟨λh=>⟨xS,h⟩,λh=>h.2⟩
 |a::A,B=>by
  have b:=P9 (S:=S) (w:=w) (A:=A) (B:=B);exact⟨λh=>⟨⟨h.1,(b.1 h.2).1⟩,(b.1 h.2).2⟩,λh=>⟨h.1.1,b.2 ⟨h.1.2,h.2⟩⟩⟩
def Gf:∀{A B:N MF},KJ (A++B)↔KJ A/\KJ B/\∀m∈A,∀k,m.blk k->∀m'∈B,¬m'.blk k
 |[],B=>⟨λh=>⟨xS,h,λm hm=>wl hm QT⟩,λh=>h.2.1⟩
 |a::A,B=>by
  have d:=Gf (A:=A) (B:=B);constructor
  ·intro h;have⟨h1,c,e⟩:=d.1 h.2;refine⟨⟨λk b m' hm'=>h.1 k b m'<|pN.2 (.inl hm'),h1⟩,c,λm hm k b m' hm'=> ?_⟩;obtain rfl|hm:=PQ.1 hm
   ·exact h.1 k b m'<|pN.2 (.inr hm')
   ·grind
  ·rintro⟨⟨h1,c⟩,e,f⟩;refine⟨λk b m' hm'=> ?_,d.2 ⟨c,e,λm hm=>f m<|kE _ hm⟩⟩;obtain hm'|hm':=pN.1 hm'
   ·simp_all
   ·simp_all
def PG(G:N MF):MF where
 blk k:=∃m∈G,m.blk k
 p S w:=xd S G w/\KJ G
 keep:=λh k b=>⟨xd.keep k (λm a i hi=>b i ⟨m,a,hi⟩) h.1,h.2⟩
 sub:=λh k=>⟨xd.sub k h.1,h.2⟩
 lt:=λh k ⟨m,a,c⟩=>xd.lt h.1 m a k c
def St.grp{we:xN}{Se:K->Prop}{G ms:N MF}{Γ:N FF}{w:xN}:St we Se (PG G::ms) Γ w↔St we Se (G++ms) Γ w:=by
 constructor
 ·rintro⟨h1,d,c,S,e,f,i,b,g⟩;refine⟨h1,d,Gf.2 ⟨b.1.2,c.2,λm hm k a m' h=>c.1 k ⟨m,hm,a⟩ m' h⟩,S,e,f,λm hm k a=> ?_,P9.2 ⟨b.1.1,b.2⟩,g⟩;obtain hm|hm:=pN.1 hm
  ·exact i (PG G) (Qh) k ⟨m,hm,a⟩
  ·grind
 ·rintro⟨h1,d,c,S,e,f,i,b,g⟩;have⟨j,l,a3⟩:=Gf.1 c;have⟨n,o⟩:=P9.1 b;refine⟨h1,d,⟨λk a m' h=>by have⟨m,hm,a⟩:=a;exact a3 m hm k a m' h,l⟩,S,e,f,λm hm k a=> ?_,⟨⟨n,j⟩,o⟩,g⟩;obtain rfl|hm:=PQ.1 hm
  ·have⟨m,hm,a⟩:=a;grind
  ·grind
def XY(hv:N xn):ye K where
 n:=1
 agg:=yL
 n1 _:=O
 p _ r cs _:=∃u,hv[r]? =Z u/\u.oneCell'=I/\cs=[u]
 len:=by rintro _ _ _ _ ⟨u,_,_,rfl⟩;rfl
 one:=by rintro _ _ _ _ ⟨u,_,a,rfl⟩ c hc;rw[xab]at hc;subst hc;exact a
 keep h _:=h
 sub h _:=h
def zj5{hv:N xn}{r:K}{u:xn}{S:K->Prop}{w:xN}(h:hv[r]? =Z u)(h1:u.oneCell'=I):(fV (XY hv) r u).p S w:=⟨[u],O,u,h,h1,O⟩
def zl6{hv:N xn}{r:K}{v:xn}{S:K->Prop}{w:xN}(h:(fV (XY hv) r v).p S w):hv[r]? =Z v:=by
 obtain⟨cs,rfl,u,h1,_,rfl⟩:=h;exact h1
def zfj{hv b:N xn}{S:K->Prop}{w:xN}:∀{ix:N K}{cs:N xn},xa (XY hv) S ix cs w->xa (XY<|hv++b) S ix cs w
 |[],_,h=>h
 |r::ix,cs,⟨c,q,h1,⟨u,a,d,e⟩,f⟩=>⟨c,q,h1,⟨u,by rw[xbb (xav.1 a).1];exact a,d,e⟩,zfj f⟩
def zjR{hv a:N xn}{E:wn}{v:xn}{ix:N K}{S:K->Prop}{w:xN}(h:(mO (XY hv) E v ix).p S w):(mO (XY<|hv++a) E v ix).p S w:=by
 have⟨cs,h1,b⟩:=h;exact⟨cs,h1,zfj b⟩
def qf{α:Type}(e:ye α)(E:wn):N xn->N (N α)->N MF
 |u::hv,xs::a=>mO e E u xs::qf e E hv a
 |_,_=>[]
theorem UJ{α:Type}{e:ye α}{E:wn}:∀{hv:N xn}{a:N (N α)}{r:K}{u:xn}{xs:N α},hv[r]? =Z u->a[r]? =Z xs->(qf e E hv a)[r]? =Z (mO e E u xs)
 |u'::hv,c::a,0,u,xs,h1,b=>by
  simp only[xbU,xao]at h1 b;subst h1;subst b;rfl
 |u'::hv,c::a,r+1,u,xs,h1,b=>UJ (hv:=hv) (by simpa using h1)<|by simpa using b
 |[],_,r,_,_,h1,_=>by simp at h1
 |_::_,[],r,_,_,_,b=>by simp at b
def zbF{α:Type}{e:ye α}{E:wn}:∀{hv:N xn}{a:N (N α)}{r:K}{u:xn}{ys:N α},hv[r]? =Z u->(qf e E hv a).set r (mO e E u ys)=qf e E hv (a.set r ys)
 |u'::hv,b::a,0,u,ys,h1=>by
  simp only[xbU,xao]at h1;subst h1;rfl
 |u'::hv,b::a,r+1,u,ys,h1=>by
  show mO e E u' b::(qf e E hv a).set r (mO e E u ys)=mO e E u' b::qf e E hv (a.set r ys);rw[zbF<|by simpa using h1]
 |[],_,r,_,_,h1=>by simp at h1
 |u'::hv,[],r,u,ys,h1=>by cases r<;>rfl
def Oc{α:Type}{e:ye α}{E:wn}{u:xn}{xs:N α}:∀{hv:N xn}{a:N (N α)},X hv=X a->qf e E (hv++[u]) (a++[xs])=qf e E hv a++[mO e E u xs]
 |[],[],_=>rfl
 |u'::hv,b::a,h=>by
  show mO e E u' b::qf e E (hv++[u]) (a++[xs])=_;rw[Oc<|by simpa using h];rfl
 |[],_::_,h=>by cases h
 |_::_,[],h=>by cases h
def zq1{α:Type}(e:ye α)(E E1:wn)(v:xn)(hv:N xn)(a:N (N α))(ix:N K):MF:=PG (mO (XY hv) E v ix::qf e E1 hv a)
section
variable{α:Type}{e:ye α}{E E1:wn}{v:xn}{hv:zC xn}{xss:zC (zC α)}{ix:zC zV}{we:xN}{Se:zV->Prop}{ms:zC MF}{Γ:zC FF}{w:xN}
theorem zrC{r:K}{u:xn}{xs:N α}(h1:hv[r]? =Z u)(a:xss[r]? =Z xs)(ms:N MF):((mO (XY hv) E v ix::qf e E1 hv xss)++ms)[r+1]? =Z (mO e E1 u xs):=by grind [UJ,xbb]
def zfx{r:K}{u:xn}{ys:N α}(h1:hv[r]? =Z u)(a:r<X xss)(hl:X hv=X xss)(ms:N MF):((mO (XY hv) E v ix::qf e E1 hv xss)++ms).set (r+1) (mO e E1 u ys)=(mO (XY hv) E v ix::qf e E1 hv (xss.set r ys))++ms:=by
 have b:=xaa a;have h:=UJ (e:=e) (E:=E1) h1 b;have c:=(xav.1 h).1;rw[xfv _ _ (by simpa using c),xeR,zbF h1]
def St.adopt{u:xn}{ys:N α}(hl:X hv=X xss)(h:St we Se (zq1 e E E1 v hv xss ix::mO e E1 u ys::ms) Γ w):St we Se (zq1 e E E1 v (hv++[u]) (xss++[ys]) ix::ms) Γ w:=by
 have h1:=St.grp.1 h;have a:St we Se ((mO (XY hv) E v ix::qf e E1 (hv++[u]) (xss++[ys]))++ms) Γ w:=by
  rw[Oc hl];simp_all
 have b:=a.conv (i:=0) (m':=mO (XY<|hv++[u]) E v ix) O O λS hp=>zjR hp;exact St.grp.2 b
def zp0{S a:K->Prop}(c:∀k,S k->a k)(d:∀m∈qf e E1 hv xss,∀k,m.blk k->a k)(h:xd S (qf e E1 hv xss) w){r:K}{u:xn}{xs:N α}(h1:hv[r]? =Z u)(b:xss[r]? =Z xs):(fV (eS e) xs u).p a w:=
 DJ c (λk f=>d _ (xbI<|UJ h1 b) k f) (xd.get h<|UJ h1 b)
def GK{S a:K->Prop}(hl:X hv=X xss)(b:∀k,S k->a k)(d:∀m∈qf e E1 hv xss,∀k,m.blk k->a k)(h:xd S (qf e E1 hv xss) w):∀{ix:N K}{cs:N xn},xa (XY hv) S ix cs w->xa (eS e) a (ix.map λr=>xss.getD r []) cs w
 |[],_,h=>h
 |r::ix,cs,⟨c,q,h1,⟨u,f,l,g⟩,i⟩=>by
  have n:=(xav.1 f).1;have j:xss[r]? =Z (xss.getD r []):=by simp_all
  exact⟨c,q,h1,⟨u,g,wc.1<|zp0 b d h f j⟩,GK hl b d h i⟩
def St.mat_frz(hl:X hv=X xss)(h:St we Se (zq1 e E E1 v hv xss ix::ms) Γ w):St we Se ms (fV (eS<|eS e) (ix.map λr=>xss.getD r []) v::Γ) w:=by
 refine h.freeze (i:=0) O λS c d b hp=> ?_;have⟨⟨⟨cs,h1,f⟩,g⟩,_⟩:=hp;have j:=λm l k a=>b k ⟨m,kE _ l,a⟩;have n:(mO (eS e) E v<|ix.map λr=>xss.getD r []).p c w:=⟨cs,by rw[xaV];exact h1,GK hl d j g f⟩;exact DJ (λk a=>a) (λk a=>b k ⟨_,Qh,a⟩) n
end
def mPr(p:Prop):MF where
 blk _:=jN
 p _ _:=p
 keep h _ _:=h
 sub h _:=h
 lt _ _ a:=a.elim
def yY:xn->xn
 |.tuple us=>us.toList.headD wR
 |_=>wR
def wm:xn->N xn
 |.tuple us=>us.toList.tail
 |_=>[]
def gN(v:xn)(hv:N xn):xn:=.tuple (v::hv).toArray
def Ih{α:Type}(e:ye α)(E E1:wn)(u:xn)(a:N (N α))(ix:N K):MF:=PG (mPr (X (wm u)=X a)::mO (XY<|wm u) E (yY u) ix::qf e E1 (wm u) a)
def mBo{α:Type}(e:ye α)(E a:wn)(u:xn)(xs:N α):MF:=PG [mPr<|X (wm u)=1,mP (XY<|wm u).c a (yY u) 0,mO e E ((wm u).headD wR) xs]
def mHo(a:wn)(u:xn):MF:=PG [mPr<|X (wm u)=1,mP (XY<|wm u).c a (yY u) 0]
end
section
def oP{α:Type}(e:ye α)(S:K->Prop):V α->N xn->xN->Prop
 |none,cs,_=>cs=[.pointer yD]
 |some y,cs,w=>∃v,cs=[v]/\(fP e y v).p S w
def eO{α:Type}(e:ye α):ye (V α)where
 n:=1
 agg:=yL
 n1 _:=O
 p S x cs w:=oP e S x cs w
 len:=by
  intro S x cs w h
  cases x with
  |none=>rw[show cs=_ from h];rfl
  |some y=>obtain⟨v,rfl,_⟩:=h;rfl
 one:=by
  intro S x cs w h c hc
  cases x with
  |none=>rw[show cs=_ from h]at hc;rw[xab.1 hc];rfl
  |some y=>obtain⟨v,rfl,b,o,d,rfl,_⟩:=h;rw[xab.1 hc];rfl
 keep:=by
  intro S x cs w w' h k
  cases x with
  |none=>exact h
  |some y=>have⟨v,h1,a⟩:=h;exact⟨v,h1,(fP e y v).keep a k⟩
 sub:=by
  intro S f x cs w h k
  cases x with
  |none=>exact h
  |some y=>have⟨v,h1,a⟩:=h;exact⟨v,h1,(fP e y v).sub a k⟩
section
variable{α:Type}{e:ye α}{S:zV->Prop}{w:xN}{v:xn}
def zwe(h:(fV (eO e) yD v).p S w):v=.pointer yD:=by
 obtain⟨cs,rfl,h⟩:=h;rw[show cs=_ from h];rfl
def zv1:(fV (eO e) yD (.pointer yD)).p S w:=⟨[.pointer yD],O,O⟩
def zmr{y:α}(h:(fV (eO e) (Z y) v).p S w):(fP e y v).p S w:=by
 obtain⟨cs,rfl,v,rfl,h⟩:=h;exact h
def zv9{y:α}(h:(fP e y v).p S w):(fV (eO e) (Z y) v).p S w:=⟨[v],O,v,O,h⟩
def zuM{x:V α}(h:(fV (eO e) x v).p S w):∃p,v=.pointer p/\p.isNone=x.isNone:=by
 cases x with
 |none=>exact⟨_,zwe h,O⟩
 |some y=>have⟨b,o,cs,h1,_⟩:=zmr h;exact⟨_,h1,O⟩
end
def eW{α:Type}(e:ye α):ye α where
 n:=e.n
 agg:=I
 n1 h:=by cases h
 p:=e.p
 len:=e.len
 one:=e.one
 keep:=e.keep
 sub:=e.sub
def Sub.wrap{α:Type}(e:ye α)(x:α):Sub (eW e).c x 0 e x id:=λS w cs h=>Sub.self e x S w cs h
def me{α:Type}(e:ye α)(off:K)(nl:α->α)(hv:N xn):FZ (α×K)where
 p S z cs w:=∃u,hv[z.2]? =Z u/\u.oneCell'=I/\cs[off]? =Z u/\e.p S (nl z.1) (cs.set off (.slice yD 0 0)) w
 keep:=λ⟨u,h1,a,b,c⟩ k=>⟨u,h1,a,b,e.keep c k⟩
 sub:=λ⟨u,h1,a,b,c⟩ k=>⟨u,h1,a,b,e.sub c k⟩
def mVr{α β:Type}(q:Prop)(e:ye α)(E off:K)(nl:α->α)(s:ye β)(E1:wn)(u:xn)(z:α)(xs:N β):MF:=PG [mPr<|X (wm u)=1/\q,mP (me e off nl<|wm u) E (yY u) (z,0),mO s E1 ((wm u).headD wR) xs]
def mVh{α:Type}(q:Prop)(e:ye α)(E off:K)(nl:α->α)(u:xn)(z:α):MF:=PG [mPr<|X (wm u)=1/\q,mP (me e off nl<|wm u) E (yY u) (z,0)]
def eRw(n:K)(ag:ws)(hn:ag=yL->n=1):ye (V<|N xn)where
 n:=n
 agg:=ag
 n1:=hn
 p _ x cs _:=X cs=n/\(∀c∈cs,c.oneCell'=I)/\∀l,x=Z l->cs=l
 len h:=h.1
 one h:=h.2.1
 keep h _:=h
 sub h _:=h
section
variable{α β γ:Type}{e:ye α}{s:ye β}{g:ye γ}{off o:zV}{nl:α->α}{hv hv':zC xn}{S:zV->Prop}{w:xN}{cs:zC xn}
theorem zum{z:α×K}(h:(me e off nl hv).p S z cs w):(eRw e.n e.agg e.n1).p S yD cs w:=by
 have⟨u,h1,b,d,a⟩:=h;have hl:=e.len a;rw[xbz]at hl;refine⟨hl,λc hc=> ?_,λl hl=>by cases hl⟩;have⟨k,f⟩:=xfl.1 hc;by_cases e1:k=off
 ·simp_all
 ·refine e.one a c<|xfl.2 ⟨k,?_⟩;grind
def ztD{x:α}{v:xn}(h:(fV e x v).p S w):(fV (eRw e.n e.agg e.n1) (Z v.cells.toList) v).p S w:=by
 obtain⟨cs,rfl,a⟩:=h;refine⟨cs,O,e.len a,e.one a,λl hl=> ?_⟩;cases hl;exact(e.val_cells a).symm
def zsh{z:α×K}(h:(me e off nl hv).p S z cs w):(me e off nl<|hv++hv').p S z cs w:=by
 have⟨u,h1,a⟩:=h;exact⟨u,by rw[xbb (xav.1 h1).1];exact h1,a⟩
def zxD{z:α}{r a:K}(b:hv[r]? =hv'[a]?)(h:(me e off nl hv).p S (z,r) cs w):(me e off nl hv').p S (z,a) cs w:=by
 have⟨u,h1,c⟩:=h;exact⟨u,b▸h1,c⟩
def Sub.hole{z:α}{r:K}:Sub (me e off nl hv) (z,r) off (XY hv) r (λa=>(z,a)):=by
 rintro S w cs ⟨u,h1,c,d,f⟩;have⟨h,i⟩:=xav.1 d;refine⟨cs.take off,[u],cs.drop<|off+1,?_,by rw[xap];lia,⟨u,h1,c,O⟩,?_⟩
 ·rw[<-i];simp
 ·rintro w' a m k ⟨b,j,l,rfl⟩;have hl:X (cs.take off)=off:=by rw[xap];lia
  refine⟨b,j,l,?_,?_⟩
  ·simp_all
  ·have e1:(cs.take off++[b]++cs.drop (off+1)).set off (.slice yD 0 0)=cs.set off (.slice yD 0 0):=by
    have n:cs.set off (.slice yD 0 0)=cs.take off++ .slice yD 0 0::cs.drop (off+1):=by rw[xdT,iq h]
    simp_all
   rw[e1];exact e.keep f k
def Sub.other{z:α}{r:K}{y:γ}{up:γ->α}(h:Sub e.c (nl z) o g y λy=>nl<|up y)(hd:o+g.n<=off\/off+1<=o):Sub (me e off nl hv) (z,r) o g y (λy=>(up y,r)):=by
 rintro S w cs ⟨u,h1,q,C,D⟩;have⟨a,c,b,f,t,m,v⟩:=h S w _ D;have⟨x,E⟩:=xav.1 C;have hi:=g.len m;have hc:cs=(cs.set off (.slice yD 0 0)).set off u:=by rw[List.set_set,<-E,xcW]
 obtain hd|hd:=hd
 ·have F:off-X (a++c)<X b:=by
   have:X (cs.set off (.slice yD 0 0))=X cs:=xbz;rw[f,xak]at this;rw[xak]at this⊢;lia
  have A:X (a++c)<=off:=by rw[xak];lia
  refine⟨a,c,b.set (off-X (a++c)) u,?_,t,m,?_⟩
  ·rw[hc,f,xfm _ _ A]
  ·intro w' y' d k j;have p:=v w' y' d k j;have G:=g.len j;have B:X (a++d)=X (a++c):=by rw[xak,xak,hi,G]
   refine⟨u,h1,q,?_,?_⟩
   ·rw[xbv W,B,xdQ F]
   ·have:(a++d++b.set (off-X (a++c)) u).set off (.slice yD 0 0)=a++d++b:=by
     rw[xfm _ _ W,B,List.set_set];have hp:b[off-X (a++c)]? =Z (.slice yD 0 0):=by
      have:=wF (λl:N xn=>l[off]?) f;simp only[xdQ x]at this;rw[xbv A]at this;exact this.symm
     have⟨_,hp⟩:=xav.1 hp;rw[<-hp,xcW]
    rw[this];exact p
 ·have i:off<X a:=W
  refine⟨a.set off u,c,b,?_,by rw[xbz];exact t,m,?_⟩
  ·rw[hc,f,xal,xfv _ _ i,xal]
  ·intro w' y' d k j;have p:=v w' y' d k j;refine⟨u,h1,q,?_,?_⟩
   ·rw[xal,xbb (by rw[xbz];exact i),xdQ i]
   ·have:(a.set off u++d++b).set off (.slice yD 0 0)=a++d++b:=by
     rw[xal,xfv _ _ (by rw[xbz];exact i),List.set_set];have hp:a[off]? =Z (.slice yD 0 0):=by
      have:=wF (λl:N xn=>l[off]?) f;simp only[xdQ x]at this;rw[xal,xbb i]at this;exact this.symm
     have⟨_,hp⟩:=xav.1 hp;rw[<-hp,xcW,xal]
    rw[this];exact p
end
end
section
variable{x:zV}{v:xn}{S:zV->Prop}{w:xN}
def eCh:ye K where
 n:=1
 agg:=yL
 n1 _:=O
 p _ x cs _:=cs=[.int .u8 (x:J)]/\x<256
 len h:=by simp[h.1]
 one h:=by intro c hc;rw[h.1]at hc;simp at hc;subst hc;rfl
 keep h _:=h
 sub h _:=h
def xr(s:vI):N K:=s.data.toList.map UInt8.toNat
def eTx:ye (N K)where
 n:=1
 agg:=yL
 n1 _:=O
 p _ x cs _:=∃s:vI,cs=[.string s]/\xr s=x/\s.size<=9223372036854775807
 len:=by rintro _ _ _ _ ⟨s,rfl,_⟩;rfl
 one:=by rintro _ _ _ _ ⟨s,rfl,_⟩ c hc;simp at hc;subst hc;rfl
 keep h _:=h
 sub h _:=h
def zwa(h:(fV eCh x v).p S w):v=.int .u8 (x:J)/\x<256:=by
 obtain⟨cs,rfl,rfl,h⟩:=h;exact⟨O,h⟩
def za6(h:x<256):(fV eCh x (.int .u8 (x:J))).p S w:=⟨_,O,O,h⟩
def zfK{x:N K}(h:(fV eTx x v).p S w):∃s:vI,v=.string s/\xr s=x/\s.size<=9223372036854775807:=by
 obtain⟨cs,rfl,s,rfl,h1,a⟩:=h;exact⟨s,O,h1,a⟩
def zgg{s:vI}{x:N K}(h:xr s=x)(a:s.size<=9223372036854775807):(fV eTx x (.string s)).p S w:=⟨_,O,s,O,h,a⟩
def ky(s:vI):X (xr s)=s.size:=by simp_all [xr]
inductive Ty
 |i
 |u
 |b
 |l (t:Ty)
 |p (s t:Ty)
 |a (k:K) (t:Ty)
 |ch
 |tx
 |po (t:Ty)
 |w1 (t:Ty)
def Ty.D:Ty->Type
 |.i=>J
 |.u=>K
 |.b=>ws
 |.l t=>N t.D
 |.p s t=>s.D×t.D
 |.a _ t=>N t.D
 |.ch=>K
 |.tx=>N K
 |.po t=>V t.D
 |.w1 t=>t.D
def Ty.rep:(t:Ty)->ye t.D
 |.i=>eI
 |.u=>eU
 |.b=>zfh
 |.l t=>eS t.rep
 |.p s t=>eP s.rep t.rep
 |.a k t=>eA k t.rep
 |.ch=>eCh
 |.tx=>eTx
 |.po t=>eO t.rep
 |.w1 t=>eW t.rep
def Ty.z:(t:Ty)->t.D
 |.i=>(0:J)
 |.u=>(0:K)
 |.b=>yL
 |.l t=>([]:N t.D)
 |.p s t=>(s.z,t.z)
 |.a k t=>sR k t.z
 |.ch=>(0:K)
 |.tx=>([]:N K)
 |.po t=>(yD:V t.D)
 |.w1 t=>t.z
def Ty.n:Ty->K
 |.p s t=>s.n+t.n
 |.a k t=>k*t.n
 |.w1 t=>t.n
 |_=>1
def Ty.n_rep:∀t:Ty,t.rep.n=t.n
 |.i=>rfl
 |.u=>rfl
 |.b=>rfl
 |.l _=>rfl
 |.ch=>rfl
 |.tx=>rfl
 |.p s t=>by show s.rep.n+t.rep.n=_;rw[Ty.n_rep s,Ty.n_rep t];rfl
 |.a k t=>by show k*t.rep.n=_;rw[Ty.n_rep t];rfl
 |.po _=>rfl
 |.w1 t=>Ty.n_rep t
def Ty.same:(s t:Ty)->V (PLift<|s=t)
 |.i,.i=>Z ⟨O⟩
 |.u,.u=>Z ⟨O⟩
 |.b,.b=>Z ⟨O⟩
 |.ch,.ch=>Z ⟨O⟩
 |.tx,.tx=>Z ⟨O⟩
 |.l s,.l t=>match Ty.same s t with
  |some ⟨h⟩=>Z ⟨wF Ty.l h⟩
  |none=>yD
 |.p s t,.p c d=>match Ty.same s c,Ty.same t d with
  |some ⟨h⟩,Z ⟨e⟩=>Z ⟨h▸e▸O⟩
  |_,_=>yD
 |.a k s,.a f t=>if g:k=f then(match Ty.same s t with
  |some ⟨h⟩=>Z ⟨g▸h▸O⟩
  |none=>yD)else yD
 |.po s,.po t=>match Ty.same s t with
  |some ⟨h⟩=>Z ⟨wF Ty.po h⟩
  |none=>yD
 |.w1 s,.w1 t=>match Ty.same s t with
  |some ⟨h⟩=>Z ⟨wF Ty.w1 h⟩
  |none=>yD
 |_,_=>yD
def Ty.cast{R:Type}(s t:Ty)(x:s.D)(k:t.D->V R):V R:=match Ty.same s t with
 |some ⟨h⟩=>k<|h▸x
 |none=>yD
def C4:N Ty->Type
 |[]=>wW
 |t::r=>t.D×C4 r
def CsD:N Ty->Type
 |[]=>wW
 |[t]=>t.D
 |t::s::r=>t.D×CsD (s::r)
structure Fl(α:Type)where
 off:K
 f:Ty
 get:α->f.D
 set:f.D->α->α
def Fl.self(t:Ty):Fl t.D:=⟨0,t,id,λy _=>y⟩
def Vb{α:Type}(f:V (Fl α)):K:=match f with
 |some f=>f.off
 |none=>0
def Ye{α:Type}(s:Ty)(f:V (Fl α))(xs:N s.D)(z:α):α:=match f with
 |some ⟨_,.l a,_,st⟩=>(match Ty.same s a with
  |some ⟨h⟩=>st (h▸xs) z
  |none=>z)
 |_=>z
def Fl.comp{α:Type}(a:Fl α)(c:Fl a.f.D):Fl α:=⟨a.off+c.off,c.f,λz=>c.get<|a.get z,λy z=>a.set (c.set y<|a.get z) z⟩
def xy:(k:K)->(t:Ty)->(i:K)->V (Fl t.D)
 |0,.w1 t,0=>Z ⟨0,t,λz=>z,λy _=>y⟩
 |0,_,_=>yD
 |1,t,i=>bif xad i 0 then Z (Fl.self t)else yD
 |k+2,.p s t,0=>Z ⟨0,s,λz=>z.1,λy z=>(y,z.2)⟩
 |k+2,.p s t,i+1=>match xy (k+1) t i with
  |some f=>Z ⟨s.n+f.off,f.f,λz=>f.get z.2,λy z=>(z.1,f.set y z.2)⟩
  |none=>yD
 |_,_,_=>yD
structure PD where
 t:Ty
 x:t.D
def ze3(d:ww)(l:K){α X Y:Type}(e:ye α)(E:wn)(b:X->xn->MF)(f:Y->xn->MF)(g:N α->X->V (N α×(X⊕Y))):Prop:=
 ∀ys x a r,g ys x=Z (a,r)->∀(v u:xn) we Se F G w,St we Se (b x u::mO e E v ys::F) G w->
  YieldAt xfJ 0 d l #[v] w λq w'=>q=.returned (.bool r.isLeft)/\∃c,St we Se (xfj (λx=>b x c) (λy=>f y c) r::mO e E v a::F) G w'
def lOf:xn->K
 |.int _ x=>x.toNat
 |_=>0
inductive Dv
 |d (t:Ty) (x:t.D)
 |q (t:Ty) (x:t.D)
 |kb (b:ws)
 |un
 |nil
 |ow (o:K)
 |ep (o:K) (t:Ty) (j:K) (f:Fl t.D)
 |sv (o:K) (t:Ty) (lo n:K)
 |vs (o:K) (t:Ty)
 |vp (o:K) (t:Ty) (f:Fl t.D)
 |fn (f:vi) (c:N PD)
 |fp (dom cod:N Ty) (g:C4 dom->V (CsD cod))
 |pin (v:xn)
 |mw (o:K)
 |mv (o lo n:K)
 |hp (o j:K)
 |rw(o r:K)
 |rp (o:K) (t:Ty) (r j:K) (f:Fl t.D)
 |yd (o:K)
 |np
 |vf (o:K) (t:Ty) (n i:K)
 |bm (f:vi) (o:K) (t:Ty)
 |dz (t:Ty) (x:t.D) (n i:K)
inductive Od
 |own (t:Ty) (E:wn) (xs:N t.D)
 |var (t:Ty) (E:wn) (z:t.D)
 |mat (t:Ty) (E E1:wn) (xss:N (N t.D)) (ix:N K)
 |bo (t:Ty) (E E0:wn) (xs:N t.D)
 |ho (E0:wn)
 |vr (t:Ty) (E:wn) (s:Ty) (E1:wn) (n i:K) (z:t.D) (xs:N s.D)
 |vh (t:Ty) (E:wn) (s:Ty) (E1:wn) (n i:K) (z:t.D)
 |hid (t:Ty) (E:wn) (X Y:Type) (mX:X->xn->MF) (mY:Y->xn->MF) (g:N t.D->X->V (N t.D×(X⊕Y))) (x:X)
 |hiy (Y:Type) (mY:Y->xn->MF) (y:Y)
structure Sg where
 nx:K
 rg:N (K×K×Dv)
 ob:N (K×Od)
def Br:N (K×K×Dv)->K->K->V Dv
 |[],_,_=>yD
 |(a,b,d)::r,t,i=>bif xad a t && xad b i then Z d else Br r t i
def xQ:N (K×Od)->K->V Od
 |[],_=>yD
 |(a,x)::r,o=>bif xad a o then Z x else xQ r o
def get(cx σ:Sg)(t i:K):V Dv:=match Br σ.rg t i with
 |some d=>Z d
 |none=>Br cx.rg t i
def JE(cx σ:Sg)(o:K):V Od:=match xQ σ.ob o with
 |some d=>Z d
 |none=>xQ cx.ob o
def Bt(l:N K)(t:K):ws:=l.any<|xad t
def KS(rg:N (K×K×Dv))(t:K):ws:=rg.all λe=> !xad e.1 t
def zvt(rg:N (K×K×Dv))(t:K):N (K×K×Dv):=rg.filter λe=> !xad e.1 t
def yJ:N (K×Od)->K->N (K×Od)
 |[],_=>[]
 |(a,y)::r,o=>bif xad a o then r else(a,y)::yJ r o
def Zf:N (K×Od)->K->Od->N (K×Od)
 |[],_,_=>[]
 |(a,y)::r,o,x=>bif xad a o then(a,x)::r else(a,y)::Zf r o x
def jq(rg:N (K×K×Dv))(d:V vn)(l:N (K×Dv)):N (K×K×Dv):=match d with
 |some t=>l.map (λe=>(t,e.1,e.2))++zvt rg t
 |none=>rg
def vz(cx:Sg)(d:V vn):ws:=match d with
 |some t=>KS cx.rg t
 |none=>I
def Sg.put(σ:Sg)(d:V vn)(l:N (K×Dv)):Sg:=⟨σ.nx,jq σ.rg d l,σ.ob⟩
def cv:xn->V Dv
 |.int .i64 x=>if Um x then Z (.d .i x)else yD
 |.int .u64 x=>if 0<=x/\x<18446744073709551616 then Z (.d .u x.toNat)else yD
 |.bool b=>Z (.kb b)
 |.int .u8 x=>if 0<=x/\x<256 then Z (.d .ch x.toNat)else yD
 |.string s=>if s.size<=9223372036854775807 then Z (.d .tx<|xr s)else yD
 |.slice yD 0 0=>Z .nil
 |.pointer yD=>Z .np
 |.nilFunc=>Z (.pin .nilFunc)
 |_=>yD
def xT(cx σ:Sg):wr->V Dv
 |.tmp t=>get cx σ t 0
 |.const v=>cv v
 |.func f=>Z (.fn f [])
 |.global _=>yD
inductive TK
 |int (k:vu)
 |bool
 |str
 |sl (E:wn)
 |st (k:K)
 |ar (k:K) (E:wn)
 |pt (E:wn)
structure TI where
 ty:Ty
 k:TK
 B:K
inductive AM
 |d (t:Ty)
 |q (t:Ty)
 |own (t:Ty) (E:wn)
 |fn (dom cod:N Ty)
 |var (t:Ty) (E:wn)
def AM.D:AM->Type
 |.d t=>t.D
 |.q t=>t.D
 |.own t _=>N t.D
 |.var t _=>t.D
 |.fn dom cod=>C4 dom->V (CsD cod)
def pK:N AM->Type
 |[]=>wW
 |a::r=>a.D×pK r
inductive RM
 |d (t:Ty)
 |own (t:Ty) (E:wn)
 |var (t:Ty) (E:wn)
def RM.D:RM->Type
 |.d t=>t.D
 |.own t _=>N t.D
 |.var t _=>t.D
def CZ:N RM->Type
 |[]=>wW
 |[a]=>a.D
 |a::b::r=>a.D×CZ (b::r)
def RM.ty:RM->Ty
 |.d t=>t
 |.own t _=> .l t
 |.var t _=>t
inductive TF
 |d (t:Ty)
 |q (t:Ty)
 |own (t:Ty) (E:wn)
 |var (t:Ty) (E:wn)
 |mat (t:Ty) (E E1:wn)
 |matv (t:Ty) (E E1:wn)
 |row (j:K)
 |view (j:K)
 |bo (t:Ty) (E E0:wn)
 |vr (t:Ty) (E:wn) (s:Ty) (E1:wn) (n i:K)
def TF.D:TF->Type
 |.d t=>t.D
 |.q t=>t.D
 |.own t _=>N t.D
 |.var t _=>t.D
 |.mat t _ _=>N (N t.D)×N K
 |.matv t _ _=>(N (N t.D)×N K)×(K×K)
 |.row _=>K
 |.view _=>K×K
 |.bo t _ _=>N t.D
 |.vr t _ s _ _ _=>t.D×N s.D
def SR:TF->V K
 |.row j=>Z j
 |.view j=>Z j
 |_=>yD
inductive NF
 |kb (b:ws)
 |nil
 |ci (x:J)
 |cu (x:K)
 |al (s:K)
 |bm (s:K) (f:vi)
structure Sh where
 ds:N (K×TF)
 ns:N (K×NF)
structure Sgm where
 ro:N K
 tg:N (Tg×Sh)
structure Lp where
 hd:Sh
 sg:Sgm
structure An where
 bx:N K
 jn:N (K×Sgm)
 lp:N (K×Lp)
 dz:N (K×N K)
 vw:N K
 mt:N K
 vr:N (K×K×K)
def gI{α:Type}:N (K×α)->K->V α
 |[],_=>yD
 |(k,x)::r,t=>bif xad k t then Z x else gI r t
end
end Go.Proofs.YtdpdofimolhigaaGreat
