/- What a proof needs: rules of walking, mirrors of functions and their plain laws. No condition. -/
import Derived.WalkKit
import Derived.KernelRfl
import Derived.CallsIn
import Derived.OrdersIn
import Derived.TacticsIn
import Derived.RangeFuncIn
import Derived.Laws.AppendOwn
import Derived.Laws.OwnMore
import Derived.Laws.CopyOwn
import Derived.Orders
import Derived.Laws.IdiomCopy
import Derived.Laws.CopyRow
import Derived.Scope
import Derived.Lib.BitFns
import Derived.Test.YtmggkmchbdanfaaGreatRows
import Derived.ProofKit
import Derived.OpenShut
import Derived.Test.YtmggkmchbdanfaaGreatProg
import Derived.RangeFuncSeq
import Derived.RangeFuncRecord
set_option linter.unusedVariables false
set_option linter.unusedSimpArgs false
namespace Go.Proofs.YtmggkmchbdanfaaGreat
open Bool renaming and_eq_true->xao,false_eq_true->xak,false_or->xej,not_eq_true'->xdn,not_true->xdM,or_eq_true->xdY
open Builtin renaming append_->xch,zeroCells->xbu
open DataW renaming TrodAll->xeH
open Deferred renaming ofValue->xdJ
open Extern renaming find->xeV,findNext->xey
open Extern.MathBitsCarry renaming m64->xaY,pair->xbU,three->xbQ
open Fence renaming wide->xfV
open Instr renaming build->xfN,buildSlice->xep,fill->xdg,slice->xfL,sliceAt->xcX,sliceBound->xeo,sliceBounds->xdX,sureAddr->xfu
open Int renaming fdiv_eq_ediv_of_nonneg->xeJ,natAbs_ediv_le_natAbs->xdr,natCast_add->xdZ,natCast_mul->xfd,pow_nonneg->xfv,toNat_natCast->xaK
open IntKind renaming bits->xew,i64->xcY,signed->xdS,u64->xcr,u8->xfW,wrap->xfS
open Lib renaming bitLen->xeZ
open List renaming all_eq_true->xaR,any_eq_true->xeP,append_assoc->xaj,append_nil->xbR,cons_append->xbI,drop->xdA,drop_eq_getElem_cons->xcx,drop_eq_nil_of_le->xcl,drop_left'->xfb,eq_nil_of_length_eq_zero->xbt,ext_getElem?->xcy,getD_eq_getElem?_getD->H1,getElem?_append_left->xbq,getElem?_append_right->xcn,getElem?_cons_zero->xbE,getElem?_drop->xet,getElem?_eq_getElem->xaa,getElem?_eq_none->xaH,getElem?_eq_some_iff->xat,getElem?_replicate->xfe,getElem?_take->xcp,getElem_mem->xbn,getElem_of_mem->xcJ,getElem_set->xfE,length_append->xax,length_cons->xaq,length_drop->xbO,length_eq_one_iff->xfk,length_map->xaP,length_nil->xbS,length_replicate->xaZ,length_set->xcK,length_take->xav,map_cons->xbX,map_nil->xex,map_toArray->xdI,mem_append->Nm,mem_cons->xac,mem_cons_of_mem->UV,mem_cons_self->FS,mem_map->xal,mem_of_getElem?->xbx,mem_of_mem_eraseIdx->xdx,mem_of_mem_take->xdV,mem_range->xbf,mem_singleton->xai,nil_append->xbA,not_mem_nil->IR,pairwise_cons->xbJ,range->xbc,range_succ->xdu,replicate->xaf,replicate_succ->xeh,set_getElem_self->xfx,singleton_append->xfy,take->xdt,take_append_drop->xbN,take_left'->xfO,take_length->xcP,take_of_length_le->xaQ,take_succ_cons->xei
open List.Pairwise renaming nil->xfn
open List.Perm renaming refl->xdE
open Nat renaming add_assoc->xcR,add_comm->xdD,add_mul->xaV,add_sub_cancel_left->xfc,add_zero->xbT,beq->xap,ble->xfU,blt->xdc,div_le_self->xea,div_lt_iff_lt_mul->xbd,eq_of_beq_eq_true->xcL,le_mul_of_pos_left->xdm,le_mul_of_pos_right->xcb,le_of_ble_eq_true->xbM,le_refl->xab,le_trans->xam,lt_of_le_of_lt->xba,lt_of_lt_of_le->xan,lt_or_ge->xce,min_eq_left->xcM,mod_eq_of_lt->xar,mod_lt->xbi,mul_le_mul_right->xaw,mul_one->xcG,one_mul->xcm,pos_of_ne_zero->xcI,strongRecOn->xds,zero_add->xaN,zero_le->xah,zero_mul->xcv
open Op renaming intCmp->xfM
open Oper renaming looksAt->xbC
open Option renaming getD_some->xeQ
open Option.some renaming inj->xdv,injEq->xaz
open Prod.mk renaming injEq->xcH
open Region renaming binds->xcs,ready->xdN
open Result renaming andThen_ok->xad
open Sem renaming run_bind->xas,run_pure->xaG
open Sum renaming elim->xfw
open UInt8 renaming toNat->xfo
open Value renaming bool->xer,cells->xfK
open _root_.Array renaming getD_eq_getD_getElem?->xbo,getElem?_eq_getElem->xcz,getElem?_eq_some_iff->xbj,length_toList->xeT,mem_toList_iff->xdi,range->xeU,replicate->xev,toArray_toList->xdh
section
 universe u
theorem zN{c:Prop}{h:Decidable c}{α:Type}{t e:α}(hc:c:=by lia):ite c t e=t:=if_pos hc
theorem zy{c:Prop}{h:Decidable c}{α:Type}{t e:α}(hc:¬c:=by lia):ite c t e=e:=if_neg hc
theorem iq{c:Prop}{h:Decidable c}(hc:c){α:Sort u}{t e:α}:ite c t e=t:=if_pos hc
theorem ir{c:Prop}{h:Decidable c}(hc:¬c){α:Sort u}{t e:α}:ite c t e=e:=if_neg hc
structure yq(S:Nat->Prop)(w w':World):Prop where
 os:w'.os=w.os
 tape:w'.tape=w.tape
 output:w'.output=w.output
 size:w.heap.size<=w'.heap.size
 block:∀k,k<w.heap.size->S k->w'.heap[k]? =w.heap[k]?
abbrev QA(w w':World):Prop:=yq (fun _=>True) w w'
theorem yq.refl(S:Nat->Prop)(w:World):yq S w w:=⟨rfl,rfl,rfl,xab _,fun _ _ _=>rfl⟩
theorem yq.trans{S:Nat->Prop}{a b c:World}(h:yq S a b)(k:yq S b c):yq S a c:=
 ⟨k.os.trans h.os,k.tape.trans h.tape,k.output.trans h.output,xam h.size k.size,
  fun i hi hs=>(k.block i (xan hi h.size) hs).trans<|h.block i hi hs⟩
theorem yq.weak{S S':Nat->Prop}{a b:World}(h:yq S a b)(hs:∀k,k<a.heap.size->S' k->S k):yq S' a b:=
 ⟨h.os,h.tape,h.output,h.size,fun k hk ha=>h.block k hk<|hs k hk ha⟩
theorem QA.to{S:Nat->Prop}{a b:World}(h:QA a b):yq S a b:=h.weak fun _ _ _=>trivial
theorem QA.behind{S:Nat->Prop}{we a b:World}(h:QA we a)(k:yq S a b)(hs:∀i,i<we.heap.size->S i):QA we b:=
 ⟨k.os.trans h.os,k.tape.trans h.tape,k.output.trans h.output,xam h.size k.size,
  fun i hi _=>(k.block i (xan hi h.size)<|hs i hi).trans<|h.block i hi trivial⟩
theorem QA.alloc(w:World)(o:Obj):QA w (w.alloc o):=
 ⟨rfl,rfl,rfl,by simp,fun k hk _=>RowKit.Below.heap_alloc w o k hk⟩
theorem QA.drawn(w:World)(n:Nat):QA w {w with drawn:=n}:=⟨rfl,rfl,rfl,xab _,fun _ _ _=>rfl⟩
structure FF where
 p:(Nat->Prop)->World->Prop
 keep:∀{S:Nat->Prop}{w w':World},p S w->yq S w w'->p S w'
 sub:∀{S S':Nat->Prop}{w:World},p S w->(∀k,k<w.heap.size->S k->S' k)->p S' w
structure MF where
 blk:Nat->Prop
 p:(Nat->Prop)->World->Prop
 keep:∀{S:Nat->Prop}{w w':World},p S w->yq S w w'->(∀k,blk k->w'.heap[k]? =w.heap[k]?)->p S w'
 sub:∀{S S':Nat->Prop}{w:World},p S w->(∀k,k<w.heap.size->S k->S' k)->p S' w
 lt:∀{S:Nat->Prop}{w:World},p S w->∀k,blk k->k<w.heap.size
def zA(S:Nat->Prop):List FF->World->Prop
 |[],_=>True
 |f::r,w=>f.p S w/\zA S r w
def yw(S:Nat->Prop):List MF->World->Prop
 |[],_=>True
 |f::r,w=>f.p S w/\yw S r w
theorem zA.keep{S:Nat->Prop}{w w':World}(k:yq S w w'):∀{Γ:List FF},zA S Γ w->zA S Γ w'
 |[],_=>trivial
 |f::_,h=>⟨f.keep h.1 k,zA.keep k h.2⟩
theorem zA.sub{S S':Nat->Prop}{w:World}(hs:∀k,k<w.heap.size->S k->S' k):∀{Γ:List FF},zA S Γ w->zA S' Γ w
 |[],_=>trivial
 |f::_,h=>⟨f.sub h.1 hs,zA.sub hs h.2⟩
theorem zA.append{S:Nat->Prop}{w:World}:∀{Γ Δ:List FF},zA S Γ w->zA S Δ w->zA S (Γ++Δ) w
 |[],_,_,h=>h
 |_::_,_,h,k=>⟨h.1,zA.append h.2 k⟩
theorem yw.sub{S S':Nat->Prop}{w:World}(hs:∀k,k<w.heap.size->S k->S' k):∀{Γ:List MF},yw S Γ w->yw S' Γ w
 |[],_=>trivial
 |f::_,h=>⟨f.sub h.1 hs,yw.sub hs h.2⟩
theorem yw.keep{S:Nat->Prop}{w w':World}(k:yq S w w'):∀{Γ:List MF},(∀m∈Γ,∀i,m.blk i->w'.heap[i]? =w.heap[i]?)->yw S Γ w->yw S Γ w'
 |[],_,_=>trivial
 |f::_,hb,h=>⟨f.keep h.1 k<|hb f<|FS,yw.keep k (fun m hm=>hb m<|UV _ hm) h.2⟩
theorem yw.lt{S:Nat->Prop}{w:World}:∀{Γ:List MF},yw S Γ w->∀m∈Γ,∀i,m.blk i->i<w.heap.size
 |_::_,h,m,hm,i,hi=>by
  rcases xac.1 hm with rfl|hm
  ·exact m.lt h.1 i hi
  ·exact yw.lt h.2 m hm i hi
def X2:List MF->Prop
 |[]=>True
 |m::r=>(∀k,m.blk k->∀m'∈r,¬m'.blk k)/\X2 r
def St(we:World)(Se:Nat->Prop)(ms:List MF)(Γ:List FF)(w:World):Prop:=
 QA we w/\(∀k,we.heap.size<=k->Se k)/\X2 ms/\∃S:Nat->Prop,(∀k,S k->Se k)/\(∀k,w.heap.size<=k->S k)/\(∀m∈ms,∀k,m.blk k->¬S k/\we.heap.size<=k)/\
  yw S ms w/\zA S Γ w
section
variable{we:World}{Se:Nat->Prop}{ms:List MF}{Γ Δ:List FF}{w w':World}
theorem St.ext(h:St we Se ms Γ w)(x:QA w w'):St we Se ms Γ w':=by
 obtain⟨h1,h2,h3,S,h4,h5,h6,h7,h8⟩:=h
 exact⟨h1.trans x,h2,h3,S,h4,fun k hk=>h5 k<|xam x.size hk,h6,
  yw.keep x.to (fun m hm i hi=>x.block i (yw.lt h7 m hm i hi) trivial) h7,zA.keep x.to h8⟩
theorem St.step(h:St we Se ms Γ w)(x:QA w w')(n:∀S:Nat->Prop,(∀k,w.heap.size<=k->S k)->zA S Γ w->zA S Δ w'):St we Se ms Δ w':=by
 obtain⟨h1,h2,h3,S,h4,h5,h6,h7,h8⟩:=h
 exact⟨h1.trans x,h2,h3,S,h4,fun k hk=>h5 k<|xam x.size hk,h6,
  yw.keep x.to (fun m hm i hi=>x.block i (yw.lt h7 m hm i hi) trivial) h7,n S h5 h8⟩
theorem St.weak(h:St we Se ms Γ w)(n:∀(S:Nat->Prop) (w:World),zA S Γ w->zA S Δ w):St we Se ms Δ w:=
 h.step (yq.refl _ _) fun S _=>n S w
theorem St.ex(h:St we Se ms Γ w):∃S:Nat->Prop,(∀k,w.heap.size<=k->S k)/\zA S Γ w:=
 let⟨_,_,_,S,_,h5,_,_,h8⟩:=h;⟨S,h5,h8⟩
theorem BX:∀{ms:List MF} (i:Nat) (m':MF),X2 ms->(∀m,ms[i]? =some m->m'.blk=m.blk)->X2 (ms.set i m')
 |[],_,_,h,_=>by simpa using h
 |m::r,0,m',h,hb=>by
  have:=hb m rfl;exact⟨fun k hk=>h.1 k (by rw[<-this];exact hk),h.2⟩
 |m::r,i+1,m',h,hb=>by
  refine⟨fun k hk m2 ha=> ?_,BX i m' h.2<|fun m hm=>hb m<|by simpa using hm⟩;obtain⟨j,hj,rfl⟩:=xcJ ha;rw[xfE];rw[xcK]at hj;split
  ·rename_i e;subst e;rw[hb r[i]<|by simp[hj]];exact h.1 k hk _<|xbn _
  ·exact h.1 k hk _<|xbn _
theorem yw.get{S:Nat->Prop}:∀{ms:List MF}{i:Nat}{m:MF},yw S ms w->ms[i]? =some m->m.p S w
 |_::_,0,_,h,e=>by simp only[xbE,xaz]at e;exact e▸h.1
 |_::_,_+1,_,h,e=>yw.get h.2<|by simpa using e
theorem Uj:∀{ms:List MF}{i:Nat}{m:MF},X2 ms->ms[i]? =some m->∀k,m.blk k->∀(j:Nat) (m':MF),j≠i->ms[j]? =some m'->¬m'.blk k
 |m0::r,0,m,h,e,k,hk,j,m',hj,ha=>by
  simp only[xbE,xaz]at e;subst e;obtain⟨j,rfl⟩:∃j',j=j'+1:=⟨j-1,by lia⟩;exact h.1 k hk m'<|xbx<|by simpa using ha
 |m0::r,i+1,m,h,e,k,hk,0,m',hj,ha=>by
  simp only[xbE,xaz]at ha;subst ha;exact fun hc=>h.1 k hc m (xbx<|by simpa using e) hk
 |m0::r,i+1,m,h,e,k,hk,j+1,m',hj,ha=>
  Uj h.2 (by simpa using e) k hk j m' (by lia) (by simpa using ha)
theorem IG{S:Nat->Prop}{b:Nat}(x:yq (fun k=>k≠b) w w'):∀{ms:List MF} (i:Nat) (m':MF),(∀k,S k->k≠b)->m'.p S w'->
 (∀(j:Nat) (m:MF),j≠i->ms[j]? =some m->¬m.blk b)->yw S ms w->yw S (ms.set i m') w'
 |[],_,_,_,_,_,_=>trivial
 |m::r,0,m',hs,hm,ho,h=>by
  refine⟨hm,yw.keep (x.weak fun k _ hk=>hs k hk) (fun m2 ha k hk=> ?_) h.2⟩;obtain⟨j,hj,rfl⟩:=xcJ ha;exact x.block k (yw.lt h.2 _ (xbn _) k hk)<|fun e=>ho (j+1) r[j] (by lia) (by simp[hj])<|e▸hk
 |m::r,i+1,m',hs,hm,ho,h=>by
  refine⟨m.keep h.1 (x.weak fun k _ hk=>hs k hk)<|fun k hk=>x.block k (m.lt h.1 k hk)<|fun e=>ho 0 m (by lia) rfl<|e▸hk,?_⟩;exact IG x i m' hs hm (fun j m2 hj ha=>ho (j+1) m2 (by lia)<|by simpa using ha) h.2
theorem St.write{i:Nat}{m m':MF}{b:Nat}(h:St we Se ms Γ w)(hi:ms[i]? =some m)(hb:m.blk=fun k=> @some Nat b=some k)(hd:m'.blk=fun k=> @some Nat b=some k)(x:yq (fun k=>k≠b) w w')
 (n:∀S:Nat->Prop,(∀k,S k->k≠b)->m.p S w->zA S Γ w->m'.p S w'):St we Se (ms.set i m') Γ w':=by
 obtain⟨h1,h2,h3,S,h4,h5,h6,h7,h8⟩:=h;have ha:m.blk b:=by rw[hb]
 have hS:∀k,S k->k≠b:=fun k hk e=>(h6 m (xbx hi) b ha).1<|e▸hk;refine⟨h1.behind x (fun k hk e=>by have:=(h6 m (xbx hi) b ha).2;lia),h2,BX i m' h3<|fun m2 h2=> ?_,S,h4,fun k hk=>h5 k<|xam x.size hk,?_,?_,?_⟩
 ·rw[hi]at h2;cases h2;rw[hb,hd]
 ·intro m2 hc k hk;obtain⟨j,hj,rfl⟩:=xcJ hc;rw[xfE]at hk;rw[xcK]at hj;split at hk
  ·rw[hd]at hk;cases hk;exact h6 m (xbx hi) b ha
  ·exact h6 _ (xbn hj) k hk
 ·exact IG x i m' hS (n S hS (yw.get h7 hi) h8) (fun j m2 hj hc=>Uj h3 hi b ha j m2 hj hc) h7
 ·exact zA.keep (x.weak fun k _ hk=>hS k hk) h8
theorem St.fresh{m:MF}(h:St we Se ms Γ w)(x:QA w w')(hb:m.blk=fun k=>some w.heap.size=some k)(hd:w.heap.size<w'.heap.size)
 (n:∀S:Nat->Prop,(∀k,w.heap.size<=k->S k)->zA S Γ w->m.p (fun k=>S k/\k≠w.heap.size) w'):St we Se (m::ms) Γ w':=by
 obtain⟨h1,h2,h3,S,h4,h5,h6,h7,h8⟩:=h;have ha:∀k,k<w.heap.size->S k->S k/\k≠w.heap.size:=fun k hk hs=>⟨hs,by lia⟩;refine⟨h1.trans x,h2,⟨fun k hk m' hm' hc=> ?_,h3⟩,fun k=>S k/\k≠w.heap.size,fun k hk=>h4 k hk.1,fun k hk=>⟨h5 k (by lia),by lia⟩,?_,⟨n S h5 h8,?_⟩,?_⟩
 ·rw[hb]at hk;cases hk;have:=yw.lt h7 m' hm' _ hc;lia
 ·intro m' hm' k hk;rcases xac.1 hm' with rfl|hm'
  ·rw[hb]at hk;cases hk;exact⟨fun hc=>hc.2 rfl,h1.size⟩
  ·exact⟨fun hc=>(h6 m' hm' k hk).1 hc.1,(h6 m' hm' k hk).2⟩
 ·exact yw.keep x.to (fun m' hm' i hi=>x.block i (yw.lt h7 m' hm' i hi) trivial)<|yw.sub ha h7
 ·exact zA.keep x.to<|zA.sub ha h8
theorem VJ:∀{ms:List MF} (i:Nat),X2 ms->X2 (ms.eraseIdx i)
 |[],_,h=>by simpa using h
 |_::_,0,h=>h.2
 |m::r,i+1,h=>⟨fun k hk m' ha=>h.1 k hk m'<|xdx ha,VJ i h.2⟩
theorem Jj{S:Nat->Prop}:∀{ms:List MF} (i:Nat),yw S ms w->yw S (ms.eraseIdx i) w
 |[],_,h=>by simpa using h
 |_::_,0,h=>h.2
 |_::_,i+1,h=>⟨h.1,Jj i h.2⟩
theorem St.freeze{i:Nat}{m:MF}{F:FF}(h:St we Se ms Γ w)(hi:ms[i]? =some m)
 (n:∀S S':Nat->Prop,(∀k,S k->S' k)->(∀k,m.blk k->S' k)->m.p S w->F.p S' w):St we Se (ms.eraseIdx i) (F::Γ) w:=by
 obtain⟨h1,h2,h3,S,h4,h5,h6,h7,h8⟩:=h;have hm:=xbx hi;refine⟨h1,h2,VJ i h3,fun k=>S k\/m.blk k,?_,fun k hk=> .inl<|h5 k hk,?_,yw.sub (fun k _ hk=> .inl hk)<|Jj i h7,n S _ (fun k hk=> .inl hk) (fun k hk=> .inr hk)<|yw.get h7 hi,zA.sub (fun k _ hk=> .inl hk) h8⟩
 ·rintro k (hk|hk)
  ·exact h4 k hk
  ·exact h2 k (h6 m hm k hk).2
 ·intro m' ha k hk;refine⟨?_,(h6 m' (xdx ha) k hk).2⟩;rintro(hc|hc)
  ·exact(h6 m' (xdx ha) k hk).1 hc
  ·obtain⟨j,hj,hb⟩:=List.mem_eraseIdx_iff_getElem?.1 ha;exact Uj h3 hi k hc j m' hj hb hk
theorem St.drop{i:Nat}(h:St we Se ms Γ w):St we Se (ms.eraseIdx i) Γ w:=by
 obtain⟨h1,h2,h3,S,h4,h5,h6,h7,h8⟩:=h;exact⟨h1,h2,VJ i h3,S,h4,h5,fun m' ha=>h6 m'<|xdx ha,Jj i h7,h8⟩
theorem St.nil(h:zA Se Γ we)(ha:∀k,we.heap.size<=k->Se k):St we Se [] Γ we:=
 ⟨yq.refl _ _,ha,trivial,Se,fun _ h=>h,ha,fun _ h=>absurd h IR,trivial,h⟩
end
abbrev yN:=Nat->Value
def L:List (Nat×Value)->yN->yN
 |[],r,t=>r t
 |(k,v)::l,r,t=>bif xap t k then v else L l r t
def put(env:yN):Option Tmp->Value->yN
 |some d,v=>L [(d,v)] env
 |none,_=>env
def yr(a:Act):yN:=fun t=>a.tmps.getD t undef
def ev(env:yN):Operand->Value
 |.tmp t=>env t
 |.const v=>v
 |.global g=> .pointer<|some ⟨g,0,none⟩
 |.func f=> .func (.func f) #[] #[]
def zaO(env:yN):List (Nat×Value)->List Value
 |[]=>[]
 |(k,_)::l=>env k::zaO env l
def Gk:List (Nat×Value)->List Value
 |[]=>[]
 |(_,v)::l=>v::Gk l
def VW(env:yN)(l:List (Nat×Value)):Prop:=zaO env l=Gk l
theorem p9{env:yN}{k:Nat}{v:Value}{l:List (Nat×Value)}(h:env k=v)(h2:VW env l):VW env ((k,v)::l):=by
 show env k::zaO env l=v::Gk l;rw[h,show zaO env l=Gk l from h2]
theorem fZ{env:yN}{k:Nat}{v:Value}{l:List (Nat×Value)}(h:VW env ((k,v)::l)):env k=v/\VW env l:=by
 have h1:env k::zaO env l=v::Gk l:=h;exact List.cons.inj h1
theorem JA{env:yN}:∀{live:List (Nat×Value)},VW env live->L live env=env
 |[],_=>rfl
 |(k,v)::l,h=>by
  funext t;have ih:=congrFun (JA (fZ h).2) t;simp only[L];cases hb:xap t k
  ·simpa using ih
  ·simp only[cond_true];rw[xcL hb];exact(fZ h).1.symm
theorem aE(a:Act):a.eval=ev (yr a):=by funext x;cases x<;>rfl
theorem Yu{a:Act}{d:Option Tmp}{v:Value}(h:∀t,d=some t->t<a.tmps.size):yr (a.put d v)=put (yr a) d v:=by
 cases d with
 |none=>rfl
 |some d=>
  funext t;have hd:=h d rfl;simp only[yr,Act.put,put,L,xbo,Array.getElem?_setIfInBounds];cases hb:xap t d
  ·have:d≠t:=fun e=>by subst e;simp at hb
   simp[this]
  ·rw[xcL hb];simp[hd]
theorem QQ(a:Act)(d:Option Tmp)(v:Value):(a.put d v).tmps.size=a.tmps.size:=by cases d<;>simp[Act.put]
theorem YC(a:Act)(d:Option Tmp)(v:Value):(a.put d v).defers=a.defers:=by cases d<;>rfl
abbrev Qs:=Exit->yN->World->Prop
structure Nd where
 n:Nat
 ds:List Deferred
 rd:Option Nat
abbrev Nd.of(n:Nat):Nd:=⟨n,[],none⟩
abbrev Nd.F(N:Nd):Fence:={xfV with round:=N.rd}
def P8(N:Nd)(Q:Qs):Exit->Act->World->Prop:=fun e a w=>a.tmps.size=N.n/\a.defers=N.ds/\Q e (yr a) w
def Wp(P:Program)(N:Nd)(c:Code)(Q:Qs)(env:yN)(w:World):Prop:=
 ∀a:Act,a.tmps.size=N.n->a.defers=N.ds->yr a=env->c.wpIn N.F 0 P (P8 N Q) a w
def zj9(K:yN->World->Prop)(Q:Qs):Qs
 |.normal,env,w=>K env w
 |e,env,w=>Q e env w
def T(P:Program)(N:Nd)(we:World)(Se:Nat->Prop)(ms:List MF)(Γ:List FF)(c:Code)(Q:Qs)(env:yN):Prop:=
 ∀w,St we Se ms Γ w->Wp P N c Q env w
section
variable{P:Program}{N:Nd}{we:World}{Se:Nat->Prop}{ms:List MF}{Γ:List FF}{Q:Qs}{env:yN}
theorem Xu{x y:Code}(h:T P N we Se ms Γ x (zj9 (Wp P N y Q) Q) env):T P N we Se ms Γ (.seq x y) Q env:=by
 intro w hw a h1 h2 h3;refine wpIn_seq<|wpIn_mono (h w hw a h1 h2 h3) ?_;intro e a' w' ⟨q1,q2,q3⟩;cases e<;>first|exact q3 a' q1 q2 rfl|exact⟨q1,q2,q3⟩
theorem CY(h:∀w,St we Se ms Γ w->Q .normal env w):T P N we Se ms Γ .skip Q env:=
 fun w hw _ h1 h2 h3=>wpIn_skip ⟨h1,h2,h3▸h w hw⟩
theorem N9(h:∀w,St we Se ms Γ w->Q .ret env w):T P N we Se ms Γ .ret Q env:=
 fun w hw _ h1 h2 h3=>wpIn_ret ⟨h1,h2,h3▸h w hw⟩
theorem VI{c:Operand}{x y:Code}(hc:ev env c=.bool true)(h:T P N we Se ms Γ x Q env):T P N we Se ms Γ (.cond c x y) Q env:=
 fun w hw a h1 h2 h3=>wpIn_cond_true (by rw[aE,h3];exact hc)<|h w hw a h1 h2 h3
theorem WK{c:Operand}{x y:Code}(hc:ev env c=.bool false)(h:T P N we Se ms Γ y Q env):T P N we Se ms Γ (.cond c x y) Q env:=
 fun w hw a h1 h2 h3=>wpIn_cond_false (by rw[aE,h3];exact hc)<|h w hw a h1 h2 h3
theorem zgK{c:Operand}{x y:Code}(b:Bool)(hc:ev env c=.bool b)(h:b=true->T P N we Se ms Γ x Q env)(h':b=false->T P N we Se ms Γ y Q env):T P N we Se ms Γ (.cond c x y) Q env:=by
 cases b
 ·exact WK hc<|h' rfl
 ·exact VI hc<|h rfl
structure Inv where
 ms:List MF
 Γ:List FF
 live:List (Nat×Value)
theorem Ly{F:Fence}{n:Nat}{c:Code}{Q:Exit->Act->World->Prop}{a:Act}{w:World}{G:Type}(I:G->Act->World->Prop)(μ:G->Nat)(g₀:G)(h₀:I g₀ a w)
 (round:∀g a w,I g a w->c.wpIn F n P (Exit.then (fun a' w'=>∃g',I g' a' w'/\μ g'<μ g) Q) a w):(Code.loop c).wpIn F n P Q a w:=by
 intro b k cs hd hb hr
 have key:∀n g a w,μ g=n->I g a w->
  ∃e a' w',Q e a' w'/\ArrivesIn (Machine.fenced P F) P (lone (b.atR a (.code c::.inLoop c::k)) cs w) b k cs e a' w':=by
  intro n
  induction n using xds with
  |_ n ih=>
   intro g a w hn hI;obtain⟨e,a₁,w₁,hq,ha⟩:=round g a w hI b (.inLoop c::k) cs hd hb hr
   cases e with
   |normal=>
    obtain⟨g₁,he,hf⟩:=hq;obtain⟨e₂,a₂,w₂,hg,hc⟩:=ih (μ g₁) (hn▸hf) g₁ a₁ w₁ rfl he;exact⟨e₂,a₂,w₂,hg,.of_steps (StepsIn.trans ha (.one (fenced_calm hb hr rfl) stepR_inLoop)) hc⟩
   |exit id=>exact⟨_,a₁,w₁,hq,.pass (x:=.inLoop c) rfl (fun _ _=> .inl<|by simp) ha⟩
   |goto l=>exact⟨_,a₁,w₁,hq,.pass (x:=.inLoop c) rfl (fun _ _=> .inl<|by simp) ha⟩
   |ret=>exact⟨_,a₁,w₁,hq,.pass (x:=.inLoop c) rfl (fun _ _=> .inl<|by simp) ha⟩
   |panic ch=>exact⟨_,a₁,w₁,hq,.pass (x:=.inLoop c) rfl (fun _ _=> .inl<|by simp) ha⟩
   |outgrown=>exact⟨_,a₁,w₁,hq,.pass (x:=.inLoop c) rfl (fun _ _=> .inl<|by simp) ha⟩
 obtain⟨e,a',w',hq,ha⟩:=key _ g₀ a w rfl h₀;exact⟨e,a',w',hq,.of_steps (.one (fenced_calm hb hr rfl) stepR_loop) ha⟩
end
def FnQ{U:Type}(Se:Nat->Prop)(w:World)(val:U->Value)(facts:U->List FF)(ok:U->Prop):Ending->World->Prop:=
 fun e w'=>∃u,e=.returned (val u)/\ok u/\QA w w'/\zA Se (facts u) w'
def Fn{U:Type}(P:Program)(f:FuncId)(args:Array Value)(Γ:List FF)(val:U->Value)(facts:U->List FF)(ok:U->Prop):Prop:=
 ∀w Se,(∀k,w.heap.size<=k->Se k)->zA Se Γ w->Calls P f args w (FnQ Se w val facts ok)
def zgU{U:Type}(P:Program)(fn:Func)(we:World)(Se:Nat->Prop)(val:U->Value)(facts:U->List FF)(ok:U->Prop):Qs
 |.ret,env,w|.normal,env,w=>∃u,(∀a:Act,yr a=env->(results fn a.tmps).run P w=.ok (val u) w)/\ok u/\QA we w/\zA Se (facts u) w
 |_,_,_=>False
theorem sA(args:Array Value)(n:Nat):yr ⟨args++xev n undef,[]⟩=fun t=>args.getD t undef:=by
 funext t;simp only[yr,xbo,Array.getElem?_append];split
 ·rfl
 ·rename_i h;rw[Array.getElem?_eq_none (xs:=args) (by lia),Array.getElem?_replicate];split<;>rfl
theorem c8:∀(l:List Value) (k:Nat) (env:yN),(∀j,env (k+j)=l.getD j undef)->VW env ((l.zipIdx k).map fun x=>(x.2,x.1))
 |[],_,_,_=>rfl
 |v::l,k,env,h=>p9 (by simpa using h 0)<|c8 l (k+1) env (fun j=>by have:=h<|j+1;simpa[xcR,xdD 1 j]using this)
theorem FE{U:Type}{P:Program}{f:FuncId}{args:List Value}{Γ:List FF}{val:U->Value}{facts:U->List FF}{ok:U->Prop}{fn:Func}{c:Code}
 (hf:P.funcs[f]? =some fn) (hb:fn.body=some c) (hn:xfU args.length fn.ntmps=true)
 (h:∀we Se rest,T P (Nd.of fn.ntmps) we Se [] Γ c (zgU P fn we Se val facts ok)<|L ((args.zipIdx 0).map fun x=>(x.2,x.1)) rest):Fn P f args.toArray Γ val facts ok:=by
 intro w Se ha hΓ;have hn:=xbM hn;refine calls_of_wp hf hb<|(wpIn_wide (n:=0)).1 ?_;have hc:VW (yr ⟨args.toArray++xev (fn.ntmps-args.toArray.size) undef,[]⟩) ((args.zipIdx 0).map fun x=>(x.2,x.1)):=by
  refine c8 args 0 _ fun j=> ?_;rw[sA];simp[xbo,H1]
 refine wpIn_mono (h w Se _ w (St.nil hΓ ha) _ (by simp;lia) rfl (JA hc).symm) ?_;intro e a' w' ⟨q1,q2,q3⟩;cases e<;>simp only[zgU]at q3
 ·obtain⟨u,r1,r2,r3,r4⟩:=q3;exact⟨q2,_,r1 a' rfl,u,rfl,r2,r3,r4⟩
 ·obtain⟨u,r1,r2,r3,r4⟩:=q3;exact⟨q2,_,r1 a' rfl,u,rfl,r2,r3,r4⟩
section
variable{P:Program}{we:World}{Se:Nat->Prop}{ms:List MF}{Γ:List FF}{env:yN}{U:Type}{val:U->Value}{facts:U->List FF}{ok:U->Prop}{fn:Func}
theorem St.out{Δ:List FF}{w:World}(h:St we Se ms Γ w)(n:∀(S:Nat->Prop) (w:World),zA S Γ w->zA S Δ w):QA we w/\zA Se Δ w:=by
 obtain⟨h1,h2,h3,S,h4,h5,h6,h7,h8⟩:=h;exact⟨h1,zA.sub (fun k _=>h4 k)<|n S w h8⟩
theorem ze0{t:Tmp}(u:U)(hr:fn.results= #[.tmp t])(hv:env t=val u)(hb:ok u)(n:∀(S:Nat->Prop) (w:World),zA S Γ w->zA S (facts u) w):
 ∀w,St we Se ms Γ w->zgU P fn we Se val facts ok .ret env w:=by
 intro w hw;refine⟨u,fun a ha=> ?_,hb,hw.out n⟩;rw[<-hv,<-ha];simp[results,hr,yr]
def rI(tmps:Array Value):ResultVar->Sem Value
 |.tmp t=>pure<|tmps.getD t undef
 |.cell a t=>do loadVar t (<-asAddr (tmps.getD a undef))
end
end
section
structure zZ(α:Type)where
 n:Nat
 agg:Bool
 n1:agg=false->n=1
 p:(Nat->Prop)->α->List Value->World->Prop
 len:∀{S x cs w},p S x cs w->cs.length=n
 one:∀{S x cs w},p S x cs w->∀c∈cs,c.oneCell'=true
 keep:∀{S x cs w w'},p S x cs w->yq S w w'->p S x cs w'
 sub:∀{S S':Nat->Prop}{x cs w},p S x cs w->(∀k,k<w.heap.size->S k->S' k)->p S' x cs w
def zZ.val{α:Type}(e:zZ α)(cs:List Value):Value:=if e.agg then .agg cs.toArray else cs.headD undef
theorem zZ.val_cells{α:Type}(e:zZ α){S:Nat->Prop}{x:α}{cs:List Value}{w:World}(h:e.p S x cs w):(e.val cs).cells.toList=cs:=by
 unfold zZ.val;cases ha:e.agg
 ·have hl:=e.len h;rw[e.n1 ha]at hl;obtain⟨c,rfl⟩:=xfk.1 hl;have:=e.one h c (by simp);cases c<;>simp_all [xfK,Value.oneCell']
 ·simp[xfK]
def fV{α:Type}(e:zZ α)(x:α)(v:Value):FF where
 p S w:=∃cs,v=e.val cs/\e.p S x cs w
 keep:=fun⟨cs,h1,h2⟩ k=>⟨cs,h1,e.keep h2 k⟩
 sub:=fun⟨cs,h1,h2⟩ k=>⟨cs,h1,e.sub h2 k⟩
def eI:zZ Int where
 n:=1
 agg:=false
 n1 _:=rfl
 p _ x cs _:=cs=[.int .i64 x]/\ -9223372036854775808<=x/\x<=9223372036854775807
 len h:=by simp[h.1]
 one h:=by intro c hc;rw[h.1]at hc;simp at hc;subst hc;rfl
 keep h _:=h
 sub h _:=h
def eU:zZ Nat where
 n:=1
 agg:=false
 n1 _:=rfl
 p _ x cs _:=cs=[.int .u64 (x:Int)]/\x<18446744073709551616
 len h:=by simp[h.1]
 one h:=by intro c hc;rw[h.1]at hc;simp at hc;subst hc;rfl
 keep h _:=h
 sub h _:=h
def IA:zZ Bool where
 n:=1
 agg:=false
 n1 _:=rfl
 p _ x cs _:=cs=[.bool x]
 len h:=by simp[h]
 one h:=by intro c hc;rw[h]at hc;simp at hc;subst hc;rfl
 keep h _:=h
 sub h _:=h
theorem ZZ{α:Type}{e:zZ α}{S:Nat->Prop}{x:α}{v:Value}{w:World}(h:(fV e x v).p S w):e.p S x v.cells.toList w:=by
 obtain⟨cs,rfl,h⟩:=h;rw[e.val_cells h];exact h
theorem zkx{α:Type}{e:zZ α}{S:Nat->Prop}{x:α}{cs:List Value}{w:World}(h:e.p S x cs w):(fV e x<|e.val cs).p S w:=⟨cs,rfl,h⟩
theorem zhx{x:Int}{v:Value}{S:Nat->Prop}{w:World}(h:(fV eI x v).p S w):v=.int .i64 x/\ -9223372036854775808<=x/\x<=9223372036854775807:=by
 obtain⟨cs,rfl,rfl,h⟩:=h;exact⟨rfl,h⟩
theorem zcE{x:Nat}{v:Value}{S:Nat->Prop}{w:World}(h:(fV eU x v).p S w):v=.int .u64 (x:Int)/\x<18446744073709551616:=by
 obtain⟨cs,rfl,rfl,h⟩:=h;exact⟨rfl,h⟩
theorem eR{x:Bool}{v:Value}{S:Nat->Prop}{w:World}(h:(fV IA x v).p S w):v=.bool x:=by
 obtain⟨cs,rfl,rfl⟩:=h;rfl
theorem xM{x:Int}{S:Nat->Prop}{w:World}(h: -9223372036854775808<=x/\x<=9223372036854775807):(fV eI x (.int .i64 x)).p S w:=⟨_,rfl,rfl,h⟩
theorem qN{x:Nat}{S:Nat->Prop}{w:World}(h:x<18446744073709551616):(fV eU x (.int .u64 (x:Int))).p S w:=⟨_,rfl,rfl,h⟩
theorem n4{x:Bool}{S:Nat->Prop}{w:World}:(fV IA x (.bool x)).p S w:=⟨_,rfl,rfl⟩
def yu{α:Type}(e:zZ α)(S:Nat->Prop):List α->List Value->World->Prop
 |[],cs,_=>cs=[]
 |x::xs,cs,w=>∃c r,cs=c++r/\e.p S x c w/\yu e S xs r w
section
variable{α:Type}{e:zZ α}{S S':Nat->Prop}{w w':World}
theorem yu.len:∀{xs:List α}{cs:List Value},yu e S xs cs w->cs.length=xs.length*e.n
 |[],_,h=>by simp[show _=[]from h]
 |x::xs,_,⟨c,r,h,hc,hr⟩=>by rw[h,xax,e.len hc,yu.len hr,xaq,xaV,xdD];simp
theorem yu.one:∀{xs:List α}{cs:List Value},yu e S xs cs w->∀c∈cs,c.oneCell'=true
 |[],_,h=>by simp[show _=[]from h]
 |x::xs,_,⟨c,r,h,hc,hr⟩=>by
  intro d hd;rw[h]at hd;rcases Nm.1 hd with hd|hd
  ·exact e.one hc d hd
  ·exact yu.one hr d hd
theorem yu.keep(k:yq S w w'):∀{xs:List α}{cs:List Value},yu e S xs cs w->yu e S xs cs w'
 |[],_,h=>h
 |_::_,_,⟨c,r,h,hc,hr⟩=>⟨c,r,h,e.keep hc k,yu.keep k hr⟩
theorem yu.sub(k:∀k,k<w.heap.size->S k->S' k):∀{xs:List α}{cs:List Value},yu e S xs cs w->yu e S' xs cs w
 |[],_,h=>h
 |_::_,_,⟨c,r,h,hc,hr⟩=>⟨c,r,h,e.sub hc k,yu.sub k hr⟩
theorem yu.append:∀{xs ys:List α}{cs ds:List Value},yu e S xs cs w->yu e S ys ds w->yu e S (xs++ys) (cs++ds) w
 |[],_,_,_,h,k=>by rw[show _=[]from h];exact k
 |_::_,_,_,_,⟨c,r,h,hc,hr⟩,k=>⟨c,r++_,by rw[h,xaj],hc,yu.append hr k⟩
theorem yu.drop:∀{xs:List α}{cs:List Value} (k:Nat),yu e S xs cs w->yu e S (xs.drop k) (cs.drop<|k*e.n) w
 |[],cs,k,h=>by simp[show cs=[]from h];exact rfl
 |x::xs,cs,0,h=>by simpa using h
 |x::xs,_,k+1,⟨c,r,h,hc,hr⟩=>by
  have:=yu.drop k hr;rw[List.drop_succ_cons,h,xaV,xcm,xdD,<-List.drop_drop];rwa[xfb<|e.len hc]
theorem yu.take:∀{xs:List α}{cs:List Value} (k:Nat),yu e S xs cs w->yu e S (xs.take k) (cs.take<|k*e.n) w
 |[],cs,k,h=>by simp[show cs=[]from h];exact rfl
 |x::xs,cs,0,h=>by simp;exact rfl
 |x::xs,_,k+1,⟨c,r,h,hc,hr⟩=>by
  refine⟨c,r.take<|k*e.n,?_,hc,yu.take k hr⟩;rw[h,xaV,xcm,xdD,List.take_append,e.len hc,xaQ<|by rw[e.len hc];lia];congr 2;lia
theorem yu.get{xs:List α}{cs:List Value}{i:Nat}{x:α}(h:yu e S xs cs w)(hx:xs[i]? =some x):
 ∃c,e.p S x c w/\∀j,j<e.n->cs[i*e.n+j]? =c[j]? :=by
 have hd:=h.drop i;obtain⟨hi,rfl⟩:=xat.1 hx;rw[xcx hi]at hd;obtain⟨c,r,h1,h2,h3⟩:=hd;refine⟨c,h2,fun j hj=> ?_⟩;rw[<-xet,h1,xbq<|by rw[e.len h2];exact hj]
theorem yu.replicate{x:α}{c:List Value}(h:e.p S x c w):∀n,yu e S (xaf n x) (xaf n c).flatten w
 |0=>rfl
 |n+1=>⟨c,_,by simp[xeh],h,yu.replicate h n⟩
end
def At(w:World)(b o:Nat)(cs:List Value):Prop:=b<w.heap.size/\∀j v,cs[j]? =some v->w.cell? ⟨b,o+j,none⟩=some v
theorem At.keep{S:Nat->Prop}{w w':World}{b o:Nat}{cs:List Value}(h:At w b o cs)(hS:S b)(k:yq S w w'):At w' b o cs:=
 ⟨xan h.1 k.size,fun j v hv=>by rw[World.cell?_of_block (a:=⟨b,o+j,none⟩)<|k.block b h.1 hS];exact h.2 j v hv⟩
theorem At.drop{w:World}{b o:Nat}{cs:List Value}(h:At w b o cs)(k:Nat):At w b (o+k) (cs.drop k):=
 ⟨h.1,fun j v hv=>by rw[xet]at hv;have:=h.2 _ v hv;rwa[xcR]⟩
theorem At.take{w:World}{b o:Nat}{cs:List Value}(h:At w b o cs)(k:Nat):At w b o (cs.take k):=
 ⟨h.1,fun j v hv=>h.2 j v<|by rw[xcp]at hv;split at hv<;>simp_all⟩
theorem At.row{w:World}{b:Nat}{cs:Array Value}{t:TypeId}{fr:Nat×Nat}(h:w.heap[b]? =some (.cells cs t fr)):At w b 0 cs.toList:=
 ⟨(xbj.1 h).1,fun j v hv=>by rw[cell_of_row w b (0+j) cs t fr h,xaN];simpa using hv⟩
def Sw{α:Type}(e:zZ α)(S:Nat->Prop)(xs:List α)(v:Value)(w:World):Prop:=
 ∃ao cap,v=.slice ao xs.length cap/\xs.length<=cap/\cap<=maxLen/\(xs=[]\/∃b o cs,ao=some ⟨b,o,none⟩/\S b/\At w b o cs/\yu e S xs cs w)
def eS{α:Type}(e:zZ α):zZ (List α)where
 n:=1
 agg:=false
 n1 _:=rfl
 p S xs cs w:=∃v,cs=[v]/\Sw e S xs v w
 len:=fun⟨v,h,_⟩=>by simp[h]
 one:=fun⟨v,h,⟨ao,cap,hv,_⟩⟩=>by intro c hc;rw[h]at hc;simp at hc;subst hc;rw[hv];rfl
 keep:=fun⟨v,h,⟨ao,cap,h1,h2,h3,h4⟩⟩ k=>⟨v,h,ao,cap,h1,h2,h3,h4.imp id fun⟨b,o,cs,a1,a2,a3,a4⟩=>⟨b,o,cs,a1,a2,a3.keep a2 k,a4.keep k⟩⟩
 sub:=fun⟨v,h,⟨ao,cap,h1,h2,h3,h4⟩⟩ k=>⟨v,h,ao,cap,h1,h2,h3,h4.imp id fun⟨b,o,cs,a1,a2,a3,a4⟩=>⟨b,o,cs,a1,k b a3.1 a2,a3,a4.sub k⟩⟩
theorem xm{α:Type}{e:zZ α}{xs:List α}{v:Value}{S:Nat->Prop}{w:World}:(fV (eS e) xs v).p S w↔Sw e S xs v w:=
 ⟨fun⟨_,h1,v',h2,h3⟩=>by subst h2;rw[h1];exact h3,fun h=>⟨[v],rfl,v,rfl,h⟩⟩
def eP{α β:Type}(e:zZ α)(f:zZ β):zZ (α×β)where
 n:=e.n+f.n
 agg:=true
 n1 h:=by cases h
 p S x cs w:=∃c d,cs=c++d/\e.p S x.1 c w/\f.p S x.2 d w
 len:=fun⟨c,d,h,hc,hd⟩=>by rw[h,xax,e.len hc,f.len hd]
 one:=fun⟨c,d,h,hc,hd⟩ x hx=>by
  rw[h]at hx;rcases Nm.1 hx with hx|hx
  ·exact e.one hc x hx
  ·exact f.one hd x hx
 keep:=fun⟨c,d,h,hc,hd⟩ k=>⟨c,d,h,e.keep hc k,f.keep hd k⟩
 sub:=fun⟨c,d,h,hc,hd⟩ k=>⟨c,d,h,e.sub hc k,f.sub hd k⟩
def eA{α:Type}(k:Nat)(e:zZ α):zZ (List α)where
 n:=k*e.n
 agg:=true
 n1 h:=by cases h
 p S xs cs w:=xs.length=k/\yu e S xs cs w
 len:=fun⟨h,he⟩=>by rw[he.len,h]
 one:=fun⟨_,he⟩=>he.one
 keep:=fun⟨h,he⟩ k=>⟨h,he.keep k⟩
 sub:=fun⟨h,he⟩ k=>⟨h,he.sub k⟩
abbrev Zr:=Bool×List Nat
def fP{α:Type}(e:zZ α)(x:α)(v:Value):FF where
 p S w:=∃b o cs,v=.pointer (some ⟨b,o,none⟩)/\S b/\At w b o cs/\e.p S x cs w
 keep:=fun⟨b,o,cs,h1,h2,h3,h4⟩ k=>⟨b,o,cs,h1,h2,h3.keep h2 k,e.keep h4 k⟩
 sub:=fun⟨b,o,cs,h1,h2,h3,h4⟩ k=>⟨b,o,cs,h1,k b h3.1 h2,h3,e.sub h4 k⟩
structure nC(α:Type)where
 p:(Nat->Prop)->α->List Value->World->Prop
 keep:∀{S x cs w w'},p S x cs w->yq S w w'->p S x cs w'
 sub:∀{S S':Nat->Prop}{x cs w},p S x cs w->(∀k,k<w.heap.size->S k->S' k)->p S' x cs w
def zZ.c{α:Type}(e:zZ α):nC α:=⟨e.p,e.keep,e.sub⟩
def zka{α:Type}(e:zZ α):nC (List α):=⟨yu e,fun h k=>h.keep k,fun h k=>h.sub k⟩
def mB{α:Type}(e:nC α)(E:TypeId)(b:Nat)(x:α):MF where
 blk k:=some b=some k
 p S w:=∃cs:Array Value,w.heap[b]? =some (.cells cs E (0,0))/\e.p S x cs.toList w
 keep:=fun⟨cs,h1,h2⟩ k hb=>⟨cs,by rw[hb b rfl];exact h1,e.keep h2 k⟩
 sub:=fun⟨cs,h1,h2⟩ k=>⟨cs,h1,e.sub h2 k⟩
 lt:=fun⟨cs,h1,_⟩ k hk=>by cases hk;exact(xbj.1 h1).1
abbrev mR{α:Type}(e:zZ α)(E:TypeId)(b:Nat)(xs:List α):MF:=mB (zka e) E b xs
def mO{α:Type}(e:zZ α)(E:TypeId)(v:Value)(xs:List α):MF where
 blk k:=v.ownBlock=some k
 p S w:=∃cs,w.ownsRow 0 E e.n v xs.length cs/\yu e S xs cs w
 keep:=fun⟨cs,h1,h2⟩ k hb=>by
  refine⟨cs,⟨h1.1,?_⟩,h2.keep k⟩;rcases h1.2 with h|⟨g,cap,cur,hv,hbg,hg,r⟩
  ·exact .inl h
  ·exact .inr ⟨g,cap,cur,hv,hbg,by rw[hb g<|by rw[hv];rfl];exact hg,r⟩
 sub:=fun⟨cs,h1,h2⟩ k=>⟨cs,h1,h2.sub k⟩
 lt:=fun⟨cs,h1,_⟩ k hk=>(h1.lt k hk).2
section
variable{α:Type}{e:zZ α}{E:TypeId}{S S':Nat->Prop}{w:World}
theorem Sw.of_at{xs:List α}{b o n cap:Nat}{cs:List Value}(hS:S b)(ha:At w b o cs)(he:yu e S xs cs w)(hn:n=xs.length)(hc:xs.length<=cap)(hm:cap<=maxLen):
 Sw e S xs (.slice (some ⟨b,o,none⟩) n cap) w:=⟨_,cap,by rw[hn],hc,hm,.inr ⟨b,o,cs,rfl,hS,ha,he⟩⟩
theorem Sw.nil:Sw e S [] (.slice none 0 0) w:=⟨none,0,rfl,xab _,xah _,.inl rfl⟩
theorem zgH{x:α}{b:Nat}(hs:∀k,S k->S' k)(hb:S' b)(h:(mB e.c E b x).p S w):(fP e x (.pointer<|some ⟨b,0,none⟩)).p S' w:=by
 obtain⟨cs,h1,h2⟩:=h;exact⟨b,0,cs.toList,rfl,hb,At.row h1,e.sub h2 fun k _=>hs k⟩
theorem tS{xs:List α}{v:Value}(hs:∀k,S k->S' k)(hb:∀k,v.ownBlock=some k->S' k)(h:(mO e E v xs).p S w):(fV (eS e) xs v).p S' w:=by
 obtain⟨cs,h1,h2⟩:=h;refine xm.2 ?_;rcases h1.2 with⟨rfl,h0⟩|⟨g,cap,cur,rfl,hd,hg,ha,hm,he,hc⟩
 ·have:xs=[]:=xbt h0;subst this;exact Sw.nil
 ·refine Sw.of_at (hb g rfl) ((At.row hg).take<|xs.length*e.n) ?_ rfl ha hm;rw[hc];exact h2.sub fun k _=>hs k
end
end
section
def kv(P:Program)(o:Oper)(env:yN)(w:World)(K:Value->World->Prop):Prop:=
 match(execOp (ev env) o).run P w with
 |.ok (.value v) w'=>K v w'
 |.ok .skip w'=>K undef w'
 |.ok (.enter f args) w'=>Calls P f args w' (fun e w''=>∃v,e=.returned v/\K v w'')
 |.ok (.round l f ts a c) w'=>RoundIn xfV 0 P l f ts a c w' (fun e w''=>∃v,e=.returned v/\K v w'')
 |_=>False
theorem zht{ro:Option Nat}{ρ:Operand->Value}{o:Oper}{P:Program}{w:World}(h:∀d w',(execOp ρ o).run P w≠ .ok (.defer d) w')(h2:∀r w',(execOp ρ o).run P w≠ .halt r w'):(o.semAt ro ρ).run P w=(execOp ρ o).run P w:=by
 by_cases hd:∃c,o.op=.defer c
 ·obtain⟨c,hc⟩:=hd;exfalso
  cases hr:(execOp ρ o).run P w with
  |halt r w'=>exact h2 r w' hr
  |ok x w'=>
   unfold execOp at hr;rw[hc]at hr;simp only[xas]at hr
   cases h3:(resolve ρ c o.type).run P w with
   |halt r w1=>rw[h3]at hr;simp[Result.andThen]at hr
   |ok d w1=>
    rw[h3]at hr;simp only[xad,xaG]at hr;cases hr;refine h d w' ?_;unfold execOp;rw[hc];simp only[xas,h3,xad,xaG]
 ·rw[Oper.semAt_eq _ _ _ fun c hc=>hd ⟨c,hc⟩]
theorem kv.wp{P:Program}{o:Oper}{a:Act}{w:World}{K:Value->World->Prop}{K':Act->World->Prop}{Q:Exit->Act->World->Prop}{N:Nd}
 (h:kv P o (yr a) w K) (hk:∀v w',K v w'->K' (a.put o.dst v) w'):o.wpIn N.F 0 P a w K' Q:=by
 unfold kv at h;unfold Oper.wpIn;refine⟨fun _ _=>trivial,?_⟩;have hs:=zht (ro:=N.rd) (ρ:=ev<|yr a) (o:=o) (P:=P) (w:=w) (fun d w' e=>by rw[e]at h;exact h) (fun r w' e=>by rw[e]at h;exact h);rw[aE];show Oper.uponIn N.F 0 P o a K' Q ((o.semAt N.rd<|ev<|yr a).run P w);rw[hs];generalize(execOp (ev<|yr a) o).run P w=r at*
 cases r with
 |ok n w'=>
  cases n<;>simp only at h<;>simp only[Oper.uponIn]
  case value v=>exact hk _ _ h
  case skip=>exact hk _ _ h
  case enter f args=>exact⟨fun e=>by simp[Nd.F,xfV]at e,CallsIn.mono (callsIn_wide.2 h) fun e w'' ⟨v,he,hv⟩=>by subst he;exact hk _ _ hv⟩
  case round l f ts s c=>exact⟨fun e=>by simp[Nd.F,xfV]at e,RoundIn.mono h fun e w'' ⟨v,he,hv⟩=>by subst he;exact hk _ _ hv⟩
 |halt x w'=>exact h.elim
theorem kv.mono{P:Program}{o:Oper}{env:yN}{w:World}{K K':Value->World->Prop}(h:kv P o env w K)(hk:∀v w',K v w'->K' v w'):kv P o env w K':=by
 unfold kv at*
 generalize(execOp (ev env) o).run P w=r at*
 cases r with
 |ok n w'=>
  cases n<;>simp only at h⊢
  case value v=>exact hk _ _ h
  case skip=>exact hk _ _ h
  case enter f args=>exact h.mono fun e w'' ⟨v,he,hv⟩=>⟨v,he,hk _ _ hv⟩
  case round l f ts s c=>exact h.mono fun e w'' ⟨v,he,hv⟩=>⟨v,he,hk _ _ hv⟩
 |halt x w'=>exact h.elim
theorem kv.of_value{P:Program}{o:Oper}{env:yN}{w w':World}{v:Value}{K:Value->World->Prop}(h:(execOp (ev env) o).run P w=.ok (.value v) w')(hk:K v w'):kv P o env w K:=by
 unfold kv;rw[h];exact hk
theorem kv.of_skip{P:Program}{o:Oper}{env:yN}{w w':World}{K:Value->World->Prop}(h:(execOp (ev env) o).run P w=.ok .skip w')(hk:K undef w'):kv P o env w K:=by
 unfold kv;rw[h];exact hk
def gd(ops:Array Oper)(env:yN)(j:Nat):Option Bool:=
 match(ops[j]?).bind (·.dst)with
 |some d=>match env d with
  |.bool b=>some b
  |_=>none
 |none=>none
def yF(ops:Array Oper)(env:yN)(o:Oper):Bool:=
 match o.guard with
 |none=>true
 |some (j,want)=>gd ops env j==some want
theorem MG(ops:Array Oper)(a:Act)(j:Nat):yielded ops a.tmps j=gd ops (yr a) j:=by
 unfold yielded gd yr
 cases(ops[j]?).bind (·.dst)with
 |none=>rfl
 |some d=>
  simp only[Option.bind_some,xbo]
  cases a.tmps[d]? with
  |none=>rfl
  |some v=>cases v<;>rfl
theorem WX(ops:Array Oper)(a:Act)(o:Oper):Region.wanted o (yielded ops a.tmps)=yF ops (yr a) o:=by grind [Region.wanted,yF,MG]
def qw(N:Nat):Option Tmp->Bool
 |some d=>xdc d N
 |none=>true
theorem QO{N:Nat}{d:Option Tmp}(h:qw N d=true):∀t,d=some t->t<N:=by
 rintro t rfl;simpa[qw]using h
def WpL(P:Program)(N:Nd)(ops:Array Oper)(l:List Oper)(Q:Qs)(env:yN)(w:World):Prop:=
 ∀a:Act,a.tmps.size=N.n->a.defers=N.ds->yr a=env->wpListIn N.F 0 P ops (P8 N Q) l a w
def TL(P:Program)(N:Nd)(we:World)(Se:Nat->Prop)(ms:List MF)(Γ:List FF)(ops:Array Oper)(l:List Oper)(Q:Qs)(env:yN):Prop:=
 ∀w,St we Se ms Γ w->WpL P N ops l Q env w
def Eu{U:Type}(P:Program)(o:Oper)(env:yN)(ms:List MF)(Γ:List FF)(val:U->Value)(facts:U->List FF)(ok:U->Prop):Prop:=
 ∀w (S:Nat->Prop),(∀k,w.heap.size<=k->S k)->yw S ms w->zA S Γ w->kv P o env w (fun v w'=>∃u,v=val u/\ok u/\QA w w'/\zA S (facts u) w')
section
variable{P:Program}{N:Nd}{we:World}{Se:Nat->Prop}{ms:List MF}{Γ:List FF}{Q:Qs}{env:yN}{ops:Array Oper}{o:Oper}{rest:List Oper}
theorem wY{id:Nat}{l:List Oper}(h:TL P N we Se ms Γ l.toArray l Q env):T P N we Se ms Γ (.region id l.toArray false) Q env:=
 fun w hw a h1 h2 h3=>wpIn_region_lit<|h w hw a h1 h2 h3
theorem ja(h:∀w,St we Se ms Γ w->Q .normal env w):TL P N we Se ms Γ ops [] Q env:=
 fun w hw _ h1 h2 h3=>wpListIn_nil ⟨h1,h2,h3▸h w hw⟩
theorem SH(live:List (Nat×Value)){l:List Oper}(h:VW env live)(k:∀rest,TL P N we Se ms Γ ops l Q<|L live rest):TL P N we Se ms Γ ops l Q env:=by
 have:=k env;rwa[JA h]at this
theorem zkC{p:Prop}{l:List Oper}(hp:∀(S:Nat->Prop) (w:World),zA S Γ w->p)(k:p->TL P N we Se ms Γ ops l Q env):TL P N we Se ms Γ ops l Q env:=
 fun w hw=>let⟨S,_,h⟩:=hw.ex;k (hp S w h) w hw
theorem zbK{p:Prop}{c:Code}(hp:∀(S:Nat->Prop) (w:World),zA S Γ w->p)(k:p->T P N we Se ms Γ c Q env):T P N we Se ms Γ c Q env:=
 fun w hw=>let⟨S,_,h⟩:=hw.ex;k (hp S w h) w hw
theorem zc6(hw:yF ops env o=true)(hd:qw N.n o.dst=true)
 (h:∀w,St we Se ms Γ w->kv P o env w (fun v w'=>WpL P N ops rest Q (put env o.dst v) w')):TL P N we Se ms Γ ops (o::rest) Q env:=by
 intro w ha a h1 h2 h3;subst h3;unfold wpListIn;rw[iq<|by rw[WX];exact hw];refine(h w ha).wp fun v w' hk=> ?_;exact hk _ (by rw[QQ];exact h1) (by rw[YC];exact h2)<|Yu<|by rw[h1];exact QO hd
theorem zg8(hw:yF ops env o=false)(hd:qw N.n o.dst=true)(k:TL P N we Se ms Γ ops rest Q (put env o.dst undef)):TL P N we Se ms Γ ops (o::rest) Q env:=by
 intro w ha a h1 h2 h3;subst h3;unfold wpListIn;rw[ir<|by rw[WX,hw];exact Bool.false_ne_true];exact⟨fun _ _=>trivial,k w ha _ (by rw[QQ];exact h1) (by rw[YC];exact h2)<|Yu<|by rw[h1];exact QO hd⟩
theorem zdp{U:Type}{val:U->Value}{facts:U->List FF}{ok:U->Prop}(hw:yF ops env o=true)(hd:qw N.n o.dst=true)
 (h:Eu P o env ms Γ val facts ok) (k:∀u,ok u->TL P N we Se ms (facts u++Γ) ops rest Q (put env o.dst<|val u)):TL P N we Se ms Γ ops (o::rest) Q env:=by
 refine zc6 hw hd fun w ha=> ?_;obtain⟨h1,h2,h3,S,h4,h5,h6,h7,h8⟩:=ha;refine(h w S h5 h7 h8).mono ?_;rintro v w' ⟨u,rfl,hu,x,hf⟩
 exact k u hu w' ⟨h1.trans x,h2,h3,S,h4,fun k hk=>h5 k<|xam x.size hk,h6,
  yw.keep x.to (fun m hm i hi=>x.block i (yw.lt h7 m hm i hi) trivial) h7,zA.append hf<|zA.keep x.to h8⟩
theorem kZ{v:Value}(hw:yF ops env o=true)(hd:qw N.n o.dst=true)(h:∀w,(execOp (ev env) o).run P w=.ok (.value v) w)
 (k:TL P N we Se ms Γ ops rest Q (put env o.dst v)):TL P N we Se ms Γ ops (o::rest) Q env:=
 zc6 hw hd fun w ha=>kv.of_value (h w)<|k w ha
end
def OG{ι:Type}(P:Program)(o:Oper)(env:yN)(we:World)(Se:Nat->Prop)(ms:List MF)(Γ:List FF)(val:ι->Value)(ms':ι->List MF)(Γ':ι->List FF)(ok:ι->Prop):Prop:=
 ∀w,St we Se ms Γ w->kv P o env w (fun v w'=>∃i,v=val i/\ok i/\St we Se (ms' i) (Γ' i) w')
section
variable{P:Program}{N:Nd}{we:World}{Se:Nat->Prop}{ms:List MF}{Γ:List FF}{Q:Qs}{env:yN}{ops:Array Oper}{o:Oper}{rest:List Oper}
theorem zf2{ι:Type}{val:ι->Value}{ms':ι->List MF}{Γ':ι->List FF}{ok:ι->Prop}(hw:yF ops env o=true)(hd:qw N.n o.dst=true)(h:OG P o env we Se ms Γ val ms' Γ' ok)
 (k:∀i,ok i->TL P N we Se (ms' i) (Γ' i) ops rest Q (put env o.dst<|val i)):TL P N we Se ms Γ ops (o::rest) Q env:=
 zc6 hw hd fun w ha=>(h w ha).mono fun v w' ⟨i,e,hi,hs⟩=>e▸k i hi w' hs
theorem zcg{U:Type}{val:U->Value}{facts:U->List FF}{ok:U->Prop}(h:Eu P o env ms Γ val facts ok):OG P o env we Se ms Γ val (fun _=>ms) (fun u=>facts u++Γ) ok:=by
 intro w ⟨h1,h2,h3,S,h4,h5,h6,h7,h8⟩;refine(h w S h5 h7 h8).mono ?_;rintro v w' ⟨u,e,hu,x,hf⟩
 exact⟨u,e,hu,h1.trans x,h2,h3,S,h4,fun k hk=>h5 k<|xam x.size hk,h6,
  yw.keep x.to (fun m hm i hi=>x.block i (yw.lt h7 m hm i hi) trivial) h7,zA.append hf<|zA.keep x.to h8⟩
end
def pv(o:Oper)(env:yN):Option Value:=
 match o.op with
 |.move x|.assign x=>some<|ev env x
 |.extract t i=>match ev env t with
  |.tuple vs=>vs[i]?
  |_=>none
 |.pick c a b=>match ev env c with
  |.bool t=>some<|bif t then ev env a else ev env b
  |_=>none
 |.unOp .not _ x=>match ev env x with
  |.bool t=>some (.bool !t)
  |_=>none
 |.makeFunc f first captured=>some (.func f (first.map<|ev env)<|captured.map<|ev env)
 |_=>none
theorem b8{P:Program}{o:Oper}{env:yN}{v:Value}(h:pv o env=some v)(w:World):(execOp (ev env) o).run P w=.ok (.value v) w:=by
 unfold pv at h;unfold execOp;split at h
 ·next e=>simp_all
 ·next e=>simp_all
 ·next t i e=>
  simp only[e];split at h
  ·next vs hv=>simp[hv,Instr.extract,h]
  ·cases h
 ·next c a b e=>
  simp only[e];split at h
  ·next t ht=>cases h;cases t<;>simp[ht,asBool]
  ·cases h
 ·next ty x e=>
  simp only[e];split at h
  ·next t ht=>cases h;simp[ht,Op.unary]
  ·cases h
 ·next f a b e=>cases h;simp[e,Instr.makeFunc]
 ·cases h
def mi(N:Nat)(ops:Array Oper):List Oper->yN->Option yN
 |[],env=>some env
 |o::r,env=>bif qw N o.dst then(bif yF ops env o then(match pv o env with
  |some v=>mi N ops r<|put env o.dst v
  |none=>none)else(match o.guard with
  |some (j,want)=>bif gd ops env j==some (!want)then mi N ops r (put env o.dst undef)else none
  |none=>none))else none
section
variable{P:Program}{N:Nd}{we:World}{Se:Nat->Prop}{ms:List MF}{Γ:List FF}{Q:Qs}{ops:Array Oper}
theorem J0:∀(l:List Oper) (l':List Oper) (env env':yN),mi N.n ops l env=some env'->TL P N we Se ms Γ ops l' Q env'->TL P N we Se ms Γ ops (l++l') Q env
 |[],_,env,env',h,k=>by cases h;exact k
 |o::r,l',env,env',h,k=>by
  unfold mi at h;cases hd:qw N.n o.dst
  ·rw[hd]at h;cases h
  ·rw[hd]at h;simp only[cond_true]at h;cases hw:yF ops env o
   ·rw[hw]at h;simp only[cond_false]at h;split at h
    ·next j want hg=>
     cases hb:(gd ops env j==some (!want))
     ·rw[hb]at h;cases h
     ·rw[hb]at h;exact zg8 hw hd<|J0 r l' _ _ h k
    ·cases h
   ·rw[hw]at h;simp only[cond_true]at h
    cases hp:pv o env with
    |none=>rw[hp]at h;cases h
    |some v=>rw[hp]at h;exact kZ hw hd (fun w=>b8 hp w)<|J0 r l' _ _ h k
def chk(env:Option yN)(live:List (Nat×Value)):Prop:=match env with
 |some env=>VW env live
 |none=>False
theorem Bl(n:Nat)(live:List (Nat×Value)){l:List Oper}{env:yN}(h:chk (mi N.n ops (l.take n) env) live)(k:∀rest,TL P N we Se ms Γ ops (l.drop n) Q<|L live rest):TL P N we Se ms Γ ops l Q env:=by
 rw[<-xbN n l]
 cases hp:mi N.n ops (l.take n) env with
 |none=>rw[hp]at h;exact h.elim
 |some env'=>
  rw[hp]at h;refine J0 _ _ _ _ hp ?_;exact SH live h k
end
structure X3(P:Program)(t:TypeId)(agg:Bool)(size bytes:Nat)(zero:Value):Prop where
 und:∃d,P.underlying t=some d/\(match d with|.struct _|.array _ _=>true|_=>false)=agg
 info:∃i,P.info? t=some i/\i.size=size/\i.bytes=bytes/\i.zero=some zero
def tyB(P:Program)(t:TypeId):Option (Bool×Nat×Nat×Option Value):=
 match P.underlying t,P.info? t with
 |some d,some i=>some ((match d with|.struct _|.array _ _=>true|_=>false),i.size,i.bytes,i.zero)
 |_,_=>none
theorem X3.of{P:Program}{t:TypeId}{agg:Bool}{size bytes:Nat}{zero:Value}(h:tyB P t=some (agg,size,bytes,some zero)):X3 P t agg size bytes zero:=by
 unfold tyB at h;split at h
 ·next d i hd hi=>
  simp only[xaz,xcH]at h;exact⟨⟨d,hd,h.1⟩,i,hi,h.2.1,h.2.2.1,h.2.2.2⟩
 ·cases h
theorem qc(b o j:Nat):(⟨b,o,none⟩:Addr).add j=⟨b,o+j,none⟩:=by unfold Addr.add;split<;>simp_all
theorem B9{P:Program}{t:TypeId}{agg:Bool}{size bytes:Nat}{zero:Value}(ht:X3 P t agg size bytes zero)(w:World):(isAgg t).run P w=.ok agg w:=by
 obtain⟨⟨d,hd,hm⟩,_⟩:=ht;unfold isAgg;simp only[xas,run_underlying hd,xad];cases d<;>simp_all
theorem xp{P:Program}{t:TypeId}{agg:Bool}{size bytes:Nat}{zero:Value}(ht:X3 P t agg size bytes zero)(w:World):(sizeOf t).run P w=.ok size w:=by
 obtain⟨_,i,hi,h1,_⟩:=ht;simp[sizeOf,typeInfo,hi,h1]
theorem w7{P:Program}{t:TypeId}{agg:Bool}{size bytes:Nat}{zero:Value}(ht:X3 P t agg size bytes zero)(w:World):(zeroValue t).run P w=.ok zero w:=by
 obtain⟨_,i,hi,_,_,h1⟩:=ht;simp[zeroValue,typeInfo,hi,h1]
theorem DU{P:Program}{α:Type}{e:zZ α}{t:TypeId}{bytes:Nat}{zero:Value}(ht:X3 P t e.agg e.n bytes zero){w w0:World}{b o:Nat}{cs:List Value}{S:Nat->Prop}{x:α}
 (hp:e.p S x cs w0) (ha:At w b o cs):(loadVar t ⟨b,o,none⟩).run P w=.ok (e.val cs) w:=by
 unfold loadVar;rw[xas,B9 ht];simp only[xad];cases hb:e.agg
 ·have hl:=e.len hp;rw[e.n1 hb]at hl;obtain⟨c,rfl⟩:=xfk.1 hl;have:=ha.2 0 c rfl;simp only[xbT]at this;simp[this,zZ.val,hb]
 ·have hl:=e.len hp;have hc:=run_loadCells_list (P:=P) w ⟨b,o,none⟩ cs (fun j v hv=>by rw[qc];exact ha.2 j v hv);rw[hl]at hc;simp[xp ht,hc,zZ.val,hb]
theorem Uc{P:Program}{α:Type}{e:zZ α}{t:TypeId}{bytes:Nat}{zero:Value}(ht:X3 P t e.agg e.n bytes zero){w:World}{b o:Nat}{cs:List Value}{S:Nat->Prop}{x:α}
 (hp:e.p S x cs w) (ha:At w b o cs):(loadVar t ⟨b,o,none⟩).run P w=.ok (e.val cs) w:=DU ht hp ha
section
variable{P:Program}{env:yN}{ms:List MF}{Γ:List FF}{d:Option Tmp}{ty:TypeId}{pos:String}{aft:Array Edge}{g:Option (Nat×Bool)}
theorem zh9{α:Type}{e:zZ α}{xs:List α}{v:Value}{x:Operand}{at_ et:TypeId}(hu:P.underlying at_=some (.slice et))(hx:ev env x=v)(hf:∀(S:Nat->Prop) (w:World),zA S Γ w->(fV (eS e) xs v).p S w):
 Eu P ⟨d,.call ⟨.builtin .len,#[x],#[at_]⟩,ty,pos,aft,g⟩ env ms Γ (fun _:Unit=> .int .i64 (xs.length:Int)) (fun _=>[]) (fun _=>xs.length<=9223372036854775807):=by
 intro w S _ _ hΓ;obtain⟨ao,cap,hv,hc,hm,_⟩:=xm.1<|hf S w hΓ;refine kv.of_value (w':=w) (v:=.int .i64 (xs.length:Int)) ?_ ⟨(),rfl,xam hc hm,yq.refl _ _,trivial⟩;simp[execOp,resolve,invoke,builtin,hx,hv,Builtin.len_,goInt,run_underlying hu]
theorem IE{α:Type}{e:zZ α}{t et:TypeId}{bytes:Nat}{zero:Value}(ht:P.underlying t=some (.slice et))(ha:X3 P et e.agg e.n bytes zero){w:World}{b o n cap k:Nat}
 (hk:k<n) (ik:IntKind):(Instr.indexAt t (.slice (some ⟨b,o,none⟩) n cap) (.int ik (k:Int))).run P w=.ok (.pointer<|some ⟨b,o+k*e.n,none⟩) w:=by
 unfold Instr.indexAt;have:(0:Int)<=(k:Int)/\(k:Int)<(n:Int):=by lia
 simp only[asIntOf,run_underlying ht,xas,xaG,xad,iq this,xp ha,qc,xaK]
theorem zb3{α:Type}{e:zZ α}{xs:List α}{v:Value}{x i:Operand}{t et:TypeId}{bytes:Nat}{zero:Value}{k:Nat}{y:α}{ik:IntKind}(hx:ev env x=v)(hi:ev env i=.int ik (k:Int))
 (ht:P.underlying t=some (.slice et)) (hb:X3 P et e.agg e.n bytes zero) (hy:xs[k]? =some y) (hf:∀(S:Nat->Prop) (w:World),zA S Γ w->(fV (eS e) xs v).p S w):
 Eu P ⟨d,.indexAddr t x i,ty,pos,aft,g⟩ env ms Γ (fun p:Value=>p) (fun p=>[fP e y p]) (fun _=>True):=by
 intro w S _ _ hΓ;obtain⟨ao,cap,hv,h1,h2,h3⟩:=xm.1<|hf S w hΓ;have hk:=(xat.1 hy).1;rcases h3 with rfl|⟨b,o,cs,rfl,hS,ha,he⟩
 ·simp at hy
 ·refine kv.of_value (w':=w) (v:=.pointer<|some ⟨b,o+k*e.n,none⟩) ?_ ⟨_,rfl,trivial,yq.refl _ _,⟨⟨b,o+k*e.n,?_⟩,trivial⟩⟩
  ·simp[execOp,hx,hi,hv,IE ht hb hk]
  ·obtain⟨c,hc,hj⟩:=he.get hy;refine⟨c,rfl,hS,⟨ha.1,fun j v hv=> ?_⟩,hc⟩;have hd:j<e.n:=by rw[<-e.len hc];exact(xat.1 hv).1
   rw[xcR];exact ha.2 _ v<|by rw[hj j hd];exact hv
theorem zfj{α:Type}{e:zZ α}{y:α}{p:Value}{x:Operand}{t:TypeId}{bytes:Nat}{zero:Value}(hx:ev env x=p)(ht:X3 P t e.agg e.n bytes zero)
 (hf:∀(S:Nat->Prop) (w:World),zA S Γ w->(fP e y p).p S w):
 Eu P ⟨d,.load t x,ty,pos,aft,g⟩ env ms Γ (fun v:Value=>v) (fun v=>[fV e y v]) (fun _=>True):=by
 intro w S _ _ hΓ;obtain⟨b,o,cs,rfl,hS,ha,he⟩:=hf S w hΓ;refine kv.of_value (w':=w) (v:=e.val cs) ?_ ⟨_,rfl,trivial,yq.refl _ _,⟨⟨cs,rfl,he⟩,trivial⟩⟩;simp[execOp,hx,Instr.loadAt,xfu,Uc ht he ha]
theorem Ia{α:Type}{e:zZ α}{xs:List α}{v:Value}{x:Operand}{lo hi:Option Operand}{t et:TypeId}{bytes:Nat}{zero:Value}{l h:Nat}(hx:ev env x=v)
 (ht:P.underlying t=some (.slice et)) (hg:X3 P et e.agg e.n bytes zero) (hl:(lo.map<|ev env)=some (.int .i64 (l:Int))\/(lo=none/\l=0)) (hh:(hi.map<|ev env)=some (.int .i64 (h:Int))\/(hi=none/\h=xs.length))
 (hj:l<=h) (hk:h<=xs.length) (hf:∀(S:Nat->Prop) (w:World),zA S Γ w->(fV (eS e) xs v).p S w):
 Eu P ⟨d,.slice t x lo hi none,ty,pos,aft,g⟩ env ms Γ (fun p:Value=>p) (fun p=>[fV (eS e) ((xs.drop l).take<|h-l) p]) (fun _=>True):=by
 intro w S _ _ hΓ;obtain⟨ao,cap,hv,h1,h2,h3⟩:=xm.1<|hf S w hΓ;have b1:(0:Int)<=(l:Int)/\(l:Int)<=(h:Int):=by lia
 have b2:(0:Int)<=(h:Int)/\(h:Int)<=(cap:Int):=by lia
 have hd:(xcX t v (lo.map<|ev env) (hi.map<|ev env) none).run P w=.ok (.slice (if cap=l then ao else ao.map (·.add (l*e.n))) (h-l)<|cap-l) w:=by
  unfold xcX;rw[hv];simp only[xas,run_underlying ht,xad];unfold xfL;simp only[xas,run_underlying ht,xad];unfold xdX
  rcases hl with hl|⟨hl,rfl⟩<;>rcases hh with hh|⟨hh,rfl⟩<;>
   simp only[hl,hh,xeo,asIntOf,Option.map_none,xas,xaG,xad,iq b1,iq b2,xp hg,xaK]
 refine kv.of_value (w':=w) (v:=.slice (if cap=l then ao else ao.map (·.add (l*e.n))) (h-l)<|cap-l) ?_ ⟨_,rfl,trivial,yq.refl _ _,⟨?_,trivial⟩⟩
 ·simp[execOp,hx,hd]
 ·have hb:((xs.drop l).take<|h-l).length=h-l:=by simp;lia
  refine xm.2 ⟨_,cap-l,by rw[hb],by rw[hb];lia,by lia,?_⟩;rcases h3 with rfl|⟨b,o,cs,rfl,hS,ha,he⟩
  ·left;simp
  ·by_cases hc:cap=l
   ·left;have:h-l=0:=by lia
    simp[this]
   ·right;refine⟨b,o+l*e.n,(cs.drop<|l*e.n).take<|(h-l)*e.n,by simp[hc,qc],hS,(ha.drop _).take _,(he.drop l).take<|h-l⟩
end
end
section
section
variable{P:Program}{env:yN}{Γ:List FF}{d:Option Tmp}{ty yt t:TypeId}{pos:String}{aft:Array Edge}{g:Option (Nat×Bool)}{x y:Operand}
theorem w64{x:Int}(h: -9223372036854775808<=x/\x<=9223372036854775807):xcY.wrap x=x:=IntWalk.i64_in x h
theorem zer(n:Nat):xcr.wrap (n:Int)=((n%18446744073709551616:Nat):Int):=by
 simp only[xfS,xdS,xew];simp
theorem dT{n:Nat}(h:n<18446744073709551616):xcr.wrap (n:Int)=(n:Int):=by rw[zer,xar h]
theorem sR(x:Int):xcr.wrap x=x%18446744073709551616:=by
 simp only[xfS,xdS,xew];simp
theorem mj{op:BinOp}{k:IntKind}{a b:Int}{v:Value}(hx:ev env x=.int k a)(hy:ev env y=.int k b)(hv:∀w,(binOp op t (.int k a) (.int k b)).run P w=.ok v w)(w:World):
 (execOp (ev env) ⟨d,.binOp op t x y yt,ty,pos,aft,g⟩).run P w=.ok (.value v) w:=by
 have:(eqGuard op t x y (.int k a) (.int k b)).run P w=.ok () w:=by
  unfold eqGuard;cases op<;>simp
 simp only[execOp,hx,hy,xas,this,xad,hv,xaG]
theorem sI{k:IntKind}{a b c:Int}(hx:ev env x=.int k a)(hy:ev env y=.int k b)(hc:k.wrap (a+b)=c)(w:World):
 (execOp (ev env) ⟨d,.binOp .add t x y yt,ty,pos,aft,g⟩).run P w=.ok (.value (.int k c)) w:=
 mj hx hy (fun w=>by simp[binOp,Op.intArith,hc]) w
theorem zcf{k:IntKind}{a b c:Int}(hx:ev env x=.int k a)(hy:ev env y=.int k b)(hc:k.wrap (a-b)=c)(w:World):
 (execOp (ev env) ⟨d,.binOp .sub t x y yt,ty,pos,aft,g⟩).run P w=.ok (.value (.int k c)) w:=
 mj hx hy (fun w=>by simp[binOp,Op.intArith,hc]) w
theorem zfD{k:IntKind}{a b c:Int}(hx:ev env x=.int k a)(hy:ev env y=.int k b)(hc:k.wrap (a*b)=c)(w:World):
 (execOp (ev env) ⟨d,.binOp .mul t x y yt,ty,pos,aft,g⟩).run P w=.ok (.value (.int k c)) w:=
 mj hx hy (fun w=>by simp[binOp,Op.intArith,hc]) w
theorem zfT{k:IntKind}{a b c:Int}(hx:ev env x=.int k a)(hy:ev env y=.int k b)(h0:b≠0)(hc:k.wrap (a.tdiv b)=c)(w:World):
 (execOp (ev env) ⟨d,.binOp .quo t x y yt,ty,pos,aft,g⟩).run P w=.ok (.value (.int k c)) w:=
 mj hx hy (fun w=>by simp[binOp,Op.intDiv,h0,hc]) w
theorem zf4{k:IntKind}{a b c:Int}(hx:ev env x=.int k a)(hy:ev env y=.int k b)(h0:b≠0)(hc:a.tmod b=c)(w:World):
 (execOp (ev env) ⟨d,.binOp .rem t x y yt,ty,pos,aft,g⟩).run P w=.ok (.value (.int k c)) w:=
 mj hx hy (fun w=>by simp[binOp,Op.intDiv,h0,hc]) w
theorem sB{k yk:IntKind}{a b c:Int}(hx:ev env x=.int k a)(hy:ev env y=.int yk b)(h0:0<=b)(hc:a.fdiv (2^(min b.toNat k.bits))=c)(w:World):
 (execOp (ev env) ⟨d,.binOp .shr t x y yt,ty,pos,aft,g⟩).run P w=.ok (.value (.int k c)) w:=by
 have:¬b<0:=by lia
 simp[execOp,hx,hy,eqGuard,binOp,Op.shift,this,hc]
theorem Ow{k yk:IntKind}{a b c:Int}(hx:ev env x=.int k a)(hy:ev env y=.int yk b)(h0:0<=b)(hc:k.wrap (a*2^(min b.toNat k.bits))=c)(w:World):
 (execOp (ev env) ⟨d,.binOp .shl t x y yt,ty,pos,aft,g⟩).run P w=.ok (.value (.int k c)) w:=by
 have:¬b<0:=by lia
 simp[execOp,hx,hy,eqGuard,binOp,Op.shift,this,hc]
theorem zfN{k:IntKind}{a b c:Int}(hx:ev env x=.int k a)(hy:ev env y=.int k b)(hc:k.wrap (((a%2^k.bits).toNat &&& (b%2^k.bits).toNat:Nat):Int)=c)(w:World):
 (execOp (ev env) ⟨d,.binOp .and t x y yt,ty,pos,aft,g⟩).run P w=.ok (.value (.int k c)) w:=
 mj hx hy (fun w=>by simp[binOp,Op.intBits,hc]) w
theorem zji{k:IntKind}{a b c:Int}(hx:ev env x=.int k a)(hy:ev env y=.int k b)(hc:k.wrap (((a%2^k.bits).toNat|||(b%2^k.bits).toNat:Nat):Int)=c)(w:World):
 (execOp (ev env) ⟨d,.binOp .or t x y yt,ty,pos,aft,g⟩).run P w=.ok (.value (.int k c)) w:=
 mj hx hy (fun w=>by simp[binOp,Op.intBits,hc]) w
theorem zfB{k:IntKind}{a c:Int}(hx:ev env x=.int k a)(hc:k.wrap (0-a)=c)(w:World):
 (execOp (ev env) ⟨d,.unOp .neg t x,ty,pos,aft,g⟩).run P w=.ok (.value (.int k c)) w:=by
 simp only[execOp,hx,Op.unary,Op.intArith,hc,xas,xaG,xad]
theorem Xy{k k':IntKind}{src dst:TypeId}{sd:TypeDesc}{a c:Int}(hs:P.underlying src=some sd)(hd:P.underlying dst=some (.int k'))(hx:ev env x=.int k a)(hc:k'.wrap a=c)(w:World):
 (execOp (ev env) ⟨d,.convert src dst x,ty,pos,aft,g⟩).run P w=.ok (.value (.int k' c)) w:=by
 simp[execOp,hx,convert,run_underlying hs,run_underlying hd,Conv.intToInt,hc]
theorem ziZ{a b:Int}{ts:Array TypeId}(hx:ev env x=.int .i64 a)(hy:ev env y=.int .i64 b)(w:World):
 (execOp (ev env) ⟨d,.call ⟨.builtin .max,#[x,y],ts⟩,ty,pos,aft,g⟩).run P w=.ok (.value (.int .i64<|max a b)) w:=by
 have e:(if b>a then b else a)=max a b:=by rw[Int.max_def];split<;>split<;>lia
 simp only[execOp,resolve,invoke,builtin,xdI,xbX,xex,hx,hy,Builtin.max_,Builtin.max2,xas,xaG,xad,List.foldlM_cons,List.foldlM_nil,e]
theorem zi2{a b:Int}{ts:Array TypeId}(hx:ev env x=.int .i64 a)(hy:ev env y=.int .i64 b)(w:World):
 (execOp (ev env) ⟨d,.call ⟨.builtin .min,#[x,y],ts⟩,ty,pos,aft,g⟩).run P w=.ok (.value (.int .i64<|min a b)) w:=by
 have e:(if b<a then b else a)=min a b:=by rw[Int.min_def];split<;>split<;>lia
 simp only[execOp,resolve,invoke,builtin,xdI,xbX,xex,hx,hy,Builtin.min_,Builtin.min2,xas,xaG,xad,List.foldlM_cons,List.foldlM_nil,e]
end
end
section
theorem lS{α:Type}(l:List α){n:Nat}(h:l.length<=n):l.drop n=[]:=xcl h
section
variable{P:Program}{N:Nd}{we:World}{Se:Nat->Prop}{ms:List MF}{Γ:List FF}{Q:Qs}{env:yN}{ops:Array Oper}{rest:List Oper}
 {d:Option Tmp}{ty yt t:TypeId}{pos:String}{aft:Array Edge}{g:Option (Nat×Bool)}{x y:Operand}
theorem lV{op:BinOp}{k:IntKind}{a b:Int}{c:Bool}(hx:ev env x=.int k a)(hy:ev env y=.int k b)
 (hc:∀w,(binOp op t (.int k a) (.int k b)).run P w=.ok (.bool c) w) (w:World):(execOp (ev env) ⟨d,.binOp op t x y yt,ty,pos,aft,g⟩).run P w=.ok (.value (.bool c)) w:=mj hx hy hc w
theorem Ny{k:IntKind}{a b:Int}(hw:yF ops env ⟨d,.binOp .geq t x y yt,ty,pos,aft,g⟩=true)(hd:qw N.n d=true)(hx:ev env x=.int k a)(hy:ev env y=.int k b)
 (k1:b<=a->TL P N we Se ms Γ ops rest Q (put env d (.bool true))) (k2:¬b<=a->TL P N we Se ms Γ ops rest Q (put env d (.bool false))):
 TL P N we Se ms Γ ops (⟨d,.binOp .geq t x y yt,ty,pos,aft,g⟩::rest) Q env:=by
 by_cases h:b<=a
 ·exact kZ hw hd (lV hx hy fun w=>by simp[binOp,xfM,h])<|k1 h
 ·exact kZ hw hd (lV hx hy fun w=>by simp[binOp,xfM,h])<|k2 h
theorem SL{k:IntKind}{a b:Int}(hx:ev env x=.int k a)(hy:ev env y=.int k b)(w:World):(execOp (ev env) ⟨d,.binOp .lss t x y yt,ty,pos,aft,g⟩).run P w=.ok (.value (.bool<|decide<|a<b)) w:=
 lV hx hy (fun w=>by simp[binOp,xfM]) w
theorem TR{k:IntKind}{a b:Int}(hx:ev env x=.int k a)(hy:ev env y=.int k b)(w:World):(execOp (ev env) ⟨d,.binOp .leq t x y yt,ty,pos,aft,g⟩).run P w=.ok (.value (.bool<|decide<|a<=b)) w:=
 lV hx hy (fun w=>by simp[binOp,xfM]) w
theorem zcP{k:IntKind}{a b:Int}(hx:ev env x=.int k a)(hy:ev env y=.int k b)(w:World):(execOp (ev env) ⟨d,.binOp .gtr t x y yt,ty,pos,aft,g⟩).run P w=.ok (.value (.bool<|decide<|b<a)) w:=
 lV hx hy (fun w=>by simp[binOp,xfM]) w
theorem zc1{k:IntKind}{a b:Int}(hx:ev env x=.int k a)(hy:ev env y=.int k b)(w:World):(execOp (ev env) ⟨d,.binOp .geq t x y yt,ty,pos,aft,g⟩).run P w=.ok (.value (.bool<|decide<|b<=a)) w:=
 lV hx hy (fun w=>by simp[binOp,xfM]) w
theorem SX{k:IntKind}{a b:Int}(hx:ev env x=.int k a)(hy:ev env y=.int k b)(w:World):(execOp (ev env) ⟨d,.binOp .eql t x y yt,ty,pos,aft,g⟩).run P w=.ok (.value (.bool<|decide<|a=b)) w:=
 lV hx hy (fun w=>by simp[binOp,xfM];by_cases h:a=b<;>simp[h]) w
theorem zaE{k:IntKind}{a b:Int}(hx:ev env x=.int k a)(hy:ev env y=.int k b)(w:World):(execOp (ev env) ⟨d,.binOp .neq t x y yt,ty,pos,aft,g⟩).run P w=.ok (.value (.bool (!decide (a=b)))) w:=
 lV hx hy (fun w=>by simp[binOp,xfM];by_cases h:a=b<;>simp[h]) w
theorem Uw{a b:Bool}(ht:P.underlying t=some .bool)(w:World):(Op.equal t (.bool a) (.bool b)).run P w=.ok (a==b) w:=by
 show(Op.equalIn (9999+1) t (.bool a) (.bool b)).run P w=_;unfold Op.equalIn;simp only[xas,run_underlying ht,xad,xaG]
theorem zj6{a b:Bool}(ht:P.underlying t=some .bool)(hx:ev env x=.bool a)(hy:ev env y=.bool b)(w:World):
 (execOp (ev env) ⟨d,.binOp .eql t x y yt,ty,pos,aft,g⟩).run P w=.ok (.value (.bool<|a==b)) w:=by
 have h:(eqGuard .eql t x y (.bool a) (.bool b)).run P w=.ok () w:=by simp[eqGuard]
 have h2:(binOp .eql t (.bool a) (.bool b)).run P w=.ok (.bool<|a==b) w:=by simp only[binOp,xas,Uw ht,xad,xaG]
 simp only[execOp,hx,hy,xas,h,h2,xad,xaG]
theorem zjM{a b:Bool}(ht:P.underlying t=some .bool)(hx:ev env x=.bool a)(hy:ev env y=.bool b)(w:World):
 (execOp (ev env) ⟨d,.binOp .neq t x y yt,ty,pos,aft,g⟩).run P w=.ok (.value (.bool (!(a==b)))) w:=by
 have h:(eqGuard .neq t x y (.bool a) (.bool b)).run P w=.ok () w:=by simp[eqGuard]
 have h2:(binOp .neq t (.bool a) (.bool b)).run P w=.ok (.bool (!(a==b))) w:=by simp only[binOp,xas,Uw ht,xad,xaG]
 simp only[execOp,hx,hy,xas,h,h2,xad,xaG]
def Ab(P:Program)(f:FuncId):Bool:=match P.funcs[f]? with
 |some fn=> !(fn.name== "runtime.NumGoroutine") && fn.body.isSome
 |none=>false
theorem kP{f:FuncId}(h:Ab P f=true)(args:Array Value)(w:World):(callFunc f args).run P w=.ok (.enter f args) w:=by
 unfold Ab at h;unfold callFunc;split at h
 ·next fn hf=>
  simp only[xao,xdn]at h;have h2:fn.body.isNone=false:=by simpa using h.2
  simp only[xas,run_program,xad,hf,h.1,h2,xak,if_false,xaG]
 ·cases h
theorem zkJ{U:Type}{val:U->Value}{facts:U->List FF}{ok:U->Prop}{Γc:List FF}{f:FuncId}{asv:List Operand}{ts:Array TypeId}{args:List Value}(hb:Ab P f=true)
 (hf:Fn P f args.toArray Γc val facts ok) (ha:asv.map (ev env)=args) (hs:∀(S:Nat->Prop) (w:World),zA S Γ w->zA S Γc w):
 Eu P ⟨d,.call ⟨.value (.func f),asv.toArray,ts⟩,ty,pos,aft,g⟩ env ms Γ val facts ok:=by
 intro w S hS _ hΓ;unfold kv;have:(execOp (ev env) ⟨d,.call ⟨.value (.func f),asv.toArray,ts⟩,ty,pos,aft,g⟩).run P w=.ok (.enter f args.toArray) w:=by simp[execOp,resolve,ev,xdJ,invoke,kP hb,ha]
 rw[this];exact(hf w S hS<|hs S w hΓ).mono fun e w' ⟨u,he,hu,hx,hc⟩=>⟨val u,he,u,rfl,hu,hx,hc⟩
theorem dP{U:Type}{val:U->Value}{facts:U->List FF}{ok:U->Prop}{Γc:List FF}{f:FuncId}{asv:List Operand}{ts:Array TypeId}{args Jh:List Value}{x:Operand}(hb:Ab P f=true)
 (hx:ev env x=.func (.func f) #[] Jh.toArray) (hf:Fn P f (args++Jh).toArray Γc val facts ok) (ha:asv.map (ev env)=args) (hs:∀(S:Nat->Prop) (w:World),zA S Γ w->zA S Γc w):
 Eu P ⟨d,.call ⟨.value x,asv.toArray,ts⟩,ty,pos,aft,g⟩ env ms Γ val facts ok:=by
 intro w S hS _ hΓ;unfold kv;have:(execOp (ev env) ⟨d,.call ⟨.value x,asv.toArray,ts⟩,ty,pos,aft,g⟩).run P w=.ok (.enter f (args++Jh).toArray) w:=by simp[execOp,resolve,hx,xdJ,invoke,kP hb,ha]
 rw[this];exact(hf w S hS<|hs S w hΓ).mono fun e w' ⟨u,he,hu,hx,hc⟩=>⟨val u,he,u,rfl,hu,hx,hc⟩
theorem gL(off:Nat):∀(c:List Value) (k:Nat) (cells:Array Value),off+k+c.length<=cells.size->
 ((c.zipIdx k).foldl (fun cs (x:Value×Nat)=>cs.setIfInBounds (off+x.2) x.1) cells).toList=cells.toList.take (off+k)++c++cells.toList.drop (off+k+c.length)
 |[],k,cells,h=>by simp
 |v::c,k,cells,h=>by
  simp only[xaq]at h;rw[List.zipIdx_cons,List.foldl_cons];have:=gL off c (k+1) (cells.setIfInBounds (off+k) v) (by simp;lia);rw[this];simp only[Array.toList_setIfInBounds,xaq];have ha:off+k<cells.toList.length:=by simp;lia
  rw[show off+(k+1)=off+k+1 by lia,List.set_eq_take_append_cons_drop,iq ha];have e1:(cells.toList.take<|off+k).length=off+k:=by simp;lia
  rw[List.take_append,List.drop_append,e1];simp only[show off+k+1-(off+k)=1 by lia,xei,List.take_zero,show off+k+1+c.length-(off+k)=c.length+1 by lia,List.drop_succ_cons];rw[xaQ (by rw[e1];lia),lS (xdt (off+k) cells.toList) (by rw[e1];lia),List.drop_drop];simp only[xbA,xaj,xbI,xbA];congr 3;congr 1;lia
def qj(x8:List (Nat×Value)):List Value:=x8.flatMap fun x=>x.2.cells.toList
def JW(place:Nat->Option (Nat×Nat)):List (Nat×Value)->Nat->Prop
 |[],_=>True
 |(i,v)::r,off=>place i=some (off,v.cells.size)/\JW place r (off+v.cells.size)
theorem gF{place:Nat->Option (Nat×Nat)}:∀(x8:List (Nat×Value)) (pre z:List Value),JW place x8 pre.length->(qj x8).length<=z.length->
 xdg place (pre++z).toArray x8=some (pre++qj x8++z.drop (qj x8).length).toArray
 |[],pre,z,_,_=>by simp[xdg,qj]
 |(i,v)::r,pre,z,⟨h1,h2⟩,hl=>by
  simp only[qj,List.flatMap_cons,xax,xeT]at hl;have hs:¬(pre.length+v.cells.size>(pre++z).toArray.size):=by simp;lia
  have ha:v.cells.zipIdx.foldl (fun cs (x:Value×Nat)=>cs.setIfInBounds (pre.length+x.2) x.1) (pre++z).toArray=((pre++v.cells.toList)++z.drop v.cells.size).toArray:=by
   apply Array.ext';rw[<-Array.foldl_toList,Array.toList_zipIdx,gL pre.length v.cells.toList 0 _<|by simp;lia];simp
  unfold xdg;simp only[h1];rw[ir<|by simp only[ne_eq,not_true_eq_false,decide_false,xej,decide_eq_true_eq];exact hs];have:=gF r (pre++v.cells.toList) (z.drop v.cells.size) (by simpa using h2) (by simp[qj]at*;lia);refine(congrArg (fun a=>xdg place a r) ha).trans<|this.trans ?_;simp[qj,xaj,List.drop_drop]
theorem B5(i:Nat)(v:Value)(r:List (Nat×Value)):qj ((i,v)::r)=v.cells.toList++qj r:=by simp[qj]
theorem HD{α:Type}{e:zZ α}{z:α}{bytes:Nat}{zero:Value}{x8:List (Nat×Operand)}{vs:List (Nat×Value)}(ht:X3 P t true e.n bytes zero)(hg:e.agg=true)(hz:zero.cells.size=e.n)
 (hv:x8.map (fun x=>(x.1,ev env x.2))=vs)
 (hc:(∃fs,P.underlying t=some (.struct fs)/\∃pl:Array (Nat×Nat),(∀w,(fs.mapM (fun f=>do pure (f.offset,<-sizeOf f.type)):Sem (Array<|Nat×Nat)).run P w=.ok pl w)/\(∀(S:Nat->Prop) (w:World),zA S Γ w->JW (pl[·]?) vs 0))\/
  (∃k et n b2 z2 ag2,P.underlying t=some (.array k et)/\X3 P et ag2 n b2 z2/\(∀(S:Nat->Prop) (w:World),zA S Γ w->JW (fun i=>some (i*n,n)) vs 0)))
 (hp:∀(S:Nat->Prop) (w:World),zA S Γ w->e.p S z (qj vs) w):
 Eu P ⟨d,.build t x8.toArray,ty,pos,aft,g⟩ env ms Γ (fun v:Value=>v) (fun v=>[fV e z v]) (fun _=>True):=by
 intro w S _ _ hΓ;have he:=hp S w hΓ;have hl:=e.len he;have hf:zero.cells.toList.length=e.n:=by simpa using hz
 refine kv.of_value (w':=w) (v:=.agg (qj vs).toArray) ?_ ⟨_,rfl,trivial,yq.refl _ _,⟨⟨qj vs,by simp[zZ.val,hg],he⟩,trivial⟩⟩;have ha:∀place,JW place vs 0->xdg place zero.cells vs=some (qj vs).toArray:=by
  intro place h;have:=gF vs [] zero.cells.toList h (by rw[hl,hf];exact xab _);simpa[lS zero.cells.toList (n:=(qj vs).length)<|by rw[hl,hf];exact xab _]using this
 have hi:x8.toArray.map (fun x=>(x.1,ev env x.2))=vs.toArray:=by rw[<-hv];simp
 simp only[execOp,xas];have hb:(xfN t<|x8.toArray.map fun x=>(x.1,ev env x.2)).run P w=.ok (.agg (qj vs).toArray) w:=by
  rw[hi];unfold xfN;rcases hc with⟨fs,hu,pl,hc,hd⟩|⟨k,et,n,b2,z2,ag2,hu,hj,hd⟩
  ·simp only[xas,w7 ht,xad,run_underlying hu,hc,ha _<|hd S w hΓ,xaG]
  ·simp only[xas,w7 ht,xad,run_underlying hu,xp hj,ha _<|hd S w hΓ,xaG]
 rw[hb];rfl
theorem zcS{α:Type}{e:zZ α}{y:α}{v:Value}{S:Nat->Prop}{w:World}(h:(fV e y v).p S w):v.cells.size=e.n:=by
 have:=e.len<|ZZ h;simpa using this
theorem AE{α:Type}{e:zZ α}{et:TypeId}{zs:List α}{len bytes:Nat}{zero:Value}{x8:List (Nat×Operand)}{vs:List (Nat×Value)}(ht:P.underlying t=some (.slice et))(he:X3 P et e.agg e.n bytes zero)
 (hn:0<e.n) (hd:zs.length=len) (hk:len*e.n<=16777216) (hv:x8.map (fun x=>(x.1,ev env x.2))=vs)
 (hg:∀(S:Nat->Prop) (w:World),zA S Γ w->JW (fun i=>some (i*e.n,e.n)) vs 0) (hp:∀(S:Nat->Prop) (w:World),zA S Γ w->yu e S zs (qj vs) w):
 Eu P ⟨d,.buildSlice t len x8.toArray,ty,pos,aft,g⟩ env ms Γ (fun v:Value=>v) (fun v=>[fV (eS e) zs v]) (fun _=>True):=by
 intro w S hS _ hΓ;have hf:=hp S w hΓ;have hl:(qj vs).length=len*e.n:=by rw[hf.len,hd]
 have x:=QA.alloc w (.cells (qj vs).toArray et);refine kv.of_value (w':=w.alloc (.cells (qj vs).toArray et)) (v:=.slice (some ⟨w.heap.size,0,none⟩) len len) ?_ ⟨_,rfl,trivial,x,⟨xm.2 ?_,trivial⟩⟩
 ·have hi:x8.toArray.map (fun x=>(x.1,ev env x.2))=vs.toArray:=by rw[<-hv];simp
  have hc:xdg (fun i=>some (i*e.n,e.n)) ((xeU<|len*e.n).map (zero.cells[·%zero.cells.size]!)) vs=some (qj vs).toArray:=by
   have:=gF vs [] ((xeU<|len*e.n).map (zero.cells[·%zero.cells.size]!)).toList (hg S w hΓ) (by simp[hl]);rw[xbA,xdh,xbA,xcl (by simp[hl]),xbR]at this;exact this
  have hb:(xep t len<|x8.toArray.map fun x=>(x.1,ev env x.2)).run P w=.ok (.slice (some ⟨w.heap.size,0,none⟩) len len) (w.alloc (.cells (qj vs).toArray et)):=by
   rw[hi];unfold xep;simp only[xas,run_underlying ht,xad,xp he,ir (show¬len*e.n>2^24 by lia),newRow];by_cases h0:len*e.n=0
   ·have ho:qj vs=[]:=xbt (by rw[hl,h0]);have hj:xdg (fun i=>some (i*e.n,e.n)) ((xeU 0).map ((#[]:Array Value)[·%(#[]:Array Value).size]!)) vs=some (qj vs).toArray:=by
     have hm:∀f:Nat->Value,(xeU 0).map f= #[]:=fun f=>by simp
     rw[<-hc,h0,hm,hm]
    simp only[h0,if_true];simp only[hj,xas,run_newObj_alloc,xad,xaG]
   ·simp only[ir h0,xas,w7 he,xad,xaG,hc,run_newObj_alloc]
  simp only[execOp,xas,hb,xad,xaG]
 ·have ha:At (w.alloc (.cells (qj vs).toArray et)) w.heap.size 0 (qj vs):=by
   have:=At.row (b:=w.heap.size) (cs:=(qj vs).toArray) (t:=et) (fr:=(0,0))<|heap_alloc_new w _;simpa using this
  refine Sw.of_at (hS _<|xab _) ha (hf.keep x.to) hd.symm (by lia) ?_;have:len<=len*e.n:=xcb _ hn;unfold maxLen;lia
theorem zg1{α:Type}{e:zZ α}{E:TypeId}{z:α}{v:Value}(hx:ev env x=v)(hf:∀(S:Nat->Prop) (w:World),zA S Γ w->(fV e z v).p S w):
 Eu P ⟨d,.box E x,ty,pos,aft,g⟩ env ms Γ (fun v:Value=>v) (fun p=>[fP e z p]) (fun _=>True):=by
 intro w S hS _ hΓ;have h:=ZZ<|hf S w hΓ;have xx:=QA.alloc w (.cells v.cells E);refine kv.of_value (w':=w.alloc (.cells v.cells E)) (v:=.pointer<|some ⟨w.heap.size,0,none⟩) ?_ ⟨_,rfl,trivial,xx,⟨⟨w.heap.size,0,v.cells.toList,rfl,hS _<|xab _,At.row<|heap_alloc_new w _,e.keep h xx.to⟩,trivial⟩⟩;simp[execOp,hx,Instr.box,newVar,newRow]
end
end
section
def Sub{α β:Type}(e:nC α)(x:α)(o:Nat)(e':zZ β)(x':β)(up:β->α):Prop:=
 ∀(S:Nat->Prop) (w:World) (cs:List Value),e.p S x cs w->∃pre c post,cs=pre++c++post/\pre.length=o/\e'.p S x' c w/\∀(w':World) y c',yq S w w'->e'.p S y c' w'->e.p S (up y) (pre++c'++post) w'
theorem Sub.self{α:Type}(e:zZ α)(x:α):Sub e.c x 0 e x id:=
 fun _ _ cs h=>⟨[],cs,[],by simp,rfl,h,fun _ y c' _ h'=>by simpa[zZ.c]using h'⟩
theorem Sub.fst{α β:Type}(e:zZ α)(f:zZ β)(x:α×β):Sub (eP e f).c x 0 e x.1 (fun y=>(y,x.2)):=by
 rintro S w cs ⟨c,d,rfl,hc,hd⟩;exact⟨[],c,d,by simp,rfl,hc,fun w' y c' k h'=>⟨c',d,by simp,h',f.keep hd k⟩⟩
theorem Sub.snd{α β:Type}(e:zZ α)(f:zZ β)(x:α×β):Sub (eP e f).c x e.n f x.2 (fun y=>(x.1,y)):=by
 rintro S w cs ⟨c,d,rfl,hc,hd⟩;exact⟨c,d,[],by simp,e.len hc,hd,fun w' y c' k h'=>⟨c,c',by simp,e.keep hc k,h'⟩⟩
theorem Sub.nth{α:Type}(k:Nat)(e:zZ α)(xs:List α)(i:Nat)(x:α)(hx:xs[i]? =some x):Sub (eA k e).c xs (i*e.n) e x (fun y=>xs.set i y):=by
 rintro S w cs ⟨hl,he⟩;obtain⟨hi,rfl⟩:=xat.1 hx;have hd:=he.drop i;rw[xcx hi]at hd;obtain⟨c,r,h1,h2,h3⟩:=hd;have ha:i*e.n<=cs.length:=by rw[he.len];exact xaw _<|by lia
 refine⟨cs.take<|i*e.n,c,r,?_,by simp;lia,h2,fun w' y c' kk h'=>⟨by simpa using hl,?_⟩⟩
 ·rw[xaj,<-h1,xbN]
 ·show yu e S (xs.set i y) _ w';rw[List.set_eq_take_append_cons_drop,iq hi,xaj];exact((he.keep kk).take i).append ⟨c',r,rfl,h',h3.keep kk⟩
theorem Sub.row{α:Type}(e:zZ α)(xs:List α)(i:Nat)(x:α)(hx:xs[i]? =some x):Sub (zka e) xs (i*e.n) e x (fun y=>xs.set i y):=by
 intro S w cs he;obtain⟨hi,_⟩:=xat.1 hx;obtain⟨pre,c,post,h1,h2,h3,h4⟩:=Sub.nth xs.length e xs i x hx S w cs ⟨rfl,he⟩;exact⟨pre,c,post,h1,h2,h3,fun w' y c' kk h'=>(h4 w' y c' kk h').2⟩
theorem Sub.comp{α β γ:Type}{e:nC α}{x:α}{o o':Nat}{f:zZ β}{y:β}{g:zZ γ}{z:γ}{up:β->α}{up':γ->β}(h:Sub e x o f y up)(h':Sub f.c y o' g z up'):
 Sub e x (o+o') g z (fun t=>up<|up' t):=by
 intro S w cs he;obtain⟨pre,c,post,rfl,h1,h2,h3⟩:=h S w cs he;obtain⟨pre',c',post',rfl,ha,hb,hd⟩:=h' S w c h2;refine⟨pre++pre',c',post'++post,by simp[xaj],by simp[h1,ha],hb,fun w' t c'' k hc=> ?_⟩;have:=h3 w' _ _ k<|hd w' t c'' k hc;simpa[xaj]using this
section
variable{P:Program}{N:Nd}{we:World}{Se:Nat->Prop}{ms:List MF}{Γ:List FF}{Q:Qs}{env:yN}{ops:Array Oper}{rest:List Oper}
 {d:Option Tmp}{ty yt t:TypeId}{pos:String}{aft:Array Edge}{g:Option (Nat×Bool)}{x y:Operand}
theorem n7{et:TypeId}{ag:Bool}{sz bytes:Nat}{zero:Value}{b o n cap k:Nat}{ik:IntKind}(ht:P.underlying t=some (.slice et))(ha:X3 P et ag sz bytes zero)
 (hx:ev env x=.slice (some ⟨b,o,none⟩) n cap) (hi:ev env y=.int ik (k:Int)) (hk:k<n) (w:World):
 (execOp (ev env) ⟨d,.indexAddr t x y,ty,pos,aft,g⟩).run P w=.ok (.value (.pointer<|some ⟨b,o+k*sz,none⟩)) w:=by
 have:(0:Int)<=(k:Int)/\(k:Int)<(n:Int):=by lia
 simp only[execOp,hx,hi,Instr.indexAt,asIntOf,run_underlying ht,xas,xaG,xad,iq this,xp ha,qc,xaK]
theorem IY{et:TypeId}{ag:Bool}{sz bytes:Nat}{zero:Value}{b o n k:Nat}{ik:IntKind}(ht:P.underlying t=some (.array n et))(ha:X3 P et ag sz bytes zero)
 (hx:ev env x=.pointer (some ⟨b,o,none⟩)) (hi:ev env y=.int ik (k:Int)) (hk:k<n) (w:World):
 (execOp (ev env) ⟨d,.indexAddr t x y,ty,pos,aft,g⟩).run P w=.ok (.value (.pointer<|some ⟨b,o+k*sz,none⟩)) w:=by
 have:(0:Int)<=(k:Int)/\(k:Int)<(n:Int):=by lia
 simp only[execOp,hx,hi,Instr.indexAt,xfu,asIntOf,run_underlying ht,xas,xaG,xad,iq this,xp ha,qc,xaK]
theorem RL{α β:Type}{e:zZ α}{f:zZ β}{z:α}{z':β}{up:β->α}{p:Value}{et:TypeId}{ag:Bool}{sz bytes:Nat}{zero:Value}{n k:Nat}{ik:IntKind}(ht:P.underlying t=some (.array n et))(hc:X3 P et ag sz bytes zero)
 (hx:ev env x=p) (hi:ev env y=.int ik (k:Int)) (hk:k<n) (hb:Sub e.c z (k*sz) f z' up) (hf:∀(S:Nat->Prop) (w:World),zA S Γ w->(fP e z p).p S w):
 Eu P ⟨d,.indexAddr t x y,ty,pos,aft,g⟩ env ms Γ (fun p:Value=>p) (fun p=>[fP f z' p]) (fun _=>True):=by
 intro w S _ _ hΓ;obtain⟨b,o,cs,rfl,hS,ha,he⟩:=hf S w hΓ;obtain⟨pre,c,post,rfl,h1,h2,_⟩:=hb S w cs he;refine kv.of_value (IY ht hc hx hi hk w) ⟨_,rfl,trivial,yq.refl _ _,⟨⟨b,o+k*sz,c,rfl,hS,⟨ha.1,fun j v hv=> ?_⟩,h2⟩,trivial⟩⟩;rw[xcR,<-h1];refine ha.2 _ v ?_;rw[xaj,xcn (by lia),xfc,xbq (xat.1 hv).1];exact hv
def Nc(P:Program)(t:TypeId)(i:Nat):Option Nat:=match P.underlying t with
 |some (.struct fs)=>match fs[i]? with
  |some f=>match P.info? f.type with
   |some inf=>if inf.size=0 then none else some f.offset
   |none=>none
  |none=>none
 |_=>none
theorem IM{i off b o:Nat}(h:Nc P t i=some off)(w:World):(Instr.fieldAt t (.pointer<|some ⟨b,o,none⟩) i).run P w=.ok (.pointer<|some ⟨b,o+off,none⟩) w:=by
 unfold Nc at h;split at h
 ·next fs hu=>
  split at h
  ·next f hf=>
   split at h
   ·next inf hi=>
    split at h
    ·cases h
    ·next hs=>
     cases h;simp only[Instr.fieldAt,xas,run_underlying hu,xad,hf,xfu,xaG,fieldPlace,sizeOf,typeInfo,run_program,hi,ir hs,qc]
   ·cases h
  ·cases h
 ·cases h
theorem oy{i off b o:Nat}(h:Nc P t i=some off)(hx:ev env x=.pointer (some ⟨b,o,none⟩))(w:World):
 (execOp (ev env) ⟨d,.fieldAddr t x i,ty,pos,aft,g⟩).run P w=.ok (.value (.pointer<|some ⟨b,o+off,none⟩)) w:=by
 simp only[execOp,hx,xas,IM h,xad,xaG]
theorem zbB{α β:Type}{e:zZ α}{f:zZ β}{z:α}{z':β}{up:β->α}{p:Value}{i off:Nat}(h:Nc P t i=some off)(hx:ev env x=p)(hb:Sub e.c z off f z' up)
 (hf:∀(S:Nat->Prop) (w:World),zA S Γ w->(fP e z p).p S w):Eu P ⟨d,.fieldAddr t x i,ty,pos,aft,g⟩ env ms Γ (fun p:Value=>p) (fun p=>[fP f z' p]) (fun _=>True):=by
 intro w S _ _ hΓ;obtain⟨b,o,cs,rfl,hS,ha,he⟩:=hf S w hΓ;obtain⟨pre,c,post,rfl,h1,h2,_⟩:=hb S w cs he;refine kv.of_value (oy h hx w) ⟨_,rfl,trivial,yq.refl _ _,⟨⟨b,o+off,c,rfl,hS,⟨ha.1,fun j v hv=> ?_⟩,h2⟩,trivial⟩⟩;rw[xcR,<-h1];refine ha.2 _ v ?_;rw[xaj,xcn (by lia),xfc,xbq (xat.1 hv).1];exact hv
theorem St.muts{i:Nat}{m:MF}{w:World}(h:St we Se ms Γ w)(hi:ms[i]? =some m):∃S:Nat->Prop,m.p S w/\yw S ms w/\zA S Γ w:=by
 obtain⟨h1,h2,h3,S,h4,h5,h6,h7,h8⟩:=h;exact⟨S,yw.get h7 hi,h7,h8⟩
theorem St.mut{i:Nat}{m:MF}{w:World}(h:St we Se ms Γ w)(hi:ms[i]? =some m):∃S:Nat->Prop,(∀k,w.heap.size<=k->S k)/\m.p S w/\zA S Γ w/\∀(Δ:List FF),zA S Δ w->St we Se ms Δ w:=by
 obtain⟨h1,h2,h3,S,h4,h5,h6,h7,h8⟩:=h;exact⟨S,h5,yw.get h7 hi,h8,fun Δ hΔ=>⟨h1,h2,h3,S,h4,h5,h6,h7,hΔ⟩⟩
theorem At.mid{w:World}{b:Nat}{cs:Array Value}{E:TypeId}{pre c post:List Value}(h:w.heap[b]? =some (.cells cs E (0,0)))(ha:cs.toList=pre++c++post):At w b pre.length c:=by
 have:=((At.row h).drop pre.length).take c.length;rw[ha]at this;simpa using this
theorem QU{α β:Type}{e:nC α}{E b:Nat}{z:α}{f:zZ β}{o:Nat}{z':β}{up:β->α}{bytes:Nat}{zero:Value}(i:Nat)
 (hm:ms[i]? =some (mB e E b z)) (hx:ev env x=.pointer (some ⟨b,o,none⟩)) (hb:Sub e z o f z' up) (ht:X3 P t f.agg f.n bytes zero):
 Eu P ⟨d,.load t x,ty,pos,aft,g⟩ env ms Γ (fun v:Value=>v) (fun v=>[fV f z' v]) (fun _=>True):=by
 intro w S _ hM hΓ;obtain⟨cs,hg,hp⟩:=yw.get hM hm;obtain⟨pre,c,post,hc,h1,h2,_⟩:=hb S w cs.toList hp;have ha:At w b o c:=h1▸At.mid hg hc;refine kv.of_value (w':=w) (v:=f.val c) ?_ ⟨_,rfl,trivial,yq.refl _ _,zkx h2,trivial⟩;simp[execOp,hx,Instr.loadAt,xfu,Uc ht h2 ha]
theorem Wu(w:World)(b:Nat)(cs:Array Value):yq (fun k=>k≠b) w (w.setRow b cs):=
 ⟨rfl,rfl,rfl,by simp[World.setRow],fun k _ hk=>setRow_other w b k cs hk⟩
theorem EG{ag:Bool}{n bytes:Nat}{zero:Value}(ht:X3 P t ag n bytes zero){w:World}{b:Nat}{cs:Array Value}{E:TypeId}{pre c post:List Value}{v:Value}
 (h:w.heap[b]? =some (.cells cs E (0,0))) (ha:cs.toList=pre++c++post) (hc:c.length=n) (hv:v.cells.toList.length=n) (h1:∀u∈v.cells.toList,u.oneCell'=true):
 (storeVar t ⟨b,pre.length,none⟩ v).run P w=.ok () (w.setRow b (pre++v.cells.toList++post).toArray):=by
 unfold storeVar;have hb:cs.size=(pre++c++post).length:=by rw[<-ha];simp
 have hs:=run_storeCells_at P b pre.length E v.cells.toList 0 cs w h (by rw[hb,hv];simp;lia) h1;have hd:v.cells.size=n:=by simpa using hv
 simp only[xas,xp ht,xad,hd,ne_eq,not_true_eq_false,if_false];refine hs.trans ?_;congr 2;rw[ha,hv,xbT];congr 2
 ·rw[xaj,xfO rfl]
 ·rw[<-hc,<-xax,xfb rfl]
theorem Yj{α β:Type}{e:nC α}{E b:Nat}{z:α}{f:zZ β}{o:Nat}{z' y':β}{up:β->α}{bytes:Nat}{zero v:Value}(i:Nat)(hm:ms[i]? =some (mB e E b z))(hx:ev env x=.pointer (some ⟨b,o,none⟩))(hy:ev env y=v)(hb:Sub e z o f z' up)(ht:X3 P t f.agg f.n bytes zero)
 (hv:∀(S:Nat->Prop) (w:World),zA S Γ w->(fV f y' v).p S w):OG P ⟨none,.store t x y,ty,pos,aft,g⟩ env we Se ms Γ (fun _:Unit=>undef) (fun _=>(ms.set i<|mB e E b<|up y')) (fun _=>Γ) (fun _=>True):=by
 intro w hf;obtain⟨S0,_,⟨cs0,hd,hq⟩,hr,_⟩:=hf.mut hm;obtain⟨pre0,c0,post0,ha,he,hi,_⟩:=hb S0 w cs0.toList hq;have hj:=ZZ<|hv S0 w hr;have hn:(execOp (ev env) ⟨none,.store t x y,ty,pos,aft,g⟩).run P w=.ok .skip (w.setRow b (pre0++v.cells.toList++post0).toArray):=by
  have:=EG ht hd ha (f.len hi) (f.len hj)<|f.one hj;rw[he]at this;simp only[execOp,hx,hy,Instr.storeAt,xfu,xas,xaG,xad,this]
 refine kv.of_skip hn ⟨(),rfl,trivial,hf.write hm rfl rfl (Wu w b _) ?_⟩;rintro S hS ⟨cs,hg,hp⟩ h8;rw[hd]at hg;cases hg;obtain⟨pre,c,post,ho,hl,hc,hs⟩:=hb S w cs0.toList hp;have e1:pre=pre0:=by
  have h1:pre=cs0.toList.take o:=by rw[ho,xaj,<-hl,xfO rfl]
  have h2:pre0=cs0.toList.take o:=by rw[ha,xaj,<-he,xfO rfl]
  rw[h1,h2]
 have e2:post=post0:=by
  have h1:post=cs0.toList.drop (o+f.n):=by rw[ho,<-hl,<-f.len hc,<-xax,xfb rfl]
  have h2:post0=cs0.toList.drop (o+f.n):=by rw[ha,<-he,<-f.len hi,<-xax,xfb rfl]
  rw[h1,h2]
 subst e1 e2;have kk:yq S w (w.setRow b (pre++v.cells.toList++post).toArray):=(Wu w b _).weak fun k _ hk=>hS k hk;exact⟨_,setRow_heap w b cs0 _ E (0,0) hd,by simpa using hs _ y' _ kk (f.keep (ZZ<|hv S w h8) kk)⟩
theorem Oz{α:Type}{e:zZ α}{et:TypeId}{z:α}{n bytes:Nat}{zero:Value}{yy:Operand}{kl kc:IntKind}(ht:P.underlying t=some (.slice et))(he:X3 P et e.agg e.n bytes zero)(hx:ev env x=.int kl (n:Int))(hy:ev env yy=.int kc (n:Int))(hb:bytes*n<=281474976710656)(hn:n<=9223372036854775807)
 (hz:∀(S:Nat->Prop) (w:World),e.p S z zero.cells.toList w):OG P ⟨d,.makeSlice t x yy,ty,pos,aft,g⟩ env we Se ms Γ (fun b=>(.slice (some ⟨b,0,none⟩) n n)) (fun b=>(mR e et b (xaf n z)::ms)) (fun _=>Γ) (fun _=>True):=by
 intro w hf;obtain⟨i,hi,h1,h2,h3⟩:=he.info;have hr:=run_make (P:=P) w t et i zero ht hi h3 kl kc (n:Int) (n:Int) (by lia) (by lia) (by rw[h2,<-xfd];exact Int.ofNat_le.2 hb) (by lia);have hd:zero.cells.toList.length=e.n:=e.len<|hz (fun _=>True) w;have hc:(madeCells zero.cells<|n*i.size).toList=(xaf n zero.cells.toList).flatten:=by
  rw[h1];apply xcy;intro j;have hs:zero.cells.size=e.n:=by simpa using hd
  by_cases hj:j<n*e.n
  ·have ha:0<e.n:=xcI fun h0=>by rw[h0]at hj;simp at hj
   have e1:(madeCells zero.cells<|n*e.n).toList[j]? =zero.cells.toList[j%e.n]? :=by
    have hm:=xbi j ha;simp[madeCells,hj,hs,hm]
   have e2:((xaf n zero.cells.toList).flatten)[j]? =zero.cells.toList[j%e.n]? :=by
    have:=(yu.replicate (hz (fun _=>True) w) n).get (i:=j/e.n) (x:=z) (by rw[xfe,iq<|(xbd ha).2 hj]);exact flatten_get zero.cells.toList e.n hd ha n j hj
   rw[e1,e2]
  ·rw[xaH (by simp[size_madeCells];lia),xaH<|by simp[hd];lia]
 refine kv.of_value (w':=w.alloc (.cells (madeCells zero.cells<|n*i.size) et)) (v:=.slice (some ⟨w.heap.size,0,none⟩) n n) ?_ ⟨_,rfl,trivial,hf.fresh (QA.alloc w _) rfl (by simp) ?_⟩
 ·simp only[execOp,hx,hy,xas,hr,xad,xaG,xaK]
 ·intro S _ _;refine⟨_,heap_alloc_new w _,?_⟩;rw[hc];exact yu.replicate (hz _ _) n
 where
 flatten_get (l:List Value) (m:Nat) (hl:l.length=m) (hm:0<m):∀(n j:Nat),j<n*m->((xaf n l).flatten)[j]? =l[j%m]?
  |0,j,h=>by simp at h
  |n+1,j,h=>by
   rw[xeh,List.flatten_cons];by_cases hj:j<m
   ·rw[xbq (by lia),xar hj]
   ·rw[xcn (by lia),hl,flatten_get l m hl hm n (j-m) (by rw[xaV]at h;lia),<-Nat.mod_eq_sub_mod<|by lia]
end
end
section
section
variable{we:World}{Se:Nat->Prop}{ms:List MF}{Γ Δ:List FF}{w w':World}
theorem St.growM{i:Nat}{m m':MF}(h:St we Se ms Γ w)(hi:ms[i]? =some m)(x:yq (fun k=>¬m.blk k) w w')(hb:∀k,m'.blk k->m.blk k\/w.heap.size<=k)
 (n:∀S:Nat->Prop,(∀k,S k->¬m.blk k)->yw S ms w->zA S Γ w->m'.p S w'):St we Se (ms.set i m') Γ w':=by
 obtain⟨h1,h2,h3,S,h4,h5,h6,h7,h8⟩:=h;have hm:=xbx hi;have hS:∀k,S k->¬m.blk k:=fun k hk e=>(h6 m hm k e).1 hk;have hd:∀k,k<w.heap.size->S k->S k/\¬m'.blk k:=fun k hk hs=>⟨hs,fun e=>by
  rcases hb k e with h|h
  ·exact hS k hs h
  ·lia⟩
 have he:∀k,(S k/\¬m'.blk k)->¬m.blk k:=fun k hk=>hS k hk.1;have x':yq (fun k=>S k/\¬m'.blk k) w w':=x.weak fun k _ hk=>he k hk;have hf:=fun m2 ha=>yw.lt h7 m2 ha;have other:∀(j:Nat) (m2:MF),j≠i->ms[j]? =some m2->∀k,m2.blk k->¬m.blk k/\¬m'.blk k:=fun j m2 hj ha k hk=>by
  have h1:¬m.blk k:=fun e=>Uj h3 hi k e j m2 hj ha hk;refine⟨h1,fun e=> ?_⟩;rcases hb k e with h|h
  ·exact h1 h
  ·have:=hf m2 (xbx ha) k hk;lia
 have hg:=n _ he (yw.sub hd h7)<|zA.sub hd h8;refine⟨h1.behind x (fun k hk e=>by have:=(h6 m hm k e).2;lia),h2,?_,fun k=>S k/\¬m'.blk k,fun k hk=>h4 k hk.1,?_,?_,?_,?_⟩
 ·exact apart_move i m' h3<|fun j m2 hj ha k hk=>(other j m2 hj ha k hk).2
 ·exact fun k hk=>⟨h5 k<|xam x.size hk,fun e=>by have:=m'.lt hg k e;lia⟩
 ·intro m2 ha k hk;obtain⟨j,hj,rfl⟩:=xcJ ha;rw[xfE]at hk;rw[xcK]at hj;split at hk
  ·refine⟨fun hc=>hc.2 hk,?_⟩;rcases hb k hk with h|h
   ·exact(h6 m hm k h).2
   ·have:=h1.size;lia
  ·exact⟨fun hc=>(h6 _ (xbn hj) k hk).1 hc.1,(h6 _ (xbn hj) k hk).2⟩
 ·exact allM_move i m' x' hg (fun j m2 hj ha k hk=>x.block k (hf m2 (xbx ha) k hk) (other j m2 hj ha k hk).1)<|yw.sub hd h7
 ·exact zA.keep x'<|zA.sub hd h8
 where
 apart_move:∀{ms:List MF} (i:Nat) (m':MF),X2 ms->(∀(j:Nat) (m2:MF),j≠i->ms[j]? =some m2->∀k,m2.blk k->¬m'.blk k)->X2 (ms.set i m')
  |[],_,_,h,_=>by simpa using h
  |m::r,0,m',h,ho=>⟨fun k hk m2 ha hc=>by
   obtain⟨j,hj,rfl⟩:=xcJ ha;exact ho (j+1) r[j] (by lia) (by simp[hj]) k hc hk,h.2⟩
  |m::r,i+1,m',h,ho=>by
   refine⟨fun k hk m2 ha=> ?_,apart_move i m' h.2<|fun j m2 hj ha=>ho (j+1) m2 (by lia)<|by simpa using ha⟩;obtain⟨j,hj,rfl⟩:=xcJ ha;rw[xfE];split
   ·exact ho 0 m (by lia) rfl k hk
   ·exact h.1 k hk _<|xbn _
 allM_move {S:Nat->Prop}:∀{ms:List MF} (i:Nat) (m':MF),yq S w w'->m'.p S w'->(∀(j:Nat) (m2:MF),j≠i->ms[j]? =some m2->∀k,m2.blk k->w'.heap[k]? =w.heap[k]?)->yw S ms w->yw S (ms.set i m') w'
  |[],_,_,_,_,_,_=>trivial
  |m::r,0,m',x,hm,ho,h=>⟨hm,yw.keep x (fun m2 ha k hk=>by
   obtain⟨j,hj,rfl⟩:=xcJ ha;exact ho (j+1) r[j] (by lia) (by simp[hj]) k hk) h.2⟩
  |m::r,i+1,m',x,hm,ho,h=>⟨m.keep h.1 x<|fun k hk=>ho 0 m (by lia) rfl k hk,allM_move i m' x hm (fun j m2 hj ha=>ho (j+1) m2 (by lia)<|by simpa using ha) h.2⟩
theorem St.grow{i:Nat}{m m':MF}(h:St we Se ms Γ w)(hi:ms[i]? =some m)(x:yq (fun k=>¬m.blk k) w w')(hb:∀k,m'.blk k->m.blk k\/w.heap.size<=k)
 (n:∀S:Nat->Prop,(∀k,S k->¬m.blk k)->m.p S w->zA S Γ w->m'.p S w'):St we Se (ms.set i m') Γ w':=by grind [St.growM,yw.get]
theorem St.conv{i:Nat}{m m':MF}(h:St we Se ms Γ w)(hi:ms[i]? =some m)(hb:m'.blk=m.blk)(n:∀S:Nat->Prop,m.p S w->m'.p S w):St we Se (ms.set i m') Γ w:=by grind [St.grow,yq.refl]
theorem St.nilO{α:Type}{e:zZ α}{E:TypeId}(h:St we Se ms Γ w):St we Se (mO e E (.slice none 0 0) []::ms) Γ w:=by
 obtain⟨h1,h2,h3,S,h4,h5,h6,h7,h8⟩:=h;refine⟨h1,h2,⟨(fun _ hk=>by cases hk),h3⟩,S,h4,h5,?_,⟨⟨[],World.ownsRow_nil _ _ _ _,rfl⟩,h7⟩,h8⟩;intro m hm k hk;rcases xac.1 hm with rfl|hm
 ·cases hk
 ·exact h6 m hm k hk
end
section
variable{P:Program}{N:Nd}{we:World}{Se:Nat->Prop}{ms:List MF}{Γ:List FF}{Q:Qs}{env:yN}{ops:Array Oper}{rest:List Oper}
 {d:Option Tmp}{ty yt t:TypeId}{pos:String}{aft:Array Edge}{g:Option (Nat×Bool)}{x y:Operand}
theorem B0{α:Type}{e:nC α}{z:α}{ag:Bool}{sz bytes:Nat}{zero:Value}{E:TypeId}(ht:X3 P E ag sz bytes zero)
 (hz:∀(S:Nat->Prop) (w:World),e.p S z zero.cells.toList w):OG P ⟨d,.alloc E,ty,pos,aft,g⟩ env we Se ms Γ (fun b=>(.pointer<|some ⟨b,0,none⟩)) (fun b=>(mB e E b z::ms)) (fun _=>Γ) (fun _=>True):=by
 intro w ha;refine kv.of_value (w':=w.alloc (.cells zero.cells E)) (v:=.pointer<|some ⟨w.heap.size,0,none⟩) ?_ ⟨_,rfl,trivial,ha.fresh (QA.alloc w _) rfl (by simp) fun S _ _=>⟨_,heap_alloc_new w _,hz _ _⟩⟩;simp only[execOp,Instr.alloc,xas,w7 ht,xad,newVar,newRow,run_newObj_alloc,xaG]
theorem zdT{α:Type}{e:zZ α}{z:α}{v:Value}{E:TypeId}(hx:ev env x=v)
 (hf:∀(S:Nat->Prop) (w:World),zA S Γ w->(fV e z v).p S w):OG P ⟨d,.box E x,ty,pos,aft,g⟩ env we Se ms Γ (fun b=>(.pointer<|some ⟨b,0,none⟩)) (fun b=>(mB e.c E b z::ms)) (fun _=>Γ) (fun _=>True):=by
 intro w ha;refine kv.of_value (w':=w.alloc (.cells v.cells E)) (v:=.pointer<|some ⟨w.heap.size,0,none⟩) ?_ ⟨_,rfl,trivial,ha.fresh (QA.alloc w _) rfl (by simp) fun S h5 hΓ=>⟨_,heap_alloc_new w _,?_⟩⟩
 ·simp only[execOp,hx,Instr.box,newVar,newRow,xas,run_newObj_alloc,xad,xaG]
 ·exact e.keep (e.sub (ZZ<|hf S w hΓ) fun k hk hs=>⟨hs,by lia⟩) (QA.alloc w _).to
theorem KI(w:World)(t ty e:TypeId)(i:TypeInfo)(z:Value)(size bytes:Nat)(ht:P.underlying t=some (.slice e))(hi:P.info? e=some i)(hz:i.zero=some z)
 (he:i.size=size) (hn:i.bytes=bytes) (hu:z.cells.size=size) (hv:0<size)
 (v:Value) (n:Nat) (xs:List Value) (hd:w.ownsRow 0 e size v n xs)
 (a:Addr) (m c:Nat) (news:List Value) (hl:news.length=m*size) (ha:∀j u,news[j]? =some u->w.cell? (a.add j)=some u) (h1:∀u∈news,u.oneCell'=true)
 (hp:n+m<=maxLen) (hc:(n+m)*bytes<=140737488355328):
 ∃v' w',(xch #[t,t] ty #[v,.slice (some a) m c]).run P w=.ok v' w'/\w'.ownsRow 0 e size v' (n+m) (xs++news)/\w.grownBy w' v.ownBlock/\
  ∀k,v'.ownBlock=some k->v.ownBlock=some k\/w.heap.size<=k:=by
 obtain⟨v',w',hr,ho,hg,_⟩:=run_append_own (P:=P) w 0 t ty e i z size bytes ht hi hz he hn hu hv v n xs hd a m c news hl ha h1 hp hc<|xah _;refine⟨v',w',hr,ho,hg,?_⟩;subst he hn;have hs:n+m<=9223372036854775807:=by simp only[maxLen]at hp;lia
 rcases hd.2 with⟨rfl,rfl⟩|⟨g,cap,cur,rfl,hA,hw,hB,hC,hx,hy⟩
 ·by_cases hm:m=0
  ·subst hm;have:=run_append_nil0 (w:=w) t ty e i ht hi a c;rw[this]at hr;cases hr;exact fun k hk=>by cases hk
  ·have:=run_append_nil (P:=P) w t ty e i z ht hi hz a m c news hl ha (by lia) (by lia) (by have hb:=hc;simp only[xaN]at hb;lia);rw[this]at hr;cases hr;exact fun k hk=> .inr<|by cases hk;exact xab _
 ·by_cases hf:n+m<=cap
  ·have hq:n*i.size+news.length<=cur.size:=by rw[hl,hx,<-xaV];exact xaw _ hf
   have:=run_append_room (P:=P) w t ty e i ht hi g n cap cur hw a m c news hl ha h1 hf hq;rw[this]at hr;cases hr;exact fun k hk=> .inl hk
  ·have hj:∀j u,xs[j]? =some u->w.cell? ((⟨g,0,none⟩:Addr).add j)=some u:=hd.cells (g:=g) rfl;have:=run_append_grow (P:=P) w t ty e i z ht hi hz ⟨g,0,none⟩ n cap xs hd.1 hj a m c news hl ha (by lia) (by lia)<|growslice_fits (by lia) hc;rw[this]at hr;cases hr;exact fun k hk=> .inr<|by cases hk;exact xab _
 where
 run_append_nil0 {w:World} (t ty e:TypeId) (i:TypeInfo) (ht:P.underlying t=some (.slice e)) (hi:P.info? e=some i) (a:Addr) (c:Nat):
  (xch #[t,t] ty #[.slice none 0 0,.slice (some a) 0 c]).run P w=.ok (.slice none 0 0) w:=by
  simp[xch,run_underlying ht,sizeOf,typeInfo,hi,Builtin.lenOf,Builtin.firstCells,loadCells,loadCellsFrom]
def SlQ{α:Type}(e:zZ α)(S:Nat->Prop)(xs:List α)(v:Value)(w:World):Prop:=
 ∃ao cap,v=.slice ao xs.length cap/\xs.length<=cap/\cap<=maxLen/\(xs=[]\/∃b o cs,ao=some ⟨b,o,none⟩/\At w b o cs/\yu e S xs cs w)
theorem SlQ.of{α:Type}{e:zZ α}{S:Nat->Prop}{xs:List α}{v:Value}{w:World}(h:(fV (eS e) xs v).p S w):SlQ e S xs v w:=by
 obtain⟨ao,cap,h1,h2,h3,h4⟩:=xm.1 h;refine⟨ao,cap,h1,h2,h3,?_⟩;rcases h4 with h4|⟨b,o,cs,a1,a2,a3,a4⟩
 ·exact .inl h4
 ·exact .inr ⟨b,o,cs,a1,a3,a4⟩
theorem J2{α:Type}{e:zZ α}{et:TypeId}{xs ys:List α}{v u:Value}{bytes:Nat}{zero:Value}(i:Nat)(ht:P.underlying t=some (.slice et))(hK:X3 P et e.agg e.n bytes zero)(hD:zero.cells.size=e.n)(hn:0<e.n)
 (hm:ms[i]? =some (mO e et v xs)) (hx:ev env x=v) (hy:ev env y=u) (hf:∀(S:Nat->Prop) (w:World),yw S ms w->zA S Γ w->SlQ e S ys u w)
 (h4:xs.length+ys.length<=9223372036854775807) (hb:(xs.length+ys.length)*bytes<=140737488355328):OG P ⟨d,.call ⟨.builtin .append,#[x,y],#[t,t]⟩,ty,pos,aft,g⟩ env we Se ms Γ (fun v'=>v') (fun v'=>(ms.set i<|mO e et v'<|xs++ys)) (fun _=>Γ) (fun _=>True):=by
 intro w hE;obtain⟨S,⟨cs,ho,he⟩,h7,h8⟩:=hE.muts hm;obtain⟨ao,cap,hu,h1,h2,h3⟩:=hf S w h7 h8;obtain⟨ti,hi,i1,i2,i3⟩:=hK.info;have hL:∀v' w',(xch #[t,t] ty #[v,u]).run P w=.ok v' w'->(execOp (ev env) ⟨d,.call ⟨.builtin .append,#[x,y],#[t,t]⟩,ty,pos,aft,g⟩).run P w=.ok (.value v') w':=fun v' w' hr=>by simp only[execOp,resolve,invoke,builtin,xdI,xbX,xex,hx,hy,xas,hr,xaG,xad]
 have hz:xs.length+ys.length<=maxLen:=by unfold maxLen;lia
 have main:∃v' w',(xch #[t,t] ty #[v,u]).run P w=.ok v' w'/\w.grownBy w' v.ownBlock/\(∀k,v'.ownBlock=some k->v.ownBlock=some k\/w.heap.size<=k)/\
  ∀S:Nat->Prop,(∀k,S k->v.ownBlock≠some k)->yw S ms w->zA S Γ w->(mO e et v'<|xs++ys).p S w':=by
  have fin:∀(w':World) (v':Value) (news:List Value),w.grownBy w' v.ownBlock->w'.ownsRow 0 et e.n v' (xs.length+ys.length) (cs++news)->
   (∀S:Nat->Prop,yw S ms w->zA S Γ w->yu e S ys news w)->∀S:Nat->Prop,(∀k,S k->v.ownBlock≠some k)->yw S ms w->zA S Γ w->(mO e et v'<|xs++ys).p S w':=by
   intro w' v' news hg hd hB S hS hM hΓ;obtain⟨cs2,hF,hN⟩:=yw.get hM hm;have hO:cs2=cs:=by
    rcases ho.2 with⟨rfl,h0⟩|⟨g,cap,cur,rfl,_,hP,_,_,_,hQ⟩
    ·have a1:=ho.1;have a2:=hF.1;rw[h0]at a1 a2;have c1:cs=[]:=xbt (by simpa using a1);have c2:cs2=[]:=xbt (by simpa using a2);rw[c1,c2]
    ·rcases hF.2 with⟨hc,_⟩|⟨g',cap',cur',hR,_,hA,_,_,_,hG⟩
     ·cases hc
     ·cases hR;rw[hP]at hA;cases hA;rw[<-hQ,<-hG]
   subst hO;have kk:yq S w w':=⟨hg.os,hg.tape,hg.output,hg.size,fun k hk hs=>hg.block k hk<|fun e=>hS k hs e.symm⟩;exact⟨cs2++news,by rw[xax];exact hd,(hN.keep kk).append<|(hB S hM hΓ).keep kk⟩
  have nilcase:ys=[]->(ao=none->u=.slice none 0 cap)->∃v' w',(xch #[t,t] ty #[v,u]).run P w=.ok v' w'/\w.grownBy w' v.ownBlock/\(∀k,v'.ownBlock=some k->v.ownBlock=some k\/w.heap.size<=k)/\
   ∀S:Nat->Prop,(∀k,S k->v.ownBlock≠some k)->yw S ms w->zA S Γ w->(mO e et v'<|xs++ys).p S w':=by
   intro hw hC
   subst hw
   cases ao with
   |none=>
    have hT:=hC rfl
    have hr:=run_append_owned_none' (w:=w) t ty et ti e.n ht hi v xs.length cs ho cap
    rw[<-hT]at hr
    exact⟨v,w,hr,⟨rfl,rfl,rfl,xab _,fun _ _ _=>rfl⟩,fun k hk=> .inl hk,fun S _ hp _=>by simpa using yw.get hp hm⟩
   |some a=>
    obtain⟨v',w',hr,hd,hg,hl⟩:=KI w t ty et ti zero e.n bytes ht hi i3 i1 i2 hD hn v xs.length cs ho a 0 cap [] (by simp) (by simp) (by simp) (by simpa using hz)<|by simpa using hb
    exact⟨v',w',by rw[hu];exact hr,hg,hl,fin w' v' [] hg (by simpa using hd)<|fun _ _ _=>rfl⟩
  rcases h3 with hw|⟨b,o,news,rfl,ha,hq⟩
  ·exact nilcase hw<|fun h=>by rw[hu,h,hw];rfl
  ·obtain⟨v',w',hr,hd,hg,hl⟩:=KI w t ty et ti zero e.n bytes ht hi i3 i1 i2 hD hn v xs.length cs ho ⟨b,o,none⟩ ys.length cap news hq.len
    (fun j c hc=>by rw[qc];exact ha.2 j c hc) hq.one hz hb
   refine⟨v',w',by rw[hu];exact hr,hg,hl,fin w' v' news hg hd fun S2 hU hV=> ?_⟩;obtain⟨ao2,cap2,hH,_,_,hW⟩:=hf S2 w hU hV;rw[hu]at hH;cases hH;rcases hW with rfl|⟨b2,o2,news2,hX,hY,hv⟩
   ·have:=hq.len;rw[xbS,xcv]at this;rw[xbt this];rfl
   ·cases hX;have:news2=news:=by
     apply xcy;intro j;by_cases hj:j<news.length
     ·have e1:=ha.2 j news[j] (by simp[hj]);have hI:j<news2.length:=by rw[hv.len,<-hq.len];exact hj
      have e2:=hY.2 j news2[j] (by simp[hI]);rw[e1]at e2;rw[xaa hj,xaa hI,e2]
     ·have h5:news2.length=news.length:=by rw[hv.len,<-hq.len]
      rw[xaH (l:=news) (by lia),xaH (l:=news2)<|by lia]
    rw[<-this];exact hv
 obtain⟨v',w',hr,hg,hl,hp⟩:=main;exact kv.of_value (hL v' w' hr) ⟨v',rfl,trivial,hE.growM hm ⟨hg.os,hg.tape,hg.output,hg.size,fun j hj hs=>hg.block j hj<|fun e=>hs e.symm⟩ hl hp⟩
 where
 run_append_owned_none' {w:World} (t ty e:TypeId) (i:TypeInfo) (size:Nat) (ht:P.underlying t=some (.slice e)) (hi:P.info? e=some i)
  (v:Value) (n:Nat) (xs:List Value) (hJ:w.ownsRow 0 e size v n xs) (c:Nat):
  (xch #[t,t] ty #[v,.slice none 0 c]).run P w=.ok v w:=by
  rcases hJ.2 with⟨rfl,rfl⟩|⟨g,cap,cur,rfl,_,_,hZ,_⟩
  ·simp[xch,run_underlying ht,sizeOf,typeInfo,hi,Builtin.lenOf,Builtin.firstCells]
  ·simp[xch,run_underlying ht,sizeOf,typeInfo,hi,Builtin.lenOf,Builtin.firstCells,hZ,storeCells]
theorem MO{α:Type}{e:zZ α}{et:TypeId}{xs ys:List α}{v u:Value}{bytes:Nat}{zero:Value}(i:Nat)(hw:yF ops env ⟨d,.call ⟨.builtin .append,#[x,y],#[t,t]⟩,ty,pos,aft,g⟩=true)(hd:qw N.n d=true)
 (ht:P.underlying t=some (.slice et)) (ha:X3 P et e.agg e.n bytes zero) (hc:zero.cells.size=e.n) (hn:0<e.n)
 (hm:ms[i]? =some (mO e et v xs)) (hx:ev env x=v) (hy:ev env y=u) (hf:∀(S:Nat->Prop) (w:World),yw S ms w->zA S Γ w->SlQ e S ys u w)
 (he:xs.length+ys.length<=9223372036854775807) (hb:(xs.length+ys.length)*bytes<=140737488355328)
 (k:∀v',TL P N we Se (ms.set i<|mO e et v'<|xs++ys) Γ ops rest Q<|put env d v'):TL P N we Se ms Γ ops (⟨d,.call ⟨.builtin .append,#[x,y],#[t,t]⟩,ty,pos,aft,g⟩::rest) Q env:=
 zf2 hw hd (J2 i ht ha hc hn hm hx hy hf he hb) fun v' _=>k v'
theorem R6{α:Type}{e:zZ α}{et:TypeId}{xs ys:List α}{v u:Value}{bytes:Nat}{zero:Value}(i:Nat)(hw:yF ops env ⟨d,.call ⟨.builtin .append,#[x,y],#[t,t]⟩,ty,pos,aft,g⟩=true)(hd:qw N.n d=true)
 (ht:P.underlying t=some (.slice et)) (ha:X3 P et e.agg e.n bytes zero) (hc:zero.cells.size=e.n) (hn:0<e.n)
 (hm:ms[i]? =some (mO e et v xs)) (hx:ev env x=v) (hy:ev env y=u) (hf:∀(S:Nat->Prop) (w:World),zA S Γ w->(fV (eS e) ys u).p S w)
 (he:xs.length+ys.length<=9223372036854775807) (hb:(xs.length+ys.length)*bytes<=140737488355328)
 (k:∀v',TL P N we Se (ms.set i<|mO e et v'<|xs++ys) Γ ops rest Q<|put env d v'):TL P N we Se ms Γ ops (⟨d,.call ⟨.builtin .append,#[x,y],#[t,t]⟩,ty,pos,aft,g⟩::rest) Q env:=
 MO i hw hd ht ha hc hn hm hx hy (fun S w _ h=>SlQ.of<|hf S w h) he hb k
theorem zhk{α:Type}{e:zZ α}{E b:Nat}{z:α}{w:World}(i:Nat)(h:St we Se ms Γ w)(hm:ms[i]? =some (mB e.c E b z)):
 St we Se (ms.eraseIdx i) (fP e z (.pointer<|some ⟨b,0,none⟩)::Γ) w:=
 h.freeze hm fun S S' hs hb hp=>zgH hs (hb b rfl) hp
theorem Dy{α:Type}{e:zZ α}{E:Nat}{v:Value}{xs:List α}{w:World}(i:Nat)(h:St we Se ms Γ w)(hm:ms[i]? =some (mO e E v xs)):
 St we Se (ms.eraseIdx i) (fV (eS e) xs v::Γ) w:=
 h.freeze hm fun S S' hs hb hp=>tS hs hb hp
theorem zfo{α:Type}{e:zZ α}{E b:Nat}{xs:List α}{n:Nat}{w:World}(i:Nat)(h:St we Se ms Γ w)(hm:ms[i]? =some (mR e E b xs))(hn:n=xs.length)(ha:xs.length<=9223372036854775807):
 St we Se (ms.set i<|mO e E (.slice (some ⟨b,0,none⟩) n n) xs) Γ w:=
 h.conv hm rfl fun S ⟨cs,hg,he⟩=>by
  subst hn;have hl:cs.size=xs.length*e.n:=by have:=yu.len (e:=e) he;simpa using this
  refine⟨cs.toList,⟨by simpa using hl,.inr ⟨b,xs.length,cs,rfl,xah _,hg,xab _,by unfold maxLen;lia,hl,?_⟩⟩,he⟩;rw[xaQ<|by simp[hl]]
end
end
section
theorem uX{a b:Nat}(h:a≠b):xap a b=false:=by grind [xap,xcL]
theorem o6{a b:Nat}(h:b<=a):xdc a b=false:=by
 cases hb:xdc a b
 ·rfl
 ·have:=xbM hb;omega
structure Pr where
 p:(Nat->Prop)->Value->World->Prop
 keepS:∀{S:Nat->Prop}{v:Value}{w w':World},p S v w->yq S w w'->p S v w'
 sub:∀{S S':Nat->Prop}{v:Value}{w:World},p S v w->(∀k,k<w.heap.size->S k->S' k)->p S' v w
theorem Pr.keep(Φ:Pr){S:Nat->Prop}{v:Value}{w w':World}(h:Φ.p S v w)(x:QA w w'):Φ.p S v w':=Φ.keepS h x.to
def prV(v:Value):Pr where
 p _ u _:=u=v
 keepS h _:=h
 sub h _:=h
def aJ(d:Option Tmp)(Φ:Pr)(K:List (Tmp×Pr)):List (Tmp×Pr):=match d with
 |some d=>(d,Φ)::K
 |none=>K
def Ze(K:List (Tmp×Pr))(env0 env:yN)(S:Nat->Prop)(w:World)(t:Tmp):Prop:=match K.find? (fun x=>xap x.1 t)with
 |some x=>x.2.p S (env t) w
 |none=>env t=env0 t
def X6(K:List (Tmp×Pr))(env0 env:yN)(S:Nat->Prop)(w:World):List Tmp->Prop
 |[]=>True
 |t::ts=>Ze K env0 env S w t/\X6 K env0 env S w ts
def Ob(P:Program)(ops:Array Oper)(ms:List MF)(Γ:List FF)(env0:yN)(K:List (Tmp×Pr))(o:Oper)(Φ:Pr):Prop:=
 ∀(S:Nat->Prop) (w:World) (env:yN),(∀k,w.heap.size<=k->S k)->yw S ms w->zA S Γ w->X6 K env0 env S w (o.looksAt ops)->
  (yF ops env o=true->kv P o env w (fun v w'=>QA w w'/\Φ.p S v w'))/\(yF ops env o=false->Φ.p S undef w)
def Obs(P:Program)(ops:Array Oper)(ms:List MF)(Γ:List FF)(env0:yN):List (Oper×Pr)->List (Tmp×Pr)->Prop
 |[],_=>True
 |(o,Φ)::r,K=>Ob P ops ms Γ env0 K o Φ/\Obs P ops ms Γ env0 r (aJ o.dst Φ K)
def IX:List (Oper×Pr)->List (Tmp×Pr)->List (Tmp×Pr)
 |[],K=>K
 |(o,Φ)::r,K=>IX r<|aJ o.dst Φ K
def XY(o:Oper)(i:Nat):Bool:=o.after.toList.any fun e=>xcs .any e && xap e.on i
def zS(l:List Oper)(i:Nat):Oper:=l.getD i default
def Nn(l:List Oper)(m:Nat):Bool:=xfU m l.length && (xbc l.length).all fun j=>
 ((zS l j).after.toList.all fun e=> !xcs .any e||xdc e.on j) &&
 (bif xdc j m then(xbc m).all fun i=>xap i j||(match(zS l i).dst with
  |some t=> !((xbC l.toArray<|zS l j).contains t||(zS l j).dst==some t)||(bif xdc i j then XY (zS l j) i else XY (zS l i) j)
  |none=>true)
  else(xbc j).all fun k=>XY (zS l j) k)
def vG(l:List Oper):Nat->Nat->Nat->Bool
 |0,i,k=>XY (zS l i) k
 |f+1,i,k=>XY (zS l i) k||(zS l i).after.toList.any fun e=>xcs .any e && vG l f e.on k
def YH(l:List Oper)(m:Nat):Bool:=xfU m l.length && (xbc l.length).all fun j=>
 ((zS l j).after.toList.all fun e=> !xcs .any e||xdc e.on j) &&
 (bif xdc j m then(xbc m).all fun i=>xap i j||(match(zS l i).dst with
  |some t=> !((xbC l.toArray<|zS l j).contains t||(zS l j).dst==some t)||(bif xdc i j then XY (zS l j) i else XY (zS l i) j)
  |none=>true)
  else bif xap j m then(xbc m).all fun k=>vG l 16 m k else XY (zS l j) (j-1))
section
variable{l:List Oper}{m:Nat}
theorem jF{o:Oper}{i:Nat}(h:XY o i=true):∃e∈o.after,xcs .any e=true/\e.on=i:=by
 unfold XY at h;rw[xeP]at h;obtain⟨e,he,hb⟩:=h;rw[xao]at hb;exact⟨e,xdi.1 he,hb.1,xcL hb.2⟩
theorem LF(h:Nn l m=true):m<=l.length/\
 (∀j,j<l.length->∀e∈(zS l j).after,xcs .any e=true->e.on<j)/\
 (∀j i t,j<m->i<m->i≠j->(zS l i).dst=some t->(t∈xbC l.toArray (zS l j)\/(zS l j).dst=some t)->(i<j->XY (zS l j) i=true)/\(j<i->XY (zS l i) j=true))/\
 (∀j,m<=j->j<l.length->∀k,k<j->XY (zS l j) k=true):=by
 unfold Nn at h;rw[xao,xaR]at h;obtain⟨h0,h1⟩:=h;have ha:=xbM h0;refine⟨ha,fun j hj e he hb=> ?_,fun j i t hj hi hc ht hl=> ?_,fun j hd hj k hk=> ?_⟩
 ·have:=h1 j<|xbf.2 hj;rw[xao,xaR]at this;have:=this.1 e<|xdi.2 he;rw[hb]at this;simpa using this
 ·have:=h1 j (xbf.2<|by omega);rw[xao]at this;have h2:=this.2;rw[show xdc j m=true by simpa using hj,cond_true,xaR]at h2;have h3:=h2 i<|xbf.2 hi;rw[uX hc,xej,ht]at h3;have h4:((xbC l.toArray<|zS l j).contains t||(zS l j).dst==some t)=true:=by
   rw[xdY];rcases hl with hl|hl
   ·left;simpa using hl
   ·right;simp[hl]
  simp only[h4,xdM,xej]at h3;constructor
  ·intro hf;rwa[show xdc i j=true by simpa using hf,cond_true]at h3
  ·intro hg;rwa[o6 (by omega),cond_false]at h3
 ·have:=h1 j<|xbf.2 hj;rw[xao]at this;have h2:=this.2;rw[o6 hd,cond_false,xaR]at h2;exact h2 k<|xbf.2 hk
theorem jV(h:YH l m=true):m<=l.length/\
 (∀j,j<l.length->∀e∈(zS l j).after,xcs .any e=true->e.on<j)/\
 (∀j i t,j<m->i<m->i≠j->(zS l i).dst=some t->(t∈xbC l.toArray (zS l j)\/(zS l j).dst=some t)->(i<j->XY (zS l j) i=true)/\(j<i->XY (zS l i) j=true))/\
 (∀j,m<j->j<l.length->XY (zS l j) (j-1)=true)/\(m<l.length->∀k,k<m->vG l 16 m k=true):=by
 unfold YH at h;rw[xao,xaR]at h;obtain⟨h0,h1⟩:=h;have ha:=xbM h0;refine⟨ha,fun j hj e he hb=> ?_,fun j i t hj hi hc ht hl=> ?_,fun j hf hj=> ?_,fun hm k hk=> ?_⟩
 ·have:=h1 j<|xbf.2 hj;rw[xao,xaR]at this;have:=this.1 e<|xdi.2 he;rw[hb]at this;simpa using this
 ·have:=h1 j (xbf.2<|by omega);rw[xao]at this;have h2:=this.2;rw[show xdc j m=true by simpa using hj,cond_true,xaR]at h2;have h3:=h2 i<|xbf.2 hi;rw[uX hc,xej,ht]at h3;have h4:((xbC l.toArray<|zS l j).contains t||(zS l j).dst==some t)=true:=by
   rw[xdY];rcases hl with hl|hl
   ·left;simpa using hl
   ·right;simp[hl]
  simp only[h4,xdM,xej]at h3;constructor
  ·intro hd;rwa[show xdc i j=true by simpa using hd,cond_true]at h3
  ·intro hg;rwa[o6 (by omega),cond_false]at h3
 ·have:=h1 j<|xbf.2 hj;rw[xao]at this;have h2:=this.2;rw[o6 (by omega),cond_false,uX (by omega),cond_false]at h2;exact h2
 ·have:=h1 m<|xbf.2 hm;rw[xao]at this;have h2:=this.2;rw[o6<|xab m,cond_false,Nat.beq_refl,cond_true,xaR]at h2;exact h2 k<|xbf.2 hk
theorem JI{listed:Array Bool}(ha:∀i,i<l.length->listed.getD i false=true->∀e∈(zS l i).after,xcs .any e=true->listed.getD e.on false=true)
 (h1:∀j,j<l.length->∀e∈(zS l j).after,xcs .any e=true->e.on<j):∀(f i k:Nat),i<l.length->(∀e∈(zS l i).after,xcs .any e=true->listed.getD e.on false=true)->vG l f i k=true->listed.getD k false=true
 |0,i,k,hi,hd,h=>by
  obtain⟨e,he,hb,hc⟩:=jF h;have:=hd e he hb;rwa[hc]at this
 |f+1,i,k,hi,hd,h=>by
  unfold vG at h;rw[xdY]at h;rcases h with h|h
  ·obtain⟨e,he,hb,hc⟩:=jF h;have:=hd e he hb;rwa[hc]at this
  ·rw[xeP]at h;obtain⟨e,he,hx⟩:=h;rw[xao]at hx;have hf:=xdi.1 he;have hg:=h1 i hi e hf hx.1;exact JI ha h1 f e.on k (by omega) (ha e.on (by omega)<|hd e hf hx.1) hx.2
theorem uA{i:Nat}(h:i<l.length):l.toArray[i]? =some (zS l i):=by
 simp[zS,h]
end
theorem cvt{α:Type}{e:zZ α}{x y:α}{v:Value}{S:Nat->Prop}{w:World}(h:x=y)(hp:(fV e x v).p S w):(fV e y v).p S w:=h▸hp
theorem zc9{α:Type}{e:zZ α}{S:Nat->Prop}{w:World}:(fV (eS e) [] (.slice none 0 0)).p S w:=xm.2 Sw.nil
theorem getD_some{α:Type}{l:List α}{k:Nat}(z:α)(h:k<l.length):l[k]? =some (l.getD k z):=by grind [xaa]
theorem zh8{α:Type}{e:zZ α}{xs:List α}{v:Value}{S:Nat->Prop}{w:World}(h:(fV (eS e) xs v).p S w):xs.length<=9223372036854775807:=by
 obtain⟨ao,cap,hv,hc,hm,_⟩:=xm.1 h;exact xam hc hm
theorem yu.all_u{S:Nat->Prop}{w:World}:∀{xs:List Nat}{cs:List Value},yu eU S xs cs w->∀x∈xs,x<18446744073709551616
 |[],_,_=>fun x hx=>absurd hx IR
 |y::ys,_,⟨c,r,_,hc,hr⟩=>fun x hx=>by
  rcases xac.1 hx with rfl|hx
  ·exact hc.2
  ·exact yu.all_u hr x hx
def zm(l:List Nat):Prop:=∀x∈l,x<18446744073709551616
theorem TX{xs:List Nat}{v:Value}{S:Nat->Prop}{w:World}(h:(fV (eS eU) xs v).p S w):zm xs:=by
 obtain⟨ao,cap,hv,hc,hm,h4⟩:=xm.1 h;rcases h4 with rfl|⟨b,o,cs,_,_,_,he⟩
 ·exact fun x hx=>absurd hx IR
 ·exact he.all_u
theorem gy(t:Tmp):∀(r:List (Oper×Pr)) (K:List (Tmp×Pr)),
 (∃(i:Nat) (x:Oper×Pr),r[i]? =some x/\x.1.dst=some t/\(∀(i':Nat) (x':Oper×Pr),r[i']? =some x'->x'.1.dst=some t->i'<=i)/\(IX r K).find? (fun y=>xap y.1 t)=some (t,x.2))\/
 ((∀(i:Nat) (x:Oper×Pr),r[i]? =some x->x.1.dst≠some t)/\(IX r K).find? (fun y=>xap y.1 t)=K.find? (fun y=>xap y.1 t))
 |[],K=> .inr ⟨fun i x h=>by simp at h,rfl⟩
 |(o,Φ)::r,K=>by
  rcases gy t r (aJ o.dst Φ K)with⟨i,x,h1,h2,h3,h4⟩|⟨h1,h2⟩
  ·refine .inl ⟨i+1,x,by simpa using h1,h2,fun i' x' ha hd=> ?_,h4⟩
   cases i' with
   |zero=>omega
   |succ i'=>have:=h3 i' x' (by simpa using ha) hd;omega
  ·by_cases hd:o.dst=some t
   ·refine .inl ⟨0,(o,Φ),rfl,hd,fun i' x' ha hb=> ?_,?_⟩
    ·cases i' with
     |zero=>omega
     |succ i'=>exact absurd hb<|h1 i' x'<|by simpa using ha
    ·show(IX r<|aJ o.dst Φ K).find? _=_;rw[h2,hd];simp[aJ]
   ·refine .inr ⟨fun i x hx=> ?_,?_⟩
    ·cases i with
     |zero=>simp at hx;subst hx;exact hd
     |succ i=>exact h1 i x<|by simpa using hx
    ·show(IX r<|aJ o.dst Φ K).find? _=_;rw[h2]
     cases hc:o.dst with
     |none=>rfl
     |some d=>
      have:xap d t=false:=uX fun e=>hd (by rw[hc,e]);simp[aJ,this]
theorem N5{P:Program}{ops:Array Oper}{ms:List MF}{Γ:List FF}{env0:yN}:∀(r:List (Oper×Pr)) (K:List (Tmp×Pr)) (i:Nat) (x:Oper×Pr),Obs P ops ms Γ env0 r K->r[i]? =some x->Ob P ops ms Γ env0 (IX (r.take i) K) x.1 x.2
 |[],_,_,_,_,h=>by simp at h
 |(o,Φ)::r,K,0,x,h,hx=>by simp at hx;subst hx;exact h.1
 |(o,Φ)::r,K,i+1,x,h,hx=>by
  have:=N5 r (aJ o.dst Φ K) i x h.2 (by simpa using hx);simpa[IX]using this
theorem Q5{K:List (Tmp×Pr)}{env0 env:yN}{S:Nat->Prop}{w:World}:∀(ts:List Tmp),(∀t∈ts,Ze K env0 env S w t)->X6 K env0 env S w ts
 |[],_=>trivial
 |t::ts,h=>⟨h t<|FS,Q5 ts fun u hu=>h u<|UV _ hu⟩
theorem iK{listed:Array Bool}{i:Nat}(hi:i<listed.size)(hu:listed.getD i true=false):∀(r:List Nat),
 (r.countP fun k=> !(listed.setIfInBounds i true).getD k true)<=(r.countP fun k=> !listed.getD k true)/\
 (i∈r->(r.countP fun k=> !(listed.setIfInBounds i true).getD k true)<(r.countP fun k=> !listed.getD k true))
 |[]=>⟨xab _,fun h=>by cases h⟩
 |k::r=>by
  have ih:=iK hi hu r;rw[List.countP_cons,List.countP_cons];by_cases hk:i=k
  ·subst hk;have e1:(listed.setIfInBounds i true).getD i true=true:=by simp[hi]
   simp only[e1,hu,xdM,Bool.not_false,if_true,xak,if_false];exact⟨by omega,fun _=>by omega⟩
  ·rw[getD_set_ne true hk];refine⟨by omega,fun h=> ?_⟩;have:=ih.2<|(xac.1 h).resolve_left hk;omega
section
variable{P:Program}{N:Nd}{we:World}{Se:Nat->Prop}{ms:List MF}{Γ:List FF}{Q:Qs}{env0:yN}{l:List Oper}{m:Nat}
theorem zjK(hc:Nn l m=true){Q':Exit->Act->World->Prop}:∀(fuel j:Nat) (listed:Array Bool) (a:Act) (w:World),m<=j->j<=l.length->l.length-j<=fuel->listed.size=l.length->
 (∀k,k<l.length->listed.getD k true=decide (k<j))->wpListIn N.F 0 P l.toArray Q' (l.drop j) a w->wpAnyIn N.F 0 P .any l.toArray Q' fuel listed a w:=by
 obtain⟨h0,h1,h2,h3⟩:=LF hc;have hd:∀(j:Nat) (listed:Array Bool),m<=j->j<=l.length->listed.size=l.length->(∀k,k<l.length->listed.getD k true=decide (k<j))->∀i,i∈xdN .any l.toArray listed->i=j:=by
  intro j listed hn hp hm ha i hi;obtain⟨hu,o,ho,ht⟩:=mem_ready.1 hi;have hs:i<l.length:=by simpa using(xbj.1 ho).1
  rw[ha i hs]at hu;have hC:j<=i:=by simpa using hu
  rw[uA hs]at ho;cases ho;rcases xce j i with hg|hge
  ·obtain⟨e,he,hb,hy⟩:=jF<|h3 i (by omega) hs j hg;have hl:=ht e he hb;rw[hy]at hl;have hj:=ha j (by omega);have hz:j<listed.size:=by omega
   simp only[xbo,xcz hz,xeQ]at hl hj;rw[hl]at hj;simp at hj
  ·omega
 intro fuel
 induction fuel with
 |zero=>
  intro j listed a w hn hp hf hm ha hw;have:j=l.length:=by omega
  subst this;refine⟨?_,by simpa[wpListIn]using hw⟩
  cases hr:xdN .any l.toArray listed with
  |nil=>rfl
  |cons i r=>
   have hi:i∈xdN .any l.toArray listed:=by rw[hr];exact FS
   have h4:=hd _ listed hn hp hm ha i hi;obtain⟨hu,o,ho,_⟩:=mem_ready.1 hi;have:=(xbj.1 ho).1;simp at this;omega
 |succ fuel ih=>
  intro j listed a w hn hp hf hm ha hw;rcases xce j l.length with hg|hge
  ·have hv:j∈xdN .any l.toArray listed:=by
    refine mem_ready.2 ⟨by rw[ha j hg];simp,zS l j,uA hg,fun e he hb=> ?_⟩;have:=h1 j hg e he hb;have hl:=ha e.on (by omega);have hA:e.on<listed.size:=by omega
    simp only[xbo,xcz hA,xeQ]at hl⊢;rw[hl];simpa using this
   refine⟨fun h=>(by rw[h]at hv;cases hv),fun i hi=> ?_⟩;have:=hd j listed hn hp hm ha i hi;subst this;rw[xcx hg]at hw;have hB:l[i]=zS l i:=by simp[zS,hg]
   unfold wpListIn at hw;unfold wpOpIn;rw[uA hg];simp only[<-hB];have next:∀a w,wpListIn N.F 0 P l.toArray Q' (l.drop<|i+1) a w->wpAnyIn N.F 0 P .any l.toArray Q' fuel (listed.setIfInBounds i true) a w:=fun a w h=>
    ih (i+1) _ a w (by omega) (by omega) (by omega) (by simpa using hm) (fun k hk=>by
     by_cases hx:i=k
     ·subst hx;have:i<listed.size:=by omega
      simp[this]
     ·rw[getD_set_ne true hx,ha k hk];simp only[decide_eq_decide];omega) h
   split
   ·rename_i hq;rw[iq hq]at hw;exact Oper.wpIn_mono next hw
   ·rename_i hq;rw[ir hq]at hw;exact⟨hw.1,next _ _ hw.2⟩
  ·have:j=l.length:=by omega
   subst this;refine⟨fun _=>by simpa[wpListIn]using hw,fun i hi=> ?_⟩;have h4:=hd _ listed hn hp hm ha i hi;obtain⟨hu,o,ho,_⟩:=mem_ready.1 hi;have:=(xbj.1 ho).1;simp at this;omega
theorem au(hc:YH l m=true){Q':Exit->Act->World->Prop}:∀(fuel j:Nat) (listed:Array Bool) (a:Act) (w:World),m<=j->j<=l.length->l.length-j<=fuel->listed.size=l.length->
 (∀k,k<l.length->listed.getD k true=decide (k<j))->wpListIn N.F 0 P l.toArray Q' (l.drop j) a w->wpAnyIn N.F 0 P .any l.toArray Q' fuel listed a w:=by
 obtain⟨h0,h1,h2,h3,_⟩:=jV hc;have hd:∀(j:Nat) (listed:Array Bool),m<=j->j<=l.length->listed.size=l.length->(∀k,k<l.length->listed.getD k true=decide (k<j))->∀i,i∈xdN .any l.toArray listed->i=j:=by
  intro j listed hn hp hm ha i hi;obtain⟨hu,o,ho,ht⟩:=mem_ready.1 hi;have hs:i<l.length:=by simpa using(xbj.1 ho).1
  rw[ha i hs]at hu;have hC:j<=i:=by simpa using hu
  rw[uA hs]at ho;cases ho;rcases xce j i with hg|hge
  ·obtain⟨e,he,hb,hy⟩:=jF<|h3 i (by omega) hs;have hl:=ht e he hb;rw[hy]at hl;have hj:=ha (i-1) (by omega);have hz:i-1<listed.size:=by omega
   simp only[xbo,xcz hz,xeQ]at hl hj;rw[hl]at hj;simp at hj;omega
  ·omega
 intro fuel
 induction fuel with
 |zero=>
  intro j listed a w hn hp hf hm ha hw;have:j=l.length:=by omega
  subst this;refine⟨?_,by simpa[wpListIn]using hw⟩
  cases hr:xdN .any l.toArray listed with
  |nil=>rfl
  |cons i r=>
   have hi:i∈xdN .any l.toArray listed:=by rw[hr];exact FS
   have h4:=hd _ listed hn hp hm ha i hi;obtain⟨hu,o,ho,_⟩:=mem_ready.1 hi;have:=(xbj.1 ho).1;simp at this;omega
 |succ fuel ih=>
  intro j listed a w hn hp hf hm ha hw;rcases xce j l.length with hg|hge
  ·have hv:j∈xdN .any l.toArray listed:=by
    refine mem_ready.2 ⟨by rw[ha j hg];simp,zS l j,uA hg,fun e he hb=> ?_⟩;have:=h1 j hg e he hb;have hl:=ha e.on (by omega);have hA:e.on<listed.size:=by omega
    simp only[xbo,xcz hA,xeQ]at hl⊢;rw[hl];simpa using this
   refine⟨fun h=>(by rw[h]at hv;cases hv),fun i hi=> ?_⟩;have:=hd j listed hn hp hm ha i hi;subst this;rw[xcx hg]at hw;have hB:l[i]=zS l i:=by simp[zS,hg]
   unfold wpListIn at hw;unfold wpOpIn;rw[uA hg];simp only[<-hB];have next:∀a w,wpListIn N.F 0 P l.toArray Q' (l.drop<|i+1) a w->wpAnyIn N.F 0 P .any l.toArray Q' fuel (listed.setIfInBounds i true) a w:=fun a w h=>
    ih (i+1) _ a w (by omega) (by omega) (by omega) (by simpa using hm) (fun k hk=>by
     by_cases hx:i=k
     ·subst hx;have:i<listed.size:=by omega
      simp[this]
     ·rw[getD_set_ne true hx,ha k hk];simp only[decide_eq_decide];omega) h
   split
   ·rename_i hq;rw[iq hq]at hw;exact Oper.wpIn_mono next hw
   ·rename_i hq;rw[ir hq]at hw;exact⟨hw.1,next _ _ hw.2⟩
  ·have:j=l.length:=by omega
   subst this;refine⟨fun _=>by simpa[wpListIn]using hw,fun i hi=> ?_⟩;have h4:=hd _ listed hn hp hm ha i hi;obtain⟨hu,o,ho,_⟩:=mem_ready.1 hi;have:=(xbj.1 ho).1;simp at this;omega
theorem MR{id:Nat}(m:Nat)(Φs:List Pr)(ts:List Tmp)(hm:P.follows .mixedOrders=true)(hc:YH l m=true)(hl:Φs.length=m)(hd:(l.all fun o=>qw N.n o.dst)=true)
 (hX:Obs P l.toArray ms Γ env0 ((l.take m).zip Φs) [])
 (fin:∀(S:Nat->Prop) (w:World) (env:yN),(∀k,w.heap.size<=k->S k)->zA S Γ w->X6 (IX ((l.take m).zip Φs) []) env0 env S w ts->
  ∃Γ' live,zA S Γ' w/\VW env live/\∀rest,TL P N we Se ms Γ' l.toArray (l.drop m) Q<|L live rest):
 T P N we Se ms Γ (.region id l.toArray true) Q env0:=by
 intro w0 hst a0 ha1 ha2 ha3;obtain⟨h0,h1,h2,h3,h3'⟩:=jV hc;obtain⟨s1,s2,s3,S,s4,s5,s6,s7,s8⟩:=hst;have mk:∀w' Δ,QA w0 w'->zA S Δ w'->St we Se ms Δ w':=fun w' Δ x hΔ=>
  ⟨s1.trans x,s2,s3,S,s4,fun k hk=>s5 k<|xam x.size hk,s6,yw.keep x.to (fun m hm i hi=>x.block i (yw.lt s7 m hm i hi) trivial) s7,hΔ⟩
 have hpl:((l.take m).zip Φs).length=m:=by simp;omega
 have hC:∀i,i<m->∃Φ,((l.take m).zip Φs)[i]? =some (zS l i,Φ):=fun i hi=>by
  have hn:i<l.length:=by omega
  refine⟨Φs[i]'(by omega),?_⟩;rw[List.getElem?_zip_eq_some];refine⟨?_,by simp⟩;rw[xcp,iq hi];simp[zS,hn]
 have hp:∀i x,((l.take m).zip Φs)[i]? =some x->i<m/\x.1=zS l i:=fun i x hx=>by
  have hi:i<m:=by have:=(xat.1 hx).1;omega
  obtain⟨Φ,h⟩:=hC i hi;rw[h]at hx;cases hx;exact⟨hi,rfl⟩
 refine wpIn_region_any hm ?_
 have key:∀(fuel:Nat) (listed:Array Bool) (a:Act) (w:World),(xbc l.length).countP (fun k=> !listed.getD k true)<=fuel->listed.size=l.length->a.tmps.size=N.n->a.defers=N.ds->QA w0 w->
  (∀i,m<=i->i<l.length->listed.getD i true=false)->
  (∀i,i<l.length->listed.getD i false=true->∀e∈(zS l i).after,xcs .any e=true->listed.getD e.on false=true)->
  (∀t,((∀i,i<m->listed.getD i false=true->(zS l i).dst≠some t)/\yr a t=env0 t)\/
   ∃i Φ,i<m/\listed.getD i false=true/\((l.take m).zip Φs)[i]? =some (zS l i,Φ)/\(zS l i).dst=some t/\(∀i',i'<m->listed.getD i' false=true->(zS l i').dst=some t->i'<=i)/\Φ.p S (yr a t) w)->
  wpAnyIn N.F 0 P .any l.toArray (P8 N Q) fuel listed a w:=by
  intro fuel
  induction fuel with
  |zero=>
   intro listed a w hM hL b1 b2 x hq hw ha;have hf:∀k,k<l.length->listed.getD k true=true:=fun k hk=>by
    have hz:(xbc l.length).countP (fun k=> !listed.getD k true)=0:=by omega
    rw[List.countP_eq_zero]at hz;have:=hz k<|xbf.2 hk;simpa using this
   have hml:m=l.length:=by
    rcases xce m l.length with hD|hge
    ·have h5:=hq m (xab _) hD;rw[hf m hD]at h5;cases h5
    ·omega
   have hI:=zA.keep x.to s8;obtain⟨Γ',live,f1,f2,f3⟩:=fin S w (yr a) (fun k hk=>s5 k<|xam x.size hk) hI (Q5 ts fun t _=>hJ hC hp ha (fun i hi=>by
    have h6:=hf i (by omega);rwa[getD_eq (by omega:i<listed.size)]at h6))
   refine au hc 0 m listed a w (xab _) h0 (by omega) hL (fun k hk=>by rw[hf k hk];simp;omega) ?_;exact f3 (yr a) w (mk w Γ' x f1) a b1 b2 (JA f2).symm
  |succ fuel ih=>
   intro listed a w hM hL b1 b2 x hq hw ha;by_cases hf:∀k,k<m->listed.getD k true=true
   ·have hI:=zA.keep x.to s8;obtain⟨Γ',live,f1,f2,f3⟩:=fin S w (yr a) (fun k hk=>s5 k<|xam x.size hk) hI (Q5 ts fun t _=>hJ hC hp ha (fun i hi=>by
     have h6:=hf i hi;rwa[getD_eq (by omega:i<listed.size)]at h6))
    have hY:∀k,k<l.length->listed.getD k true=decide (k<m):=fun k hk=>by
     by_cases hQ:k<m
     ·rw[hf k hQ];simp[hQ]
     ·rw[hq k (by omega) hk];simp[hQ]
    refine au hc (fuel+1) m listed a w (xab _) h0 (xam ?_ hM) hL hY ?_
    ·rw[show(xbc l.length).countP (fun k=> !listed.getD k true)=(xbc l.length).countP (fun k=> !decide (k<m))from List.countP_congr fun k hk=>by rw[hY k<|xbf.1 hk]];exact count_ge m l.length
    ·exact f3 (yr a) w (mk w Γ' x f1) a b1 b2 (JA f2).symm
   ·have hZ:∃k,k<m/\listed.getD k true=false:=by
     by_cases hh:∃k,k<m/\listed.getD k true=false
     ·exact hh
     ·exact absurd (fun k hk=>by
       cases hb:listed.getD k true
       ·exact absurd ⟨k,hk,hb⟩ hh
       ·rfl) hf
    refine⟨fun hr=> ?_,fun i hi=> ?_⟩
    ·exfalso;obtain⟨k,hk,hR,h4⟩:=first_un hZ;have:k∈xdN .any l.toArray listed:=mem_ready.2 ⟨hR,zS l k,uA (by omega),fun e he hb=>by
      have h5:=h1 k (by omega) e he hb;have h6:=h4 e.on h5;rwa[getD_eq (by omega:e.on<listed.size)]at h6⟩
     rw[hr]at this;cases this
    ·obtain⟨hu,o,ho,hA⟩:=mem_ready.1 hi;have hn:i<l.length:=by simpa using(xbj.1 ho).1
     rw[uA hn]at ho;cases ho;have hS:i<m:=by
      rcases xce i m with h|h
      ·exact h
      ·exfalso;by_cases h9:m=i
       ·subst h9;obtain⟨k,hk,hR⟩:=hZ;have h6:=JI hw h1 16 m k hn hA<|h3' hn k hk;rw[<-getD_eq (by omega:k<listed.size),hR]at h6;cases h6
       ·obtain⟨e,he,hb,hK⟩:=jF<|h3 i (by omega) hn;have h6:=hA e he hb;rw[hK,<-getD_eq (by omega:i-1<listed.size),hq (i-1) (by omega)<|by omega]at h6;cases h6
     obtain⟨Φ,hΦ⟩:=hC i hS;have hob:=N5 _ [] i _ hX hΦ;have hB:∀t,(t∈xbC l.toArray (zS l i)\/(zS l i).dst=some t)->∀j,j<m->(zS l j).dst=some t->j≠i->(listed.getD j false=true↔j<i):=by
      intro t ht j hj hF hT;have h7:=h2 i j t hS hj hT hF ht;constructor
      ·intro hg;rcases xce j i with h|h
       ·exact h
       ·exfalso;obtain⟨e,he,hb,hK⟩:=jF (h7.2<|by omega);have h8:=hw j (by omega) hg e he hb;rw[hK,<-getD_eq (by omega:i<listed.size),hu]at h8;cases h8
      ·intro hs;obtain⟨e,he,hb,hK⟩:=jF<|h7.1 hs;have h8:=hA e he hb;rwa[hK]at h8
     have h':listed.getD i false=false:=by rw[<-getD_eq (by omega:i<listed.size)];exact hu
     have hU:X6 (IX (((l.take m).zip Φs).take i) []) env0 (yr a) S w (xbC l.toArray<|zS l i):=by
      refine Q5 _ fun t ht=> ?_;have tk:∀(j:Nat) (y:Oper×Pr),(((l.take m).zip Φs).take i)[j]? =some y->j<i/\((l.take m).zip Φs)[j]? =some y:=fun j y hy=>by
       rw[xcp]at hy;split at hy
       ·exact⟨by assumption,hy⟩
       ·cases hy
      unfold Ze;rcases gy t (((l.take m).zip Φs).take i) []with⟨j,y,g1,g2,g3,g4⟩|⟨g1,g2⟩
      ·rw[g4];obtain⟨hs,hy⟩:=tk j y g1;obtain⟨hE,hV⟩:=hp j y hy;rw[hV]at g2;have hg:=(hB t (.inl ht) j hE g2<|by omega).2 hs;rcases ha t with⟨f1,_⟩|⟨k,Φk,k1,k2,k3,k4,k5,k6⟩
       ·exact absurd g2<|f1 j hE hg
       ·have hW:k=j:=by
         have a1:=k5 j hE hg g2;have hG:k<i:=(hB t (.inl ht) k k1 k4<|fun e=>by subst e;rw[h']at k2;cases k2).1 k2;have a2:=g3 k (zS l k,Φk) (by rw[xcp,iq hG];exact k3) k4;omega
        subst hW;rw[k3]at hy;cases hy;exact k6
      ·rw[g2];simp only[List.find?_nil];rcases ha t with⟨_,f2⟩|⟨k,Φk,k1,k2,k3,k4,k5,k6⟩
       ·exact f2
       ·exfalso;have hG:k<i:=(hB t (.inl ht) k k1 k4<|fun e=>by subst e;rw[h']at k2;cases k2).1 k2;exact g1 k (zS l k,Φk) (by rw[xcp,iq hG];exact k3) k4
     have hI:=zA.keep x.to s8;have hN:=hob S w (yr a) (fun k hk=>s5 k<|xam x.size hk) (yw.keep x.to (fun m hm i hi=>x.block i (yw.lt s7 m hm i hi) trivial) s7) hI hU;have hdi:qw N.n (zS l i).dst=true:=by
      rw[xaR]at hd;refine hd _ ?_;have:zS l i=l[i]:=by simp[zS,hn]
      rw[this];exact xbn _
     have next:∀v w',QA w w'->Φ.p S v w'->wpAnyIn N.F 0 P .any l.toArray (P8 N Q) fuel (listed.setIfInBounds i true) (a.put (zS l i).dst v) w':=by
      intro v w' x' hv;have hO:i<listed.size:=by omega
      refine ih _ _ w' ?_ (by simpa using hL) (by rw[QQ];exact b1) (by rw[YC];exact b2) (x.trans x') (fun k hmk hk=> ?_) (fun k hk hlk e he hb=> ?_)<|fun t=> ?_
      ·have:=(iK hO hu<|xbc l.length).2<|xbf.2 hn;omega
      ·rw[getD_set_ne true<|by omega];exact hq k hmk hk
      ·by_cases hG:i=k
       ·subst hG;exact getD_set_true<|hA e he hb
       ·rw[getD_set_ne false hG]at hlk;exact getD_set_true<|hw k hk hlk e he hb
      ·rw[Yu<|by rw[b1];exact QO hdi];by_cases hH:(zS l i).dst=some t
       ·right;refine⟨i,Φ,hS,by simp[hO],hΦ,hH,fun j hj hg hF=> ?_,?_⟩
        ·by_cases hs:i=j
         ·omega
         ·rw[getD_set_ne false hs]at hg;have:=(hB t (.inr hH) j hj hF<|by omega).1 hg;omega
        ·rw[hH];simpa[put,L]using hv
       ·have henv:put (yr a) (zS l i).dst v t=yr a t:=by
         cases hdd:(zS l i).dst with
         |none=>rfl
         |some dd=>
          have hT:¬t=dd:=fun e=>hH (by rw[hdd,e]);have:xap t dd=false:=uX hT;simp[put,L,this]
        rw[henv];rcases ha t with⟨f1,f2⟩|⟨k,Φk,k1,k2,k3,k4,k5,k6⟩
        ·refine .inl ⟨fun j hj hg=> ?_,f2⟩;by_cases hs:i=j
         ·subst hs;exact hH
         ·rw[getD_set_ne false hs]at hg;exact f1 j hj hg
        ·refine .inr ⟨k,Φk,k1,getD_set_true k2,k3,k4,fun j hj hg hF=> ?_,Φk.keep k6 x'⟩;by_cases hs:i=j
         ·subst hs;exact absurd hF hH
         ·rw[getD_set_ne false hs]at hg;exact k5 j hj hg hF
     unfold wpOpIn;rw[uA hn];simp only[WX];cases hP:yF l.toArray (yr a) (zS l i)
     ·simp only[xak,if_false];exact⟨fun _ _=>trivial,next undef w (yq.refl _ _) (hN.2 hP)⟩
     ·simp only[if_true];exact(hN.1 hP).wp fun v w' hvw=>next v w' hvw.1 hvw.2
 refine key l.toArray.size _ a0 _ ?_ (by simp) ha1 ha2 (QA.drawn w0 _) (fun i h9 hi=>by simp[hi]) (fun i hi hD=> ?_)<|fun t=> .inl ⟨fun i hi hD=> ?_,by rw[ha3]⟩
 ·exact xam (List.countP_le_length)<|by simp
 ·have:i<(xev l.toArray.size false).size:=by simpa using hi
  rw[<-getD_eq this]at hD;simp[hi]at hD
 ·have hn:i<l.length:=by omega
  have:i<(xev l.toArray.size false).size:=by simpa using hn
  rw[<-getD_eq this]at hD;simp[hn]at hD
 where
 getD_eq {listed:Array Bool}{i:Nat} (h:i<listed.size):listed.getD i true=listed.getD i false:=by simp[xbo,xcz h]
 first_un {m:Nat}{listed:Array Bool} (h:∃k,k<m/\listed.getD k true=false):∃k,k<m/\listed.getD k true=false/\∀j,j<k->listed.getD j true=true:=by
  obtain⟨k,hk,hu⟩:=h
  induction k using xds with
  |_ k ih=>
   by_cases hh:∃j,j<k/\listed.getD j true=false
   ·obtain⟨j,hj,hju⟩:=hh;exact ih j hj (by omega) hju
   ·refine⟨k,hk,hu,fun j hj=> ?_⟩;cases hb:listed.getD j true
    ·exact absurd ⟨j,hj,hb⟩ hh
    ·rfl
 count_ge (m:Nat):∀n,n-m<=(xbc n).countP (fun k=> !decide (k<m))
  |0=>by simp
  |n+1=>by
   have:=count_ge m n;rw[xdu,List.countP_append];by_cases h:n<m
   ·omega
   ·simp[h];omega
 hJ {Φs:List Pr}{listed:Array Bool}{a:Act}{w:World}{S:Nat->Prop}{l:List Oper}{m:Nat}{env0:yN} (hC:∀i,i<m->∃Φ,((l.take m).zip Φs)[i]? =some (zS l i,Φ)) (hp:∀i x,((l.take m).zip Φs)[i]? =some x->i<m/\x.1=zS l i)
  (ha:∀t,((∀i,i<m->listed.getD i false=true->(zS l i).dst≠some t)/\yr a t=env0 t)\/
   ∃i Φ,i<m/\listed.getD i false=true/\((l.take m).zip Φs)[i]? =some (zS l i,Φ)/\(zS l i).dst=some t/\(∀i',i'<m->listed.getD i' false=true->(zS l i').dst=some t->i'<=i)/\Φ.p S (yr a t) w)
  (hf:∀i,i<m->listed.getD i false=true) {t:Tmp}:Ze (IX ((l.take m).zip Φs) []) env0 (yr a) S w t:=by
  unfold Ze;rcases gy t ((l.take m).zip Φs) []with⟨j,y,g1,g2,g3,g4⟩|⟨g1,g2⟩
  ·rw[g4];obtain⟨hE,hV⟩:=hp j y g1;rw[hV]at g2;rcases ha t with⟨f1,_⟩|⟨k,Φk,k1,k2,k3,k4,k5,k6⟩
   ·exact absurd g2<|f1 j hE<|hf j hE
   ·have hW:k=j:=by
     have a1:=k5 j hE (hf j hE) g2;have a2:=g3 k (zS l k,Φk) k3 k4;omega
    subst hW;rw[k3]at g1;cases g1;exact k6
  ·rw[g2];simp only[List.find?_nil];rcases ha t with⟨_,f2⟩|⟨k,Φk,k1,k2,k3,k4,k5,k6⟩
   ·exact f2
   ·exact absurd k4<|g1 k (zS l k,Φk) k3
end
end
section
theorem RK{we:World}{Se:Nat->Prop}{ms ms':List MF}{Γ Γ':List FF}{R:World->Prop}(hs:∀w,St we Se ms Γ w->St we Se ms' Γ' w)(k:∀w,St we Se ms' Γ' w->R w):∀w,St we Se ms Γ w->R w:=
 fun w h=>k w<|hs w h
theorem zfc{a b:Nat}:xcr.wrap ((a:Int)+(b:Int))=(((a+b)%18446744073709551616:Nat):Int):=by
 rw[<-xdZ];exact zer _
theorem zfm{a b:Nat}:xcr.wrap ((a:Int)*(b:Int))=(((a*b)%18446744073709551616:Nat):Int):=by
 rw[<-xfd];exact zer _
theorem zeb{a b:Nat}(h:b<=18446744073709551616):xcr.wrap ((a:Int)-(b:Int))=(((a+18446744073709551616-b)%18446744073709551616:Nat):Int):=by
 rw[sR];lia
theorem zg0{a:Nat}(h:a<18446744073709551616):xcr.wrap (0-(a:Int))=(((18446744073709551616-a)%18446744073709551616:Nat):Int):=by
 rw[sR];lia
theorem P2{a b:Nat}(h:a<18446744073709551616):xcr.wrap ((a:Int).tdiv (b:Int))=((a/b:Nat):Int):=by
 rw[show(a:Int).tdiv (b:Int)=((a/b:Nat):Int)from(Int.ofNat_tdiv a b).symm];exact dT<|xba (xea _ _) h
theorem zjQ{a b:Nat}:(a:Int).tmod (b:Int)=((a%b:Nat):Int):=(Int.ofNat_tmod a b).symm
section
variable{P:Program}{N:Nd}{we:World}{Se:Nat->Prop}{ms:List MF}{Γ:List FF}{Q:Qs}{env:yN}{ops:Array Oper}{rest:List Oper}
 {d:Option Tmp}{ty yt t:TypeId}{pos:String}{aft:Array Edge}{g:Option (Nat×Bool)}{x y:Operand}
theorem Hi{et n cap:Nat}{ao:Option Addr}(hu:P.underlying t=some (.slice et))(hx:ev env x=.slice ao n cap)(w:World):
 (execOp (ev env) ⟨d,.call ⟨.builtin .len,#[x],#[t]⟩,ty,pos,aft,g⟩).run P w=.ok (.value (.int .i64 (n:Int))) w:=by
 simp[execOp,resolve,invoke,builtin,hx,Builtin.len_,goInt,run_underlying hu]
theorem DH{α:Type}{e:zZ α}{E et:Nat}{v:Value}{xs:List α}(i:Nat)(hm:ms[i]? =some (mO e E v xs))(hu:P.underlying t=some (.slice et))(hx:ev env x=v):
 Eu P ⟨d,.call ⟨.builtin .len,#[x],#[t]⟩,ty,pos,aft,g⟩ env ms Γ (fun _:Unit=> .int .i64 (xs.length:Int)) (fun _=>[]) (fun _=>xs.length<=9223372036854775807):=by
 intro w S _ hM _;obtain⟨cs,h1,h2⟩:=yw.get hM hm;rcases h1.2 with⟨rfl,h0⟩|⟨g',cap,cur,rfl,hb,hg,hc,ha,_⟩
 ·refine kv.of_value (Hi hu hx w) ⟨(),by rw[h0],by lia,yq.refl _ _,trivial⟩
 ·exact kv.of_value (Hi hu hx w) ⟨(),rfl,by unfold maxLen at ha;lia,yq.refl _ _,trivial⟩
end
end
section
theorem zd0{P:Program}{f:FuncId}{fn:Func}{e:Array Value->Sem Value}{args:Array Value}{w:World}{v:Value}(hf:P.funcs[f]? =some fn)(hn:(fn.name== "runtime.NumGoroutine")=false)(hb:fn.body=none)
 (h1:(xey fn).isNone=true) (h2:xeV fn=some e) (he:(e args).run P w=.ok v w):(callFunc f args).run P w=.ok (.value v) w:=by simp_all [callFunc]
section
variable{P:Program}{env:yN}{d:Option Tmp}{ty:TypeId}{pos:String}{aft:Array Edge}{g:Option (Nat×Bool)}
theorem zfZ{f:FuncId}{fn:Func}{e:Array Value->Sem Value}{asv:List Operand}{ts:Array TypeId}{args:List Value}{v:Value}(hf:P.funcs[f]? =some fn)(hn:(fn.name== "runtime.NumGoroutine")=false)(hb:fn.body=none)
 (h1:(xey fn).isNone=true) (h2:xeV fn=some e) (ha:asv.map (ev env)=args) (he:∀w,(e args.toArray).run P w=.ok v w) (w:World):
 (execOp (ev env) ⟨d,.call ⟨.value (.func f),asv.toArray,ts⟩,ty,pos,aft,g⟩).run P w=.ok (.value v) w:=by
 have:=zd0 (P:=P) (args:=args.toArray) (w:=w) hf hn hb h1 h2<|he w;simp[execOp,resolve,ev,xdJ,invoke,ha,this]
theorem Tn(s:String)(x y c:Value):∃z:String,xbQ s #[x,y,c]=(do
 let c:=(<-asInt c).toNat
 if c>1 then unsupported (.noEntry z)
 pure ((<-asInt x).toNat,(<-asInt y).toNat,c)):=⟨_,rfl⟩
theorem Ca(s:String){x y c:Nat}(hc:c<=1)(w:World):(xbQ s #[.int .u64 (x:Int),.int .u64 (y:Int),.int .u64 (c:Int)]).run P w=.ok (x,y,c) w:=by
 have:¬c>1:=by lia
 obtain⟨z,hz⟩:=Tn s (.int .u64 (x:Int)) (.int .u64 (y:Int)) (.int .u64 (c:Int));rw[hz];simp only[asInt,asIntOf,xas,Sem.run_map,xaG,xad,xaK,this,if_false]
theorem P1{x y c:Nat}(hc:c<=1)(w:World):((do
 let(x,y,c)<-xbQ "Add64" #[.int .u64 (x:Int),.int .u64 (y:Int),.int .u64 (c:Int)]
 pure (xbU ((x+y+c)%xaY)<|(x+y+c)/xaY):Sem Value)).run P w=
  .ok (.tuple #[.int .u64 (((x+y+c)%18446744073709551616:Nat):Int),.int .u64 (((x+y+c)/18446744073709551616:Nat):Int)]) w:=by
 have e:xaY=18446744073709551616:=by decide
 rw[xas,Ca _ hc];simp only[xaG,xad,xbU,e];rfl
theorem Rj{x y c:Nat}(hc:c<=1)(w:World):((do
 let(x,y,b)<-xbQ "Sub64" #[.int .u64 (x:Int),.int .u64 (y:Int),.int .u64 (c:Int)]
 pure (xbU ((x+xaY-y-b)%xaY) (if x<y+b then 1 else 0)):Sem Value)).run P w=
  .ok (.tuple #[.int .u64 (((x+18446744073709551616-y-c)%18446744073709551616:Nat):Int),.int .u64 ((if x<y+c then 1 else 0:Nat):Int)]) w:=by
 have e:xaY=18446744073709551616:=by decide
 rw[xas,Ca _ hc];simp only[xaG,xad,xbU,e];split<;>rfl
theorem zdo{f:FuncId}{fn:Func}{a b c:Operand}{ts:Array TypeId}{x y z:Nat}(hf:P.funcs[f]? =some fn)(hn:(fn.name== "runtime.NumGoroutine")=false)(hb:fn.body=none)
 (h1:(xey fn).isNone=true) (h2:xeV fn=some (fun args=>do
  let(x,y,c)<-xbQ "Add64" args
  pure (xbU ((x+y+c)%xaY)<|(x+y+c)/xaY)))
 (ha:ev env a=.int .u64 (x:Int)) (hc:ev env b=.int .u64 (y:Int)) (hd:ev env c=.int .u64 (z:Int)) (hz:z<=1) (w:World):
 (execOp (ev env) ⟨d,.call ⟨.value (.func f),#[a,b,c],ts⟩,ty,pos,aft,g⟩).run P w=
  .ok (.value (.tuple #[.int .u64 (((x+y+z)%18446744073709551616:Nat):Int),.int .u64 (((x+y+z)/18446744073709551616:Nat):Int)])) w:=
 zfZ (asv:=[a,b,c]) hf hn hb h1 h2 (args:=[.int .u64 (x:Int),.int .u64 (y:Int),.int .u64 (z:Int)]) (by simp[ha,hc,hd]) (fun w=>P1 hz w) w
theorem zep{f:FuncId}{fn:Func}{a b c:Operand}{ts:Array TypeId}{x y z:Nat}(hf:P.funcs[f]? =some fn)(hn:(fn.name== "runtime.NumGoroutine")=false)(hb:fn.body=none)
 (h1:(xey fn).isNone=true) (h2:xeV fn=some (fun args=>do
  let(x,y,b)<-xbQ "Sub64" args
  pure (xbU ((x+xaY-y-b)%xaY) (if x<y+b then 1 else 0))))
 (ha:ev env a=.int .u64 (x:Int)) (hc:ev env b=.int .u64 (y:Int)) (hd:ev env c=.int .u64 (z:Int)) (hz:z<=1) (w:World):
 (execOp (ev env) ⟨d,.call ⟨.value (.func f),#[a,b,c],ts⟩,ty,pos,aft,g⟩).run P w=
  .ok (.value (.tuple #[.int .u64 (((x+18446744073709551616-y-z)%18446744073709551616:Nat):Int),.int .u64 ((if x<y+z then 1 else 0:Nat):Int)])) w:=
 zfZ (asv:=[a,b,c]) hf hn hb h1 h2 (args:=[.int .u64 (x:Int),.int .u64 (y:Int),.int .u64 (z:Int)]) (by simp[ha,hc,hd]) (fun w=>Rj hz w) w
end
def zec(P:Program)(w:World)(env:yN):ResultVar->Value->Prop
 |.tmp t,v=>env t=v
 |.cell a t,v=>∃ad,env a=.pointer (some ad)/\(loadVar t ad).run P w=.ok v w
def UA(P:Program)(w:World)(env:yN):List ResultVar->List Value->Prop
 |[],[]=>True
 |r::rs,v::vs=>zec P w env r v/\UA P w env rs vs
 |_,_=>False
theorem Iu(P:Program)(w:World)(a:Act):∀(rs:List ResultVar) (vs:List Value),UA P w (yr a) rs vs->(rs.mapM<|rI a.tmps).run P w=Result.ok vs w
 |[],[],_=>by simp
 |r::rs,v::vs,⟨h1,h2⟩=>by
  have ih:=Iu P w a rs vs h2;have h:(rI a.tmps r).run P w=.ok v w:=by
   cases r with
   |tmp t=>simp only[zec]at h1;simp[rI,<-h1,yr]
   |cell x t=>
    obtain⟨ad,e1,e2⟩:=h1;have e1':a.tmps.getD x undef=.pointer (some ad):=e1;simp only[rI,e1',xas,asAddr,xaG,xad,e2]
  rw[List.mapM_cons,xas,h];simp only[xad,xas,ih,xaG]
 |[],_::_,h=>h.elim
 |_::_,[],h=>h.elim
def Yg:List Value->Value
 |[v]=>v
 |vs=> .tuple vs.toArray
theorem Xb{P:Program}{fn:Func}{rs:List ResultVar}{vs:List Value}{w:World}{a:Act}(hr:fn.results=rs.toArray)(h:UA P w (yr a) rs vs):(results fn a.tmps).run P w=.ok (Yg vs) w:=by
 have e:results fn a.tmps=(do let vs<-fn.results.mapM (rI a.tmps);pure (if h:vs.size=1 then vs[0]else .tuple vs)):=by unfold results;congr 1
 rw[e,hr,Array.mapM_eq_mapM_toList];have:=Iu P w a rs vs h;simp only[xas,Sem.run_map,this,xad]
 match vs with
 |[]=>simp[Yg]
 |[v]=>simp[Yg]
 |v::u::r=>simp[Yg]
section
variable{P:Program}{we:World}{Se:Nat->Prop}{ms:List MF}{Γ:List FF}{env:yN}{U:Type}{val:U->Value}{facts:U->List FF}{ok:U->Prop}{fn:Func}
theorem zaQ{α:Type}{e:zZ α}{E b:Nat}{z:α}{w:World}{bytes:Nat}{zero:Value}{R:Prop}{a:Tmp}(i:Nat)(hw:St we Se ms Γ w)(hm:ms[i]? =some (mB e.c E b z))(ha:env a=.pointer (some ⟨b,0,none⟩))
 (ht:X3 P E e.agg e.n bytes zero) (k:∀v,St we Se ms (fV e z v::Γ) w->zec P w env (.cell a E) v->R):R:=by
 obtain⟨h1,h2,h3,S,h4,h5,h6,h7,h8⟩:=hw;obtain⟨cs,hg,hp⟩:=yw.get h7 hm;have hb:At w b 0 cs.toList:=At.row hg;exact k (e.val cs.toList) ⟨h1,h2,h3,S,h4,h5,h6,h7,⟨cs.toList,rfl,hp⟩,h8⟩ ⟨_,ha,Uc ht hp hb⟩
end
def Om{U:Type}(P:Program)(f:FuncId)(args:Array Value)(ms:List MF)(Γ:List FF)(val:U->Value)(own:U->List MF)(facts:U->List FF)(ok:U->Prop):Prop:=
 ∀we Se F G w,St we Se (ms++F) (Γ++G) w->Calls P f args w (fun e w'=>∃u,e=.returned (val u)/\ok u/\St we Se (own u++F) (facts u++G) w')
section
variable{P:Program}{N:Nd}{we:World}{Se:Nat->Prop}{ms F:List MF}{Γ G:List FF}{Q:Qs}{env:yN}{U:Type}{val:U->Value}{own:U->List MF}{facts:U->List FF}{ok:U->Prop}{fn:Func}
 {ops:Array Oper}{rest:List Oper}{d:Option Tmp}{ty:TypeId}{pos:String}{aft:Array Edge}{g:Option (Nat×Bool)}
theorem Om.plain{f:FuncId}{args:Array Value}(h:Om P f args [] Γ val (fun _=>[]) facts ok):Fn P f args Γ val facts ok:=by
 intro w Se ha hΓ;refine(h w Se [] [] w<|St.nil (by simpa using hΓ) ha).mono ?_;rintro e w' ⟨u,h1,h2,h3⟩;have:=h3.out (Δ:=facts u) (fun S w h=>by simpa using h);exact⟨u,h1,h2,this.1,this.2⟩
theorem Om.frozen{f:FuncId}{args:Array Value}{Δ:U->List FF}(h:Om P f args [] Γ val own facts ok)
 (fz:∀(u:U) (w':World) (we:World) (Se:Nat->Prop),St we Se (own u) (facts u) w'->St we Se [] (Δ u) w'):Fn P f args Γ val Δ ok:=by
 intro w Se ha hΓ;refine(h w Se [] [] w<|St.nil (by simpa using hΓ) ha).mono ?_;rintro e w' ⟨u,h1,h2,h3⟩;have:=(fz u w' w Se<|by simpa using h3).out (Δ:=Δ u)<|fun S w h=>h;exact⟨u,h1,h2,this.1,this.2⟩
end
theorem Hn:∀{ms:List MF}{i:Nat}{m:MF},X2 ms->ms[i]? =some m->X2 (m::ms.eraseIdx i):=by
 intro ms i m h e;refine⟨fun k hk m' ha hc=> ?_,?_⟩
 ·rw[List.mem_eraseIdx_iff_getElem?]at ha;obtain⟨j,hj,he⟩:=ha;exact Uj h e k hk j m' hj he hc
 ·exact VJ i h
theorem St.front{we:World}{Se:Nat->Prop}{ms:List MF}{Γ:List FF}{w:World}{m:MF}(i:Nat)(h:St we Se ms Γ w)(hi:ms[i]? =some m):St we Se (m::ms.eraseIdx i) Γ w:=by
 obtain⟨h1,h2,h3,S,h4,h5,h6,h7,h8⟩:=h;refine⟨h1,h2,Hn h3 hi,S,h4,h5,fun m' hm'=> ?_,⟨yw.get h7 hi,Jj i h7⟩,h8⟩;rcases xac.1 hm' with rfl|hm'
 ·exact h6 _<|xbx hi
 ·exact h6 m'<|xdx hm'
theorem zbG{m:Nat}(h:m<=9223372036854775807):xcY.wrap (m:Int)=(m:Int):=w64<|by lia
theorem GN{P:Program}{w:World}(t ti ty e:TypeId)(i:TypeInfo)(z:Value)(size bytes:Nat){ik:IntKind}(ht:P.underlying t=some (.slice e))(hf:P.underlying ti=some (.int ik))(hi:P.info? e=some i)(hz:i.zero=some z)
 (hw:i.size=size) (hJ:i.bytes=bytes) (hE:z.cells.size=size) (hK:∀u∈z.cells.toList,u.oneCell'=true) (hy:0<size)
 (v:Value) (n:Nat) (xs:List Value) (ha:w.ownsRow 0 e size v n xs) (m:Nat)
 (hF:n+m<=maxLen) (hc:(n+m)*bytes<=140737488355328):
 ∃v' w',(xch #[t,ti] ty #[v,.int .i64 (m:Int)]).run P w=.ok v' w'/\w'.ownsRow 0 e size v' (n+m) (xs++(xbu z.cells m).toList)/\w.grownBy w' v.ownBlock/\
  ∀k,v'.ownBlock=some k->v.ownBlock=some k\/w.heap.size<=k:=by
 subst hw;subst hJ;have hI:n+m<=9223372036854775807:=by simp only[maxLen]at hF;lia
 have hG:(xbu z.cells m).toList.length=m*i.size:=by simp[size_zeroCells,hE]
 have hd:(xs++(xbu z.cells m).toList).length=(n+m)*i.size:=by rw[xax,ha.1,hG,xaV]
 have hA:=zbG (m:=m) (by lia);have hl:¬((m:Int)<0):=by lia
 have hL:¬((m:Int)*(i.bytes:Int)>281474976710656):=by
  have h1:m*i.bytes<=(n+m)*i.bytes:=xaw _ (by lia);have:((m*i.bytes:Nat):Int)<=140737488355328:=by lia
  rw[xfd]at this;lia
 have hn:¬(281474976710656<(m:Int)*(i.bytes:Int)):=hL
 have grown:∀(old:Nat),old<n+m->∀(row:Option Nat),
  (w.drew.alloc (.cells (xs.toArray++xbu z.cells m++xbu z.cells (grownCap w (n+m) old e-(n+m))) e)).ownsRow 0 e i.size
   (.slice (some ⟨w.heap.size,0,none⟩) (n+m)<|grownCap w (n+m) old e) (n+m) (xs++(xbu z.cells m).toList)/\
  w.grownBy (w.drew.alloc (.cells (xs.toArray++xbu z.cells m++xbu z.cells (grownCap w (n+m) old e-(n+m))) e)) row:=by
  intro old ho row;have hM:=grownCap_ge w (n+m) old e;have hB:grownCap w (n+m) old e<=maxLen:=grownCap_le_maxLen w (n+m) old e hF;refine⟨⟨hd,.inr ⟨w.heap.size,_,_,rfl,xah _,heap_alloc_new w.drew _,hM,hB,?_,?_⟩⟩,⟨rfl,rfl,rfl,by simp,fun k hk _=>RowKit.Below.heap_alloc w.drew _ k hk⟩⟩
  ·simp only[Array.size_append,List.size_toArray,size_zeroCells,hE,ha.1,<-xaV];congr 1;lia
  ·simp only[Array.toList_append,xaj];rw[<-xaj,<-hd];exact List.take_left
 rcases ha.2 with⟨rfl,rfl⟩|⟨g,cap,cur,rfl,hN,hg,hO,hB,hP,hC⟩
 ·have hx:xs=[]:=xbt (by simpa using ha.1);subst hx;by_cases hm:m=0
  ·subst hm;refine⟨.slice none 0 0,w,?_,by simpa[xbu]using World.ownsRow_nil w 0 e i.size,⟨rfl,rfl,rfl,xab _,fun _ _ _=>rfl⟩,fun k hk=> .inl hk⟩;have e0:xcY.wrap 0=0:=by decide
   simp[xch,run_underlying ht,run_underlying hf,sizeOf,typeInfo,hi,asInt,asIntOf,e0]
  ·have hp:¬(9223372036854775807<(m:Int)):=by lia
   have he:=growslice_fits (old:=0) (need:=0+m) (bytes:=i.bytes) (by lia) hc;have hq:¬(281474976710656<Builtin.nextslicecap m 0*i.bytes):=by simp only[xaN]at he;lia
   have hs:=grown 0 (by lia)<|Value.ownBlock (.slice none 0 0);refine⟨_,_,?_,hs.1,hs.2,fun k hk=> .inr<|by cases hk;exact xab _⟩;simp[xch,run_underlying ht,run_underlying hf,sizeOf,typeInfo,zeroValue,hi,hz,asInt,asIntOf,hA,hm,hp,hq,hl,hn,Question.forced,run_firstCells_none,newRow,grownCap];intro h0;have:0<m*i.size:=Nat.mul_pos (by lia) hy;lia
 ·by_cases hb:n+m<=cap
  ·have he:n*i.size+(xbu z.cells m).toList.length<=cur.size:=by rw[hG,hP,<-xaV];exact xaw _ hb
   have h1:∀u∈(xbu z.cells m).toList,u.oneCell'=true:=by
    intro u hu;simp only[xbu,Array.toList_map,xal]at hu;obtain⟨j,hj,rfl⟩:=hu;have hH:j%z.cells.size<z.cells.size:=xbi _ (by lia);rw[getElem!_pos z.cells _ hH];exact hK _<|xdi.2<|Array.getElem_mem hH
   have hv:=run_storeCells_at P g (n*i.size) e (xbu z.cells m).toList 0 cur w hg (by simpa using he) h1;simp only[xbT]at hv
   have hr:(xch #[t,ti] ty #[.slice (some ⟨g,0,none⟩) n cap,.int .i64 (m:Int)]).run P w=
    .ok (.slice (some ⟨g,0,none⟩) (n+m) cap) (w.setRow g (cur.toList.take (n*i.size)++(xbu z.cells m).toList++cur.toList.drop (n*i.size+(xbu z.cells m).toList.length)).toArray):=by
    by_cases hm:m=0
    ·subst hm;have e0:xcY.wrap 0=0:=by decide
     have ez:(xbu z.cells 0)= #[]:=by simp[xbu]
     rw[ez]at hv⊢;simp[xch,run_underlying ht,run_underlying hf,sizeOf,typeInfo,hi,asInt,asIntOf,e0,hO,Addr.add_lit,hv]
    ·have hQ:¬(m=0\/i.size=0):=by lia
     simp[xch,run_underlying ht,run_underlying hf,sizeOf,typeInfo,zeroValue,hi,hz,asInt,asIntOf,hA,hl,hn,hb,hQ,Addr.add_lit,hv];intro h0;have:0<m*i.size:=Nat.mul_pos (by lia) hy;lia
   refine⟨_,_,hr,⟨hd,.inr ⟨g,cap,_,rfl,hN,setRow_heap w g cur _ e _ hg,hb,hB,?_,?_⟩⟩,⟨rfl,rfl,rfl,by simp,fun k _ hk=>setRow_other w g k _<|fun e=>hk<|by simp[Value.ownBlock,e]⟩,fun k hk=> .inl hk⟩
   ·simp only[List.size_toArray,xax,xav,xbO,xeT]at he⊢;lia
   ·rw[hC,<-hd];exact List.take_left
  ·have hD:∀j u,xs[j]? =some u->w.cell? ((⟨g,0,none⟩:Addr).add j)=some u:=ha.cells (g:=g) rfl;have hp:¬(9223372036854775807<(n:Int)+(m:Int)):=by lia
   have hq:¬(281474976710656<Builtin.nextslicecap (n+m) cap*i.bytes):=by have:=growslice_fits (old:=cap) (need:=n+m) (bytes:=i.bytes) (by lia) hc;lia
   have hs:=grown cap (by lia)<|Value.ownBlock (.slice (some ⟨g,0,none⟩) n cap);have hR:=run_firstCells_some (P:=P) w.drew i.size n ⟨g,0,none⟩ n cap xs ha.1 (by simpa using hD);refine⟨_,_,?_,hs.1,hs.2,fun k hk=> .inr<|by cases hk;exact xab _⟩;by_cases hm:m=0
   ·subst hm;lia
   simp[xch,run_underlying ht,run_underlying hf,sizeOf,typeInfo,zeroValue,hi,hz,asInt,asIntOf,hA,hm,hp,hq,hl,hn,hb,Question.forced,hR,newRow,grownCap];intro h0;have:0<m*i.size:=Nat.mul_pos (by lia) hy;lia
theorem gw{z:Array Value}{m:Nat}(hm:z.size=m)(n:Nat):(xbu z n).toList=(xaf n z.toList).flatten:=by
 apply xcy;intro j;by_cases hj:j<n*m
 ·have ha:0<m:=xcI fun h0=>by rw[h0]at hj;simp at hj
  have e1:(xbu z n).toList[j]? =z.toList[j%m]? :=by
   have:=xbi j ha;simp[xbu,hm,hj,this]
  rw[e1,Oz.flatten_get z.toList m (by simpa using hm) ha n j hj];all_goals exact 0
 ·rw[xaH (by simp[size_zeroCells,hm];lia),xaH<|by simp[hm];lia]
section
variable{P:Program}{N:Nd}{we:World}{Se:Nat->Prop}{ms ms':List MF}{Γ Γ':List FF}{Q:Qs}{env:yN}{ops:Array Oper}{rest:List Oper}
 {d:Option Tmp}{ty yt t ti:TypeId}{pos:String}{aft:Array Edge}{g:Option (Nat×Bool)}{x y:Operand}
theorem MQ{α:Type}{e:zZ α}{et:TypeId}{xs:List α}{z:α}{n:Nat}{v:Value}{bytes:Nat}{zero:Value}{ik:IntKind}(i:Nat)(ht:P.underlying t=some (.slice et))(hu:P.underlying ti=some (.int ik))(hv:X3 P et e.agg e.n bytes zero)(hd:zero.cells.size=e.n)(hn:0<e.n)
 (hm:ms[i]? =some (mO e et v xs)) (hx:ev env x=v) (hy:ev env y=.int .i64 (n:Int)) (hz:∀(S:Nat->Prop) (w:World),e.p S z zero.cells.toList w)
 (hF:xs.length+n<=9223372036854775807) (hb:(xs.length+n)*bytes<=140737488355328):OG P ⟨d,.call ⟨.builtin .append,#[x,y],#[t,ti]⟩,ty,pos,aft,g⟩ env we Se ms Γ (fun v'=>v') (fun v'=>(ms.set i<|mO e et v'<|xs++xaf n z)) (fun _=>Γ) (fun _=>True):=by
 intro w hf;obtain⟨S,_,⟨cs,ho,he⟩,h8,_⟩:=hf.mut hm;obtain⟨i',hi,i1,i2,i3⟩:=hv.info;obtain⟨v',w',hr,hl,hg,hw⟩:=GN (P:=P) t ti ty et i' zero e.n bytes ht hu hi i3 i1 i2 hd (e.one<|hz S w) hn v xs.length cs ho n (by unfold maxLen;lia) hb;refine kv.of_value (w':=w') (v:=v') ?_ ⟨v',rfl,trivial,hf.grow hm ⟨hg.os,hg.tape,hg.output,hg.size,fun j hj hs=>hg.block j hj<|fun e=>hs e.symm⟩ hw ?_⟩
 ·simp only[execOp,resolve,invoke,builtin,xdI,xbX,xex,hx,hy,xas,hr,xaG,xad]
 ·intro S hS ⟨cs2,hp,hA⟩ hΓ;have hB:cs2=cs:=by
   rcases ho.2 with⟨rfl,h0⟩|⟨g,cap,cur,rfl,_,hC,_,_,_,hD⟩
   ·have a1:=ho.1;have a2:=hp.1;rw[h0]at a1 a2;have c1:cs=[]:=xbt (by simpa using a1);have c2:cs2=[]:=xbt (by simpa using a2);rw[c1,c2]
   ·rcases hp.2 with⟨hc,_⟩|⟨g',cap',cur',hE,_,ha,_,_,_,hq⟩
    ·cases hc
    ·cases hE;rw[hC]at ha;cases ha;rw[<-hD,<-hq]
  subst hB;have kk:yq S w w':=⟨hg.os,hg.tape,hg.output,hg.size,fun k hk hs=>hg.block k hk<|fun e=>hS k hs e.symm⟩;rw[gw hd]at hl;exact⟨_,by rw[xax,xaZ];exact hl,(hA.keep kk).append<|yu.replicate (hz _ _) n⟩
end
theorem zA.left{S:Nat->Prop}{w:World}:∀{Γ Δ:List FF},zA S (Γ++Δ) w->zA S Γ w
 |[],_,_=>trivial
 |_::_,_,h=>⟨h.1,zA.left h.2⟩
theorem zA.right{S:Nat->Prop}{w:World}:∀{Γ Δ:List FF},zA S (Γ++Δ) w->zA S Δ w
 |[],_,h=>h
 |_::_,_,h=>zA.right h.2
theorem Fn.ok_mono{U:Type}{P:Program}{f:FuncId}{args:Array Value}{Γ:List FF}{val:U->Value}{facts:U->List FF}{ok ok':U->Prop}(h:Fn P f args Γ val facts ok)(hk:∀u,ok u->ok' u):Fn P f args Γ val facts ok':=
 fun w Se h1 h2=>(h w Se h1 h2).mono fun e w' ⟨u,a,b,c⟩=>⟨u,a,hk u b,c⟩
end
section
def rowT{α:Type}(e:zZ α)(cap:Nat):nC (List α)where
 p S xs cs w:=∃c post,cs=c++post/\yu e S xs c w/\cs.length=cap*e.n
 keep:=fun⟨c,post,h1,h2,h3⟩ k=>⟨c,post,h1,h2.keep k,h3⟩
 sub:=fun⟨c,post,h1,h2,h3⟩ k=>⟨c,post,h1,h2.sub k,h3⟩
theorem Sub.rowT{α:Type}(e:zZ α)(cap:Nat)(xs:List α)(i:Nat)(x:α)(hx:xs[i]? =some x):Sub (rowT e cap) xs (i*e.n) e x (fun y=>xs.set i y):=by
 rintro S w cs ⟨c0,post0,rfl,he,hl⟩;obtain⟨pre,c,post,rfl,h2,h3,h4⟩:=Sub.row e xs i x hx S w c0 he;refine⟨pre,c,post++post0,by simp[xaj],h2,h3,fun w' y c' kk h'=>⟨pre++c'++post,post0,by simp[xaj],h4 w' y c' kk h',?_⟩⟩;have e1:=e.len h3;have e2:=e.len h';simp only[xax]at hl⊢;lia
theorem Sub.rowT0{α:Type}(e:zZ α)(cap:Nat)(xs:List α)(i:Nat)(x:α)(hx:xs[i]? =some x):Sub (Go.Proofs.YtmggkmchbdanfaaGreat.rowT e cap) xs (0+i*e.n) e x (fun y=>xs.set i y):=by
 rw[xaN];exact Sub.rowT e cap xs i x hx
section
variable{we:World}{Se:Nat->Prop}{ms:List MF}{Γ:List FF}{w:World}{α:Type}{e:zZ α}{E:TypeId}{xs:List α}
theorem xR{i:Nat}{m:MF}(h:St we Se ms Γ w)(hi:ms[i]? =some m){p:Prop}(hp:∀S:Nat->Prop,m.p S w->p):p:=by grind [St.muts]
theorem St.openO{v:Value}(i:Nat)(h:St we Se ms Γ w)(hm:ms[i]? =some (mO e E v xs))(hf:0<xs.length):
 ∃g cap,v=.slice (some ⟨g,0,none⟩) xs.length cap/\xs.length<=cap/\cap<=9223372036854775807/\St we Se (ms.set i<|mB (rowT e cap) E g xs) Γ w:=by
 have:∃g cap,v=.slice (some ⟨g,0,none⟩) xs.length cap/\xs.length<=cap/\cap<=9223372036854775807:=xR h hm fun S ⟨cs,h1,h2⟩=>by
  rcases h1.2 with⟨rfl,h0⟩|⟨g,cap,cur,rfl,he,hg,ha,hb,hc,hd⟩
  ·lia
  ·exact⟨g,cap,rfl,ha,hb⟩
 obtain⟨g,cap,rfl,h1,h2⟩:=this;refine⟨g,cap,rfl,h1,h2,h.conv hm rfl fun S ⟨cs,h1,h2⟩=> ?_⟩;rcases h1.2 with⟨h0,_⟩|⟨g',cap',cur,hv,he,hg,ha,hb,hc,hd⟩
 ·cases h0
 ·cases hv;refine⟨cur,hg,cs,cur.toList.drop<|xs.length*e.n,?_,h2,by simpa using hc⟩;rw[<-hd,xbN]
theorem St.closeO{g cap:Nat}(i n:Nat)(h:St we Se ms Γ w)(hm:ms[i]? =some (mB (rowT e cap) E g xs))(hn:n<=xs.length)(hc:n<=cap)(ha:cap<=9223372036854775807):
 St we Se (ms.set i<|mO e E (.slice (some ⟨g,0,none⟩) n cap)<|xs.take n) Γ w:=by
 refine h.conv hm rfl fun S ⟨cs,hg,c,post,h1,h2,h3⟩=>⟨c.take<|n*e.n,?_,h2.take n⟩;have hl:(xs.take n).length=n:=by simp;lia
 have hb:=h2.len;have hd:n*e.n<=xs.length*e.n:=xaw _ hn;rw[hl];refine⟨by simp;lia,.inr ⟨g,cap,cs,rfl,xah _,hg,hc,by unfold maxLen;lia,by simpa using h3,?_⟩⟩;rw[h1,List.take_append_of_le_length<|by lia]
theorem St.closeF{g cap:Nat}(i:Nat)(h:St we Se ms Γ w)(hm:ms[i]? =some (mB (rowT e cap) E g xs))(hc:xs.length<=cap)(ha:cap<=9223372036854775807):
 St we Se (ms.set i<|mO e E (.slice (some ⟨g,0,none⟩) xs.length cap) xs) Γ w:=by
 have:=h.closeO i xs.length hm (xab _) hc ha;rwa[xcP]at this
theorem St.rowRT{b n:Nat}(i:Nat)(h:St we Se ms Γ w)(hm:ms[i]? =some (mR e E b xs))(hn:n=xs.length):St we Se (ms.set i<|mB (rowT e n) E b xs) Γ w:=
 h.conv hm rfl fun S ⟨cs,hg,he⟩=>⟨cs,hg,cs.toList,[],by simp,he,by rw[hn];exact yu.len (e:=e) he⟩
end
section
variable{P:Program}{N:Nd}{we:World}{Se:Nat->Prop}{ms:List MF}{Γ:List FF}{Q:Qs}{env:yN}{ops:Array Oper}{rest:List Oper}
 {d:Option Tmp}{ty yt t t':TypeId}{pos:String}{aft:Array Edge}{g:Option (Nat×Bool)}{x y:Operand}
theorem Hp{et:TypeId}{ag:Bool}{sz bytes:Nat}{zero:Value}{b o n cap l h:Nat}{lo hi:Option Value}{w:World}(ht:P.underlying t=some (.slice et))(hb:X3 P et ag sz bytes zero)
 (hl:lo=some (.int .i64 (l:Int))\/(lo=none/\l=0)) (hh:hi=some (.int .i64 (h:Int))\/(hi=none/\h=n)) (hd:l<=h) (he:h<=cap) (hf:l<cap\/l=0):
 (xcX t (.slice (some ⟨b,o,none⟩) n cap) lo hi none).run P w=.ok (.slice (some ⟨b,o+l*sz,none⟩) (h-l)<|cap-l) w:=by
 have b1:(0:Int)<=(l:Int)/\(l:Int)<=(h:Int):=by lia
 have b2:(0:Int)<=(h:Int)/\(h:Int)<=(cap:Int):=by lia
 have ha:(xcX t (.slice (some ⟨b,o,none⟩) n cap) lo hi none).run P w=.ok (.slice (if cap=l then some ⟨b,o,none⟩else(some (⟨b,o,none⟩:Addr)).map (·.add (l*sz))) (h-l)<|cap-l) w:=by
  unfold xcX;simp only[xas,run_underlying ht,xad];unfold xfL;simp only[xas,run_underlying ht,xad];unfold xdX
  rcases hl with rfl|⟨rfl,rfl⟩<;>rcases hh with rfl|⟨rfl,rfl⟩<;>
   simp only[xeo,asIntOf,xas,xaG,xad,iq b1,iq b2,xp hb,xaK]
 rw[ha];by_cases hc:cap=l
 ·have:l=0:=by lia
  subst this;simp[hc]
 ·simp[hc,qc]
theorem GB{et:TypeId}{ag:Bool}{sz bytes:Nat}{zero:Value}{b o n cap h:Nat}{hi:Operand}(hx:ev env x=.slice (some ⟨b,o,none⟩) n cap)(ht:P.underlying t=some (.slice et))(ha:X3 P et ag sz bytes zero)
 (hh:ev env hi=.int .i64 (h:Int)) (hb:h<=cap) (w:World):(execOp (ev env) ⟨d,.slice t x none (some hi) none,ty,pos,aft,g⟩).run P w=.ok (.value (.slice (some ⟨b,o,none⟩) h cap)) w:=by
 have:=Hp (P:=P) (b:=b) (o:=o) (n:=n) (w:=w) (lo:=none) (hi:=some (.int .i64 (h:Int))) (l:=0) ht ha (.inr ⟨rfl,rfl⟩) (.inl rfl) (xah _) hb (.inr rfl);simp only[xcv,xbT,Nat.sub_zero]at this;simp[execOp,hx,hh,this]
theorem S7{α:Type}{e:zZ α}{et:TypeId}{bytes:Nat}{zero:Value}(ht:P.underlying t=some (.slice et))(ha:X3 P et e.agg e.n bytes zero):OG P ⟨d,.buildSlice t 0 #[],ty,pos,aft,g⟩ env we Se ms Γ (fun v=>v) (fun v=>(mO e et v []::ms)) (fun _=>Γ) (fun _=>True):=by
 intro w hc;have hb:(xep t 0 #[]).run P w=.ok (.slice (some ⟨w.heap.size,0,none⟩) 0 0) (w.alloc (.cells #[] et)):=by
  unfold xep;simp only[xas,run_underlying ht,xad,xp ha,ir (show¬0*e.n>2^24 by lia),newRow,xcv,if_true];simp[xdg,run_newObj_alloc];congr 2;apply Array.eq_empty_of_size_eq_zero;simp
 refine kv.of_value (w':=w.alloc (.cells #[] et)) (v:=.slice (some ⟨w.heap.size,0,none⟩) 0 0) ?_ ⟨_,rfl,trivial,hc.fresh (QA.alloc w _) rfl (by simp) fun S _ _=>⟨[],?_,rfl⟩⟩
 ·simp[execOp,hb]
 ·exact⟨by simp,.inr ⟨w.heap.size,0,#[],rfl,xah _,heap_alloc_new w _,xab _,xah _,by simp,by simp⟩⟩
theorem zaD{α:Type}{e:zZ α}{et:TypeId}{bytes:Nat}{zero:Value}(hw:yF ops env ⟨d,.buildSlice t 0 #[],ty,pos,aft,g⟩=true)(hd:qw N.n d=true)
 (ht:P.underlying t=some (.slice et)) (ha:X3 P et e.agg e.n bytes zero)
 (k:∀v,TL P N we Se (mO e et v []::ms) Γ ops rest Q<|put env d v):TL P N we Se ms Γ ops (⟨d,.buildSlice t 0 #[],ty,pos,aft,g⟩::rest) Q env:=
 zf2 hw hd (S7 ht ha) fun v _=>k v
end
section
variable{P:Program}{env:yN}{d:Option Tmp}{ty t:TypeId}{pos:String}{aft:Array Edge}{g:Option (Nat×Bool)}{x y c:Operand}{w:World}{S:Nat->Prop}{v:Value}
theorem zlh{f:Go.Fn}{xs:List Operand}{vs:List Value}(h:xs.map (ev env)=vs)(w:World):(execOp (ev env) ⟨d,.makeFunc f #[] xs.toArray,ty,pos,aft,g⟩).run P w=.ok (.value (.func f #[] vs.toArray)) w:=
 b8 (by simp[pv,h]) w
end
section
variable{P:Program}{N:Nd}{we:World}{Se:Nat->Prop}{ms:List MF}{Γ:List FF}{Q:Qs}{env:yN}{ops:Array Oper}{rest:List Oper}
 {d:Option Tmp}{ty yt t t':TypeId}{pos:String}{aft:Array Edge}{g:Option (Nat×Bool)}{x y:Operand}
theorem Ht{α:Type}{e:zZ α}{et E b l dLen dCap cap bytes:Nat}{zero u:Value}{xs ys:List α}(i:Nat)(ht:P.underlying t=some (.slice et))(hH:X3 P et e.agg e.n bytes zero)(hb:e.n=1)(hm:ms[i]? =some (mB (rowT e cap) E b xs))(hx:ev env x=.slice (some ⟨b,0+l*e.n,none⟩) dLen dCap)(hy:ev env y=u)
 (hl:l+dLen<=xs.length) (hf:∀(S:Nat->Prop) (w:World),zA S Γ w->(fV (eS e) ys u).p S w):OG P ⟨d,.call ⟨.builtin .copy,#[x,y],#[t,t']⟩,ty,pos,aft,g⟩ env we Se ms Γ (fun n:Int=>(.int .i64 n)) (fun n=>(ms.set i<|mB (rowT e cap) E b<|xs.take l++ys.take (min ys.length dLen)++xs.drop (l+min ys.length dLen))) (fun _=>Γ) (fun _=>True):=by
 intro w hn;obtain⟨S0,⟨cs0,ho,c0,post0,hw,hz,hI⟩,hQ,hJ⟩:=hn.muts hm;obtain⟨ao,scap,hu,h1,h2,h3⟩:=xm.1<|hf S0 w hJ;obtain⟨ti,hi,i1,i2,i3⟩:=hH.info;have hA:(P.info? et).map (·.size)=some 1:=by rw[hi];simp[i1,hb]
 have hB:∀v w',(Builtin.copy_ #[t,t'] ty #[.slice (some ⟨b,0+l*e.n,none⟩) dLen dCap,u]).run P w=.ok v w'->
  (execOp (ev env) ⟨d,.call ⟨.builtin .copy,#[x,y],#[t,t']⟩,ty,pos,aft,g⟩).run P w=.ok (.value v) w':=fun v w' hr=>by
  simp only[execOp,resolve,invoke,builtin,xdI,xbX,xex,hx,hy,xas,hr,xaG,xad]
 have hR:c0.length=xs.length:=by have:=hz.len;rw[hb,xcG]at this;exact this
 by_cases h0:min ys.length dLen=0
 ·have hr:=run_copy_none (P:=P) w t t' ty et (some ⟨b,0+l*e.n,none⟩) ao dLen dCap ys.length scap ht hA h0;rw[<-hu]at hr;refine kv.of_value (hB _ _ hr) ⟨_,rfl,trivial,?_⟩;rw[h0];simp only[xbT,List.take_zero,xbR,xbN];have:ms.set i (mB (rowT e cap) E b xs)=ms:=by
   obtain⟨hT,hK⟩:=xat.1 hm;rw[<-hK,xfx]
  rw[this];exact hn
 ·rcases h3 with h3|⟨sb,so,cs,rfl,hU,ha,hp⟩
  ·rw[h3]at h0;simp at h0
  ·have hC:cs.length=ys.length:=by have:=hp.len;rw[hb,xcG]at this;exact this
   have hd:(cs.take<|min ys.length dLen).length=Nat.min ys.length dLen:=by rw[xav,hC];exact xcM<|Nat.min_le_left _ _
   have hD:0+l*e.n+(cs.take<|min ys.length dLen).length<=cs0.size:=by
    rw[hd,hb];have e1:cs0.toList.length=c0.length+post0.length:=by rw[hw,xax]
    have e2:Nat.min ys.length dLen<=dLen:=Nat.min_le_right _ _;simp only[xeT]at e1;lia
   have hr:=run_copy_row (P:=P) w t t' ty et b (0+l*e.n) dLen dCap ⟨sb,so,none⟩ ys.length scap cs0 E (cs.take<|min ys.length dLen) ht hA ho hd
    (fun j v hv=>by rw[qc];exact(ha.take _).2 j v hv) hD (fun v hv=>hp.one v<|xdV hv)
   rw[<-hu]at hr;refine kv.of_value (hB _ _ hr) ⟨_,rfl,trivial,hn.write hm rfl rfl (Wu w b _) ?_⟩;rintro S hS ⟨cs1,hE,c1,post1,he,hc,hq⟩ h8;rw[ho]at hE;cases hE;obtain⟨ao2,scap2,hF,_,_,hs⟩:=xm.1<|hf S w h8;rw[hu]at hF;cases hF;rcases hs with hs|⟨sb2,so2,cs2,hL,hV,hM,hg⟩
   ·rw[hs]at h0;simp at h0
   ·cases hL;have hN:cs2=cs:=by
     have hO:cs2.length=cs.length:=by rw[hg.len,hp.len]
     apply xcy;intro j;by_cases hj:j<cs.length
     ·have e1:=ha.2 j cs[j] (by simp[hj]);have e2:=hM.2 j cs2[j] (by simp[hO,hj]);rw[e1]at e2;rw[xaa hj,xaa (by lia:j<cs2.length),e2]
     ·rw[xaH (l:=cs) (by lia),xaH (l:=cs2)<|by lia]
    subst hN;have hW:c1.length=xs.length:=by have:=hc.len;rw[hb,xcG]at this;exact this
    have kk:yq S w (w.setRow b (cs0.toList.take (0+l*e.n)++cs2.take (min ys.length dLen)++cs0.toList.drop (0+l*e.n+(cs2.take<|min ys.length dLen).length)).toArray):=(Wu w b _).weak fun k _ hk=>hS k hk;refine⟨_,setRow_heap w b cs0 _ E (0,0) ho,c1.take l++cs2.take (min ys.length dLen)++c1.drop (l+min ys.length dLen),post1,?_,?_,?_⟩
    ·have hG:Nat.min ys.length dLen=min ys.length dLen:=rfl;have hP:min ys.length dLen<=dLen:=Nat.min_le_right _ _;rw[hd,hG,hb,xcG,xaN,he,List.take_append_of_le_length (by lia),List.drop_append_of_le_length<|by lia];simp[xaj]
    ·have q1:=(hc.keep kk).take l;have q2:=(hg.keep kk).take<|min ys.length dLen;have q3:=(hc.keep kk).drop<|l+min ys.length dLen;simp only[hb,xcG]at q1 q2 q3;simpa only[hb,xcG]using(q1.append q2).append q3
    ·have hG:Nat.min ys.length dLen=min ys.length dLen:=rfl;have hP:min ys.length dLen<=dLen:=Nat.min_le_right _ _;have e1:cs0.toList.length=c1.length+post1.length:=by rw[he,xax]
     rw[<-hq];simp only[xax,xav,xbO,hC,hb,xcG,xaN]at hd⊢;lia
end
end
section
section
variable{P:Program}{env:yN}{ms:List MF}{Γ:List FF}{d:Option Tmp}{ty t yt:TypeId}{pos:String}{aft:Array Edge}{g:Option (Nat×Bool)}{x y:Operand}
theorem A7{t E:TypeId}{ao:Option Addr}{n c:Nat}(ht:P.underlying t=some (.slice E))(w:World):(Op.equal t (.slice ao n c) (.slice none 0 0)).run P w=.ok ao.isNone w:=by
 show(Op.equalIn (9999+1) t (.slice ao n c) (.slice none 0 0)).run P w=_;unfold Op.equalIn;cases ao<;>simp only[xas,run_underlying ht,xad,xaG,Option.isNone_none,Option.isNone_some]
theorem zeN{α:Type}{e:zZ α}{xs:List α}{v:Value}{E:TypeId}(ht:P.underlying t=some (.slice E))(hx:ev env x=v)(hy:ev env y=.slice none 0 0)(hf:∀(S:Nat->Prop) (w:World),zA S Γ w->(fV (eS e) xs v).p S w):
 Eu P ⟨d,.binOp .eql t x y yt,ty,pos,aft,g⟩ env ms Γ (fun u:Bool=> .bool u) (fun _=>[]) (fun u=>u=true->xs=[]):=by
 intro w S _ _ hΓ;obtain⟨ao,cap,hv,h1,h2,h3⟩:=xm.1<|hf S w hΓ;have hg:(eqGuard .eql t x y (.slice ao xs.length cap) (.slice none 0 0)).run P w=.ok () w:=by simp[eqGuard]
 have h2:(binOp .eql t (.slice ao xs.length cap) (.slice none 0 0)).run P w=.ok (.bool ao.isNone) w:=by simp only[binOp,xas,A7 ht,xad,xaG]
 refine kv.of_value (w':=w) (v:=.bool ao.isNone) ?_ ⟨ao.isNone,rfl,fun hn=> ?_,yq.refl _ _,trivial⟩
 ·simp only[execOp,hx,hv,hy,xas,hg,h2,xad,xaG]
 ·rcases h3 with h3|⟨b,o,cs,rfl,_⟩
  ·exact h3
  ·simp at hn
end
section
variable{P:Program}{env:yN}{d:Option Tmp}{ty t:TypeId}{pos:String}{aft:Array Edge}{g:Option (Nat×Bool)}{x y c:Operand}{w:World}{S:Nat->Prop}{v:Value}{o:Oper}
theorem zdx(hc:ev env c=.bool true)(h:ev env x=v)(w:World):(execOp (ev env) ⟨d,.pick c x y,ty,pos,aft,g⟩).run P w=.ok (.value v) w:=b8 (by simp[pv,hc,h]) w
theorem zdm(hc:ev env c=.bool false)(h:ev env y=v)(w:World):(execOp (ev env) ⟨d,.pick c x y,ty,pos,aft,g⟩).run P w=.ok (.value v) w:=b8 (by simp[pv,hc,h]) w
end
def qU(x y:Int):Int:=if x<y then-1 else if y<x then 1 else 0
theorem vQ{x y:Int}(h:x<y):qU x y= -1:=by simp[qU,h]
theorem w4{x y:Int}(h:y<x):qU x y=1:=by grind [qU]
theorem jD{x y:Int}(h:x=y):qU x y=0:=by grind [qU]
end
section
section
variable{P:Program}{N:Nd}{we:World}{Se:Nat->Prop}{ms:List MF}{Γ:List FF}{Q:Qs}{env0:yN}{l:List Oper}
theorem cW{env:yN}{d:Option Tmp}{v:Value}{t:Tmp}(h:d≠some t):put env d v t=env t:=by
 cases d with
 |none=>rfl
 |some dd=>
  have ha:¬t=dd:=fun e=>h (by rw[e]);have:xap t dd=false:=uX ha;simp[put,L,this]
theorem sn{env:yN}{v:Value}{t:Tmp}:put env (some t) v t=v:=by simp[put,L]
end
end
section
section
variable{P:Program}{N:Nd}{we:World}{Se:Nat->Prop}{ms F:List MF}{Γ:List FF}{env:yN}{U:Type}{val:U->Value}{own:U->List MF}{facts:U->List FF}{ok:U->Prop}{fn:Func}
 {ops:Array Oper}{rest:List Oper}{d:Option Tmp}{t ty yt:TypeId}{pos:String}{aft:Array Edge}{g:Option (Nat×Bool)}{x y:Operand}
theorem Rr{α:Type}{e:zZ α}{et:TypeId}{xs ys:List α}{v u:Value}{bytes:Nat}{zero:Value}(i:Nat)
 (ht:P.underlying t=some (.slice et)) (ha:X3 P et e.agg e.n bytes zero) (hc:zero.cells.size=e.n) (hn:0<e.n)
 (hm:ms[i]? =some (mO e et v xs)) (hx:ev env x=v) (hy:ev env y=u) (hf:∀(S:Nat->Prop) (w:World),zA S Γ w->(fV (eS e) ys u).p S w)
 (hd:xs.length+ys.length<=9223372036854775807) (hb:(xs.length+ys.length)*bytes<=140737488355328):
 OG P ⟨d,.call ⟨.builtin .append,#[x,y],#[t,t]⟩,ty,pos,aft,g⟩ env we Se ms Γ (fun v'=>v') (fun v'=>ms.set i<|mO e et v'<|xs++ys) (fun _=>Γ) (fun _=>True):=
 J2 i ht ha hc hn hm hx hy (fun S w _ h=>SlQ.of<|hf S w h) hd hb
end
end
section
abbrev VE(x:Int):Prop:= -9223372036854775808<=x/\x<=9223372036854775807
abbrev JE(x:Nat):Prop:=x<18446744073709551616
section
variable{α β:Type}
def ck(p:Prop)[Decidable p](k:Option α):Option α:=if p then k else none
def ze(e:Int)(k:Int->Option α):Option α:=if VE e then k e else none
def zG(i:Int)(n:Nat)(k:Nat->Option α):Option α:=if 0<=i/\i<(n:Int)then k i.toNat else none
def jM(i:Int)(k:Nat->Option α):Option α:=if 0<=i then k i.toNat else none
def nm(e:β)(k:β->Option α):Option α:=k e
def bd(x:Option β)(k:β->Option α):Option α:=match x with
 |some v=>k v
 |none=>none
def zg(f:(β->Option α)->β->Option α):Nat->β->Option α
 |0,_=>none
 |k+1,s=>f (zg f k) s
theorem kG{p:Prop}[Decidable p]{k:Option α}{r:α}(h:ck p k=some r):p/\k=some r:=by grind [ck]
theorem Vg{e:Int}{k:Int->Option α}{r:α}(h:ze e k=some r):∃x,x=e/\VE x/\k x=some r:=by grind [ze]
theorem zfK{i:Int}{n:Nat}{k:Nat->Option α}{r:α}(h:zG i n k=some r):∃j:Nat,i=(j:Int)/\j<n/\k j=some r:=by grind [zG]
theorem Pf{i:Int}{k:Nat->Option α}{r:α}(h:jM i k=some r):∃j:Nat,i=(j:Int)/\k j=some r:=by grind [jM]
theorem xq{e:β}{k:β->Option α}{r:α}(h:nm e k=some r):∃x,x=e/\k x=some r:=⟨e,rfl,h⟩
theorem rM{x:Option β}{k:β->Option α}{r:α}(h:bd x k=some r):∃v,x=some v/\k v=some r:=by
 cases x with
 |none=>cases h
 |some v=>exact⟨v,rfl,h⟩
theorem zgJ{c:Prop}[Decidable c]{x y:Option α}{r:α}(hc:c)(h:(if c then x else y)=some r):x=some r:=by rwa[iq hc]at h
theorem zhs{c:Prop}[Decidable c]{x y:Option α}{r:α}(hc:¬c)(h:(if c then x else y)=some r):y=some r:=by rwa[ir hc]at h
theorem Pa{f:(β->Option α)->β->Option α}{s:β}{r:α}(h:zg f 0 s=some r):False:=by cases h
theorem Pc{f:(β->Option α)->β->Option α}{k:Nat}{s:β}{r:α}(h:zg f (k+1) s=some r):f (zg f k) s=some r:=h
end
section
variable{α β:Type}
theorem wC{p:Prop}[Decidable p]{k:Option α}(h:p):ck p k=k:=iq h
theorem yJ{p:Prop}[Decidable p]{k:Option α}(h:p:=by lia):ck p k=k:=if_pos h
theorem r7{e:Int}{k:Int->Option α}(h:VE e):ze e k=k e:=iq h
theorem zb{e:Int}{k:Int->Option α}(h1: -9223372036854775808<=e:=by lia)(h2:e<=9223372036854775807:=by lia):ze e k=k e:=if_pos ⟨h1,h2⟩
theorem pK{i:Int}{n:Nat}{k:Nat->Option α}(h:0<=i/\i<(n:Int)):zG i n k=k i.toNat:=iq h
theorem zp{i n:Nat}{k:Nat->Option α}(h:i<n):zG (i:Int) n k=k i:=by rw[pK ⟨by lia,by lia⟩];rfl
theorem yj{i n:Nat}{k:Nat->Option α}(h:i<n:=by lia):zG (i:Int) n k=k i:=zp h
theorem zj2{i:Int}{k:Nat->Option α}(h:0<=i):jM i k=k i.toNat:=iq h
theorem yE{i:Nat}{k:Nat->Option α}:jM (i:Int) k=k i:=by rw[zj2<|by lia];rfl
theorem zf{e:β}{k:β->Option α}:nm e k=k e:=rfl
theorem za{x:Option β}{v:β}{k:β->Option α}(h:x=some v):bd x k=k v:=by rw[h];rfl
theorem jc{f:(β->Option α)->β->Option α}{k:Nat}{s:β}:zg f (k+1) s=f (zg f k) s:=rfl
end
theorem Gb{n:Nat}(h:n<=9223372036854775807):VE (n:Int):=⟨by lia,by lia⟩
theorem zi5(x:Nat):JE (x%18446744073709551616):=xbi _<|by decide
theorem zgI{x e:Nat}(h:x=e)(he:JE e):JE x:=h▸he
theorem zcv{x e:Int}(h:x=e)(he:VE e):VE x:=h▸he
theorem Xd{x e:Nat}(h:x=e%18446744073709551616):JE x:=h▸zi5 e
theorem zh4{a b x:Int}(ha:VE a)(h:x=a.tmod b):VE x:=by
 subst h;have h1:=Int.natAbs_tmod a b;have h2:=Nat.mod_le a.natAbs b.natAbs;have h3:(a.tmod b).natAbs<=a.natAbs:=by lia
 rcases Int.le_total 0 a with h0|h0
 ·have:=Int.tmod_nonneg b h0;exact⟨by lia,by lia⟩
 ·have:a.tmod b<=0:=by
   have:=Int.tmod_nonneg b (a:= -a) (by lia);rw[Int.neg_tmod]at this;lia
  exact⟨by lia,by lia⟩
theorem zgV{a b x:Nat}(ha:JE a)(h:x=a%b):JE x:=by
 have:=Nat.mod_le a b;unfold JE at*;lia
theorem oU{a b x:Nat}(ha:JE a)(h:x=a/b):JE x:=by
 have:=xea a b;unfold JE at*;lia
theorem zjN{a b:Int}(ha:VE a)(hb:VE b):VE (max a b):=by unfold VE at*;lia
theorem zj0{a b:Int}(ha:VE a)(hb:VE b):VE (min a b):=by unfold VE at*;lia
theorem zi9{α:Type}{l:List α}{k:Nat}{y z:α}(h:k<l.length)(hy:y=l.getD k z):l[k]? =some y:=by rw[hy];exact getD_some z h
def Ru(x:Nat):Int:=if x<9223372036854775808 then(x:Int)else(x:Int)-18446744073709551616
def gI(x:Int):Nat:=(x%18446744073709551616).toNat
theorem zbE{x:Nat}(h:JE x):VE (Ru x):=by unfold Ru JE at*;split<;>constructor<;>lia
theorem mg(x:Int):JE (gI x):=by unfold gI JE;lia
theorem sP{x:Nat}(h:JE x):xcY.wrap (x:Int)=Ru x:=by
 unfold Ru;unfold JE at h;split
 ·exact w64 ⟨by lia,by lia⟩
 ·rename_i h2;have h3:xcY.wrap (x:Int)=xcY.wrap ((x:Int)-18446744073709551616):=by
   simp[xfS,xew,xdS];all_goals lia
  rw[h3];exact w64 ⟨by lia,by lia⟩
theorem zbT(x:Int):xcr.wrap x=((gI x:Nat):Int):=by rw[sR];unfold gI;lia
theorem Ta{x c:Int}(h:c=x)(hb:VE c):xcY.wrap x=c:=by subst h;exact w64 hb
theorem db{k:IntKind}{x:Int}{c n:Nat}(h:c=n)(hb:k.wrap x=(n:Int)):k.wrap x=(c:Int):=by rw[hb,h]
inductive Tg
 |n
 |x (i:Nat)
 |r
def tgB:Tg->Exit->Bool
 |.n,.normal=>true
 |.x i,.exit j=>xap i j
 |.r,.ret=>true
 |_,_=>false
def tgE:Tg->Exit
 |.n=> .normal
 |.x i=> .exit i
 |.r=> .ret
theorem zgY{t:Tg}{e:Exit}(h:tgB t e=true):e=tgE t:=by
 cases t<;>cases e<;>first|rfl|cases h|skip
 rename_i i j;rw[xcL (show xap i j=true from h)];rfl
def XQ:List (Tg×(yN->World->Prop))->Qs
 |[],_,_,_=>False
 |(t,J)::r,e,env,w=>bif tgB t e then J env w else XQ r e env w
def XK(Q:Qs):List (Tg×(yN->World->Prop))->Prop
 |[]=>True
 |(t,J)::r=>(∀env w,J env w->Q (tgE t) env w)/\XK Q r
theorem zgk{Q:Qs}:∀{l:List (Tg×(yN->World->Prop))},XK Q l->∀e env w,XQ l e env w->Q e env w
 |[],_,_,_,_,h=>h.elim
 |(t,J)::r,k,e,env,w,h=>by
  unfold XQ at h;cases ht:tgB t e
  ·rw[ht]at h;exact zgk k.2 e env w h
  ·rw[ht]at h;rw[zgY ht];exact k.1 env w h
inductive JQ(we:World)(Se:Nat->Prop){G:Type}(inv:G->Inv)(ok:G->Prop)(env:yN)(w:World):Prop
 |mk (g:G) (h1:ok g) (h2:VW env (inv g).live) (h3:St we Se (inv g).ms (inv g).Γ w):JQ we Se inv ok env w
section
variable{P:Program}{N:Nd}{we:World}{Se:Nat->Prop}{ms:List MF}{Γ:List FF}{Q:Qs}{env:yN}
theorem T_X(l:List (Tg×(yN->World->Prop))){c:Code}(h:T P N we Se ms Γ c (XQ l) env)(k:XK Q l):T P N we Se ms Γ c Q env:=
 fun w hw a h1 h2 h3=>wpIn_mono (h w hw a h1 h2 h3) fun e a' w' ⟨q1,q2,q3⟩=>⟨q1,q2,zgk k e _ _ q3⟩
theorem OW{G:Type}{inv:G->Inv}{ok:G->Prop}(g:G)(h1:ok g)(h2:VW env (inv g).live)(hs:∀w,St we Se ms Γ w->St we Se (inv g).ms (inv g).Γ w):
 ∀w,St we Se ms Γ w->JQ we Se inv ok env w:=fun w hw=>⟨g,h1,h2,hs w hw⟩
theorem zko{G:Type}{inv:G->Inv}{ok:G->Prop}{R:yN->World->Prop}(k:∀g,ok g->∀rest w,St we Se (inv g).ms (inv g).Γ w->R (L (inv g).live rest) w):
 ∀env w,JQ we Se inv ok env w->R env w:=fun env w ⟨g,h1,h2,h3⟩=>by
 have:=k g h1 env w h3;rwa[JA h2]at this
end
end
section
section
variable{P:Program}{N:Nd}{we:World}{Se:Nat->Prop}{ms F:List MF}{Γ:List FF}{Q:Qs}{env:yN}{ops:Array Oper}{rest:List Oper}{o:Oper}
 {d:Option Tmp}{ty yt t ti t':TypeId}{pos:String}{aft:Array Edge}{g:Option (Nat×Bool)}{x y:Operand}
theorem v_i{k:IntKind}{c z:Int}(h:∀w,(execOp (ev env) o).run P w=.ok (.value (.int k c)) w)(hz:z=c):∀w,(execOp (ev env) o).run P w=.ok (.value (.int k z)) w:=by
 subst hz;exact h
theorem SD{c z:Bool}(h:∀w,(execOp (ev env) o).run P w=.ok (.value (.bool c)) w)(hz:z=c):∀w,(execOp (ev env) o).run P w=.ok (.value (.bool z)) w:=by
 subst hz;exact h
theorem eY{a:Nat}{b:Int}:(a:Int).fdiv (2^(min b.toNat xcr.bits))=((a/2^(min b.toNat 64):Nat):Int):=by
 have:xcr.bits=64:=rfl;rw[this,xeJ _ (by have:(0:Int)<=2^(min b.toNat 64):=xfv (by decide);exact this)];try norm_cast
theorem Oy{a:Nat}{b:Int}:xcr.wrap ((a:Int)*2^(min b.toNat xcr.bits))=((a*2^(min b.toNat 64)%18446744073709551616:Nat):Int):=by
 have:xcr.bits=64:=rfl;rw[this];have h:=zer<|a*2^(min b.toNat 64);rw[<-h];congr 1
theorem zbw{a x:Int}{k:Nat}(ha:VE a)(h:x=a.fdiv (2^k)):VE x:=by
 have hp:(0:Int)<2^k:=Int.pow_pos (by decide);rw[xeJ _<|by lia]at h;subst h;obtain⟨h1,h2⟩:=ha;have h3:=xdr a<|2^k;generalize hq:a/2^k=q at*
 rcases(show a<0\/0<=a by lia)with h0|h0
 ·have:=Int.ediv_neg_of_neg_of_pos h0 hp;constructor<;>lia
 ·constructor<;>lia
def eH(a b:Int):Int:=Ru<|gI a &&& gI b
def orI(a b:Int):Int:=Ru (gI a|||gI b)
theorem ed{a b:Nat}(ha:JE a):JE (a &&& b):=xba Nat.and_le_left ha
theorem og{a b:Nat}(ha:JE a)(hb:JE b):JE (a|||b):=Nat.or_lt_two_pow (n:=64) ha hb
theorem za5{a:Nat}(ha:JE a):((a:Int)%2^xcr.bits).toNat=a:=by
 have:(2:Int)^xcr.bits=18446744073709551616:=rfl;rw[this];unfold JE at ha;lia
theorem zeD{a b:Nat}(ha:JE a)(hb:JE b):xcr.wrap (((((a:Int)%2^xcr.bits).toNat &&& ((b:Int)%2^xcr.bits).toNat:Nat)):Int)=((a &&& b:Nat):Int):=by grind [za5,dT,ed]
theorem zhL{a b:Nat}(ha:JE a)(hb:JE b):xcr.wrap (((((a:Int)%2^xcr.bits).toNat|||((b:Int)%2^xcr.bits).toNat:Nat)):Int)=((a|||b:Nat):Int):=by grind [za5,dT,og]
theorem zew{a b:Int}:xcY.wrap (((a%2^xcY.bits).toNat &&& (b%2^xcY.bits).toNat:Nat):Int)=eH a b:=sP<|ed<|mg a
theorem zhY{a b:Int}:xcY.wrap (((a%2^xcY.bits).toNat|||(b%2^xcY.bits).toNat:Nat):Int)=orI a b:=sP<|og (mg a)<|mg b
theorem zgu(a b:Int):VE (eH a b):=zbE<|ed<|mg a
theorem zjL(a b:Int):VE (orI a b):=zbE<|og (mg a)<|mg b
theorem zi6{b:Nat}(h:b≠0):(b:Int)≠0:=by lia
theorem zaT{B n:Nat}(hB:0<B)(h:B*n<=281474976710656):n<=9223372036854775807:=by
 have:=xdm n hB;lia
theorem GQ{α:Type}{e:zZ α}{et:TypeId}{z:α}{xs:List α}{n bytes:Nat}{zero:Value}{yy:Operand}{kl kc:IntKind}(ht:P.underlying t=some (.slice et))(ha:X3 P et e.agg e.n bytes zero)(hx:ev env x=.int kl (n:Int))(hy:ev env yy=.int kc (n:Int))(hB:0<bytes)(hb:bytes*n<=281474976710656)
 (hz:∀(S:Nat->Prop) (w:World),e.p S z zero.cells.toList w) (hc:xs=xaf n z):OG P ⟨d,.makeSlice t x yy,ty,pos,aft,g⟩ env we Se ms Γ (fun b=>(.slice (some ⟨b,0,none⟩) n n)) (fun b=>(mB (rowT e n) et b xs::ms)) (fun _=>Γ) (fun _=>True):=by
 subst hc;intro w hd;refine(Oz ht ha hx hy hb (zaT hB hb) hz w hd).mono ?_;rintro v w' ⟨b,h1,h2,h3⟩;exact⟨b,h1,h2,h3.rowRT 0 rfl<|by simp⟩
end
end
section
theorem zhM{α:Type}{a x:α}(h:some a=some x):a=x:=xdv h
theorem Rf{x:Int}{c n:Nat}(h:c=n)(hb:x=(n:Int)):x=(c:Int):=by rw[hb,h]
theorem zdP{x y z q:Nat}(hx:JE x)(hy:JE y)(hz:z<=1)(h:q=(x+y+z)/18446744073709551616):JE q:=by unfold JE at*;lia
theorem zfg{x y z q:Nat}(_:JE x)(_:JE y)(_:z<=1)(h:q=if x<y+z then 1 else 0):JE q:=by unfold JE;split at h<;>lia
theorem v_2{P:Program}{env:yN}{o:Oper}{k k':IntKind}{a b x y:Nat}(h:∀w,(execOp (ev env) o).run P w=.ok (.value (.tuple #[.int k (a:Int),.int k' (b:Int)])) w)(hx:x=a)(hy:y=b):
 ∀w,(execOp (ev env) o).run P w=.ok (.value (.tuple #[.int k (x:Int),.int k' (y:Int)])) w:=by subst hx;subst hy;exact h
def JG(we:World)(Se:Nat->Prop)(i:Inv)(R:yN->World->Prop)(rest:yN):Prop:=∀w,St we Se i.ms i.Γ w->R (L i.live rest) w
theorem zbg{we:World}{Se:Nat->Prop}{G:Type}{inv:G->Inv}{ok:G->Prop}{R:yN->World->Prop}(k:∀g,ok g->∀rest,JG we Se (inv g) R rest):
 ∀env w,JQ we Se inv ok env w->R env w:=zko k
theorem zf6{we:World}{Se:Nat->Prop}{i:Inv}{R:yN->World->Prop}{rest:yN}{ms':List MF}{Γ':List FF}{live':List (Nat×Value)}(h:i=⟨ms',Γ',live'⟩)(k:∀w,St we Se ms' Γ' w->R (L live' rest) w):JG we Se i R rest:=by
 subst h;exact k
theorem NB{F:Fence}{n:Nat}{P:Program}{a:Act}{w:World}{Q:Exit->Act->World->Prop}{c:Code}(h:c.wpIn F n P (Exit.noGoto Q) a w):(Code.scope c).wpIn F n P Q a w:=by
 intro b k cs hc hb hr;have s1:∀{cs:List Frame}{k:List Item},step P (lone (b.atR a (.code (.scope c)::k)) cs w)=.next (lone (b.atR a (.code c::.inScope c::k)) cs w):=step_lone_go (by simp[stepG,stepG.exec,Frame.atR]);have s2:∀{a:Act}{w:World}{cs:List Frame}{k:List Item},step P (lone (b.atR a (.inScope c::k)) cs w)=.next (lone (b.atR a k) cs w):=step_lone_go (by simp[stepG,stepG.exec,Frame.atR]);have h0:(lone (b.atR a (.code (.scope c)::k)) cs w).fenced P F:=fenced_calm hb hr rfl;obtain⟨e,a₁,w₁,hq,ha⟩:=h b (.inScope c::k) cs hc hb hr
 cases e with
 |normal=>exact⟨.normal,a₁,w₁,hq,.head h0 s1<|StepsIn.trans ha (.one (fenced_calm hb hr rfl) s2)⟩
 |exit id=>exact⟨.exit id,a₁,w₁,hq,fun k' hk=> .head h0 s1 (ha.1 k'<|by simp[exitTo,hk]),fun hd hk=>let⟨k₁,h1,h2⟩:=ha.2 hd (by simp[exitTo,hk]);⟨k₁,h1,.head h0 s1 h2⟩⟩
 |goto l=>exact hq.elim
 |ret=>exact⟨_,a₁,w₁,hq,.of_steps (.one h0 s1) ha⟩
 |panic ch=>exact⟨_,a₁,w₁,hq,.of_steps (.one h0 s1) ha⟩
 |outgrown=>exact⟨_,a₁,w₁,hq,.of_steps (.one h0 s1) ha⟩
section
variable{P:Program}{N:Nd}{we:World}{Se:Nat->Prop}{ms:List MF}{Γ:List FF}{Q:Qs}{env:yN}{ops:Array Oper}{d:Option Tmp}{ty t:TypeId}{pos:String}{aft:Array Edge}{g:Option (Nat×Bool)}
theorem zel{α:Type}{e:zZ α}{z:α}{bytes:Nat}{zero:Value}(ht:X3 P t true e.n bytes zero)(hc:e.agg=true)(he:zero.cells.size=e.n)
 (ha:(∃fs,P.underlying t=some (.struct fs)/\∃pl:Array (Nat×Nat),(∀w,(fs.mapM (fun f=>do pure (f.offset,<-sizeOf f.type)):Sem (Array<|Nat×Nat)).run P w=.ok pl w))\/
  (∃k et n b2 z2 ag2,P.underlying t=some (.array k et)/\X3 P et ag2 n b2 z2))
 (hp:∀(S:Nat->Prop) (w:World),e.p S z zero.cells.toList w):
 Eu P ⟨d,.build t #[],ty,pos,aft,g⟩ env ms Γ (fun v:Value=>v) (fun v=>[fV e z v]) (fun _=>True):=by
 intro w S _ _ hΓ;refine kv.of_value (w':=w) (v:=.agg zero.cells) ?_ ⟨_,rfl,trivial,yq.refl _ _,⟨⟨zero.cells.toList,by simp[zZ.val,hc],hp S w⟩,trivial⟩⟩;have hb:(xfN t #[]).run P w=.ok (.agg zero.cells) w:=by
  unfold xfN;rcases ha with⟨fs,hu,pl,ha⟩|⟨k,et,n,b2,z2,ag2,hu,hd⟩
  ·simp only[xas,w7 ht,xad,run_underlying hu,ha,xaG,xdg]
  ·simp[xas,w7 ht,xad,run_underlying hu,xp hd,xaG,xdg]
 simp[execOp,hb]
def plB(P:Program)(t:TypeId):Option (Array<|Nat×Nat):=match P.underlying t with
 |some (.struct fs)=>(fs.toList.mapM fun f=>(P.info? f.type).map fun i=>(f.offset,i.size)).map (·.toArray)
 |_=>none
theorem Hs(w:World):∀(l:List Field) (r:List (Nat×Nat)),(l.mapM fun f=>(P.info? f.type).map fun i=>(f.offset,i.size))=some r->(l.mapM (fun f=>do pure (f.offset,<-sizeOf f.type)):Sem (List<|Nat×Nat)).run P w=.ok r w
 |[],r,h=>by simp at h;subst h;simp
 |f::l,r,h=>by
  rw[List.mapM_cons]at h
  cases hi:P.info? f.type with
  |none=>rw[hi]at h;simp at h
  |some i=>
   rw[hi]at h
   cases hl:(l.mapM fun f=>(P.info? f.type).map fun i=>(f.offset,i.size))with
   |none=>rw[hl]at h;simp at h
   |some q=>
    rw[hl]at h;simp at h;subst h;have ih:=Hs w l q hl;have hs:(sizeOf f.type).run P w=.ok i.size w:=by simp[sizeOf,typeInfo,hi]
    rw[List.mapM_cons];simp only[xas,hs,ih,xad,xaG]
theorem zeg{pl:Array (Nat×Nat)}(h:plB P t=some pl):∃fs,P.underlying t=some (.struct fs)/\∀w,(fs.mapM (fun f=>do pure (f.offset,<-sizeOf f.type)):Sem (Array<|Nat×Nat)).run P w=.ok pl w:=by
 unfold plB at h;split at h
 ·next fs hu=>
  refine⟨fs,hu,fun w=> ?_⟩
  cases hl:(fs.toList.mapM fun f=>(P.info? f.type).map fun i=>(f.offset,i.size))with
  |none=>rw[hl]at h;cases h
  |some q=>
   rw[hl]at h;cases h;have:=Hs w fs.toList q hl;rw[Array.mapM_eq_mapM_toList];simp only[Sem.run_map,this,xad]
 ·cases h
theorem wu8(n:Nat):xfW.wrap (n:Int)=((n%256:Nat):Int):=by
 simp[xfS,xew,xdS]
theorem Ec{x e:Nat}(h:x=e%256):x<256:=h▸xbi _ (by decide)
theorem b_r{x:Nat}(h:x<256):VE (x:Int):=⟨by lia,by lia⟩
theorem zce{x y:Operand}{s:ByteArray}{k:IntKind}{j z:Nat}(ht:P.underlying t=some .string)(hx:ev env x=.string s)(hs:s=Lib.len8tab)(hy:ev env y=.int k (j:Int))(hj:j<256)(hz:z=xeZ j)(w:World):
 (execOp (ev env) ⟨d,.index t x y,ty,pos,aft,g⟩).run P w=.ok (.value (.int .u8 (z:Int))) w:=by
 subst hs;subst hz;have h:=Lib.run_index_len8tab (P:=P) w t k (j:Int) ht (by lia) (by lia);rw[Lib.len8_of _ (by lia)<|by lia]at h;simp[execOp,hx,hy,h]
theorem Cn{j z:Nat}(hj:j<256)(hz:z=xeZ j):z<256:=by
 have:=Lib.bitLen_le8' (j:Int) (by lia) (by lia);simp at this;lia
theorem zct{place:Nat->Option (Nat×Nat)}{i off:Nat}{v:Value}{pre c post:List Value}(hp:place i=some (off,v.cells.size))(ho:pre.length=off)(hc:c.length=v.cells.size):
 xdg place (pre++c++post).toArray [(i,v)]=some (pre++v.cells.toList++post).toArray:=by
 subst ho;have ha:v.cells.zipIdx.foldl (fun cs (x:Value×Nat)=>cs.setIfInBounds (pre.length+x.2) x.1) (pre++c++post).toArray=(pre++v.cells.toList++post).toArray:=by
  apply Array.ext';rw[<-Array.foldl_toList,Array.toList_zipIdx,gL pre.length v.cells.toList 0 _<|by simp;lia];have e1:(pre++c++post).take pre.length=pre:=by rw[xaj,xfO];rfl
  have e2:(pre++c++post).drop (pre.length+v.cells.toList.length)=post:=by rw[xfb];simp;lia
  simp only[xbT,List.toList_toArray]at*
  rw[e1,e2]
 unfold xdg;simp only[hp];rw[ir<|by simp;lia];refine(congrArg (fun a=>xdg place a []) ha).trans ?_;simp[xdg]
theorem Rs{α β:Type}{e:zZ α}{f:zZ β}{z0 z:α}{x0 y:β}{up:β->α}{off i bytes:Nat}{zero v:Value}{x:Operand}{pl:Array (Nat×Nat)}(ht:X3 P t true e.n bytes zero)(hj:e.agg=true)
 (hz:∀(S:Nat->Prop) (w:World),e.p S z0 zero.cells.toList w) (hd:Sub e.c z0 off f x0 up) (hk:∃fs,P.underlying t=some (.struct fs)/\∀w,(fs.mapM (fun f=>do pure (f.offset,<-sizeOf f.type)):Sem (Array<|Nat×Nat)).run P w=.ok pl w)
 (hl:pl[i]? =some (off,f.n)) (hx:ev env x=v) (hf:∀(S:Nat->Prop) (w:World),zA S Γ w->(fV f y v).p S w) (hy:z=up y):
 Eu P ⟨d,.build t #[(i,x)],ty,pos,aft,g⟩ env ms Γ (fun v:Value=>v) (fun v=>[fV e z v]) (fun _=>True):=by
 subst hy;intro w S _ _ hΓ;obtain⟨pre,c,post,h1,h2,h3,h4⟩:=hd S w _<|hz S w;have hm:=hf S w hΓ;have hc:=ZZ hm;have hn:=f.len hc;have he:v.cells.size=f.n:=by simpa using hn
 have ho:=f.len h3;have hg:=h4 w y v.cells.toList (yq.refl _ _) hc;refine kv.of_value (w':=w) (v:=.agg (pre++v.cells.toList++post).toArray) ?_ ⟨_,rfl,trivial,yq.refl _ _,⟨⟨pre++v.cells.toList++post,by simp[zZ.val,hj],hg⟩,trivial⟩⟩;have hp:zero.cells=(pre++c++post).toArray:=by rw[<-h1]
 obtain⟨fs,hu,hi⟩:=hk;have ha:xdg (pl[·]?) (pre++c++post).toArray [(i,v)]=some (pre++v.cells.toList++post).toArray:=zct (by rw[hl,he]) h2 (by rw[ho,he]);have hb:(xfN t #[(i,v)]).run P w=.ok (.agg (pre++v.cells.toList++post).toArray) w:=by
  unfold xfN;simp only[xas,w7 ht,xad,run_underlying hu,hi,hp,ha,xaG]
 simp[execOp,hx,hb]
end
end
section
def Ai(D:Nat->Bool)(i:Nat):Nat->Bool:=fun k=>D k||xap k i
theorem dW(D:Nat->Bool)(i:Nat):Ai D i i=true:=by simp[Ai]
theorem ML{D:Nat->Bool}{i k:Nat}(h:k≠i):Ai D i k=D k:=by simp[Ai,uX h]
theorem zeo{D:Nat->Bool}{i k:Nat}(h:D k=true):Ai D i k=true:=by simp[Ai,h]
section
variable{P:Program}{N:Nd}{we:World}{Se:Nat->Prop}{ms:List MF}{Γ:List FF}{Q:Qs}{env0:yN}{l:List Oper}{m:Nat}
theorem ziT{id:Nat}(m:Nat)(I:(Nat->Bool)->yN->World->Prop)(hm:P.follows .mixedOrders=true)(hc:YH l m=true)(hd:(l.all fun o=>qw N.n o.dst)=true)
 (hN:∀w,St we Se ms Γ w->I (fun _=>false) env0 w)
 (step:∀(D:Nat->Bool) (i:Nat) (env:yN) (w:World),i<m->D i=false->(∀j,D j=true->j<m)->(∀e∈(zS l i).after,xcs .any e=true->D e.on=true)->
  (∀j,D j=true->∀e∈(zS l j).after,xcs .any e=true->D e.on=true)->I D env w->
  (yF l.toArray env (zS l i)=true->kv P (zS l i) env w (fun v w'=>I (Ai D i) (put env (zS l i).dst v) w'))/\
  (yF l.toArray env (zS l i)=false->I (Ai D i) (put env (zS l i).dst undef) w))
 (fin:∀(D:Nat->Bool) (env:yN) (w:World),(∀j,j<m->D j=true)->(∀j,D j=true->j<m)->I D env w->WpL P N l.toArray (l.drop m) Q env w):
 T P N we Se ms Γ (.region id l.toArray true) Q env0:=by
 intro w0 hO a0 hP hQ hR;obtain⟨h0,h1,h2,h3,hS⟩:=jV hc;refine wpIn_region_any hm ?_;have gE:∀{listed:Array Bool}{i:Nat},i<listed.size->listed.getD i true=listed.getD i false:=fun{listed i} h=>by simp[xbo,xcz h]
 have gO:∀{listed:Array Bool}{i:Nat},listed.getD i false=true->i<listed.size:=fun{listed i} h=>by
  rcases xce i listed.size with hp|hge
  ·exact hp
  ·simp[xbo,Array.getElem?_eq_none hge]at h
 have key:∀(fuel:Nat) (listed:Array Bool) (a:Act) (w:World),(xbc l.length).countP (fun k=> !listed.getD k true)<=fuel->listed.size=l.length->a.tmps.size=N.n->a.defers=N.ds->
  (∀i,m<=i->i<l.length->listed.getD i true=false)->
  (∀i,i<l.length->listed.getD i false=true->∀e∈(zS l i).after,xcs .any e=true->listed.getD e.on false=true)->
  I (fun i=>listed.getD i false) (yr a) w->wpAnyIn N.F 0 P .any l.toArray (P8 N Q) fuel listed a w:=by
  intro fuel
  induction fuel with
  |zero=>
   intro listed a w hy hx b1 b2 ha hl hI;have hg:∀k,k<l.length->listed.getD k true=true:=fun k hk=>by
    have hz:(xbc l.length).countP (fun k=> !listed.getD k true)=0:=by lia
    rw[List.countP_eq_zero]at hz;have:=hz k<|xbf.2 hk;simpa using this
   have hY:m=l.length:=by
    rcases xce m l.length with hp|hge
    ·have h5:=ha m (xab _) hp;rw[hg m hp]at h5;cases h5
    ·lia
   refine au hc 0 m listed a w (xab _) h0 (by lia) hx (fun k hk=>by rw[hg k hk];simp;lia) ?_;exact fin _ _ w (fun j hj=>by rw[<-gE<|by lia];exact hg j<|by lia) (fun j hj=>by have:=gO hj;lia) hI a b1 b2 rfl
  |succ fuel ih=>
   intro listed a w hy hx b1 b2 ha hl hI;by_cases hg:∀k,k<m->listed.getD k true=true
   ·have hF:∀k,k<l.length->listed.getD k true=decide (k<m):=fun k hk=>by
     by_cases hC:k<m
     ·rw[hg k hC];simp[hC]
     ·rw[ha k (by lia) hk];simp[hC]
    refine au hc (fuel+1) m listed a w (xab _) h0 (xam ?_ hy) hx hF ?_
    ·rw[show(xbc l.length).countP (fun k=> !listed.getD k true)=(xbc l.length).countP (fun k=> !decide (k<m))from List.countP_congr fun k hk=>by rw[hF k<|xbf.1 hk]];exact MR.count_ge m [] m l.length
    ·refine fin _ _ w (fun j hj=>by rw[<-gE<|by lia];exact hg j hj) (fun j hj=> ?_) hI a b1 b2 rfl;rcases xce j m with h|h
     ·exact h
     ·have hD:=gO hj;rw[<-gE hD,ha j h<|by lia]at hj;cases hj
   ·have hG:∃k,k<m/\listed.getD k true=false:=by
     by_cases hh:∃k,k<m/\listed.getD k true=false
     ·exact hh
     ·exact absurd (fun k hk=>by
       cases hb:listed.getD k true
       ·exact absurd ⟨k,hk,hb⟩ hh
       ·rfl) hg
    refine⟨fun hr=> ?_,fun i hi=> ?_⟩
    ·exfalso;obtain⟨k,hk,hE,hH⟩:=MR.first_un m [] hG;have:k∈xdN .any l.toArray listed:=mem_ready.2 ⟨hE,zS l k,uA (by lia),fun e he hb=>by
      have h5:=h1 k (by lia) e he hb;have h6:=hH e.on h5;rwa[gE (by lia:e.on<listed.size)]at h6⟩
     rw[hr]at this;cases this
    ·obtain⟨hu,o,ho,hn⟩:=mem_ready.1 hi;have hq:i<l.length:=by simpa using(xbj.1 ho).1
     rw[uA hq]at ho;cases ho;have hT:i<m:=by
      rcases xce i m with h|h
      ·exact h
      ·exfalso;by_cases hJ:m=i
       ·subst hJ;obtain⟨k,hk,hE⟩:=hG;have h6:=JI hl h1 16 m k hq hn<|hS hq k hk;rw[<-gE (by lia:k<listed.size),hE]at h6;cases h6
       ·obtain⟨e,he,hb,hU⟩:=jF<|h3 i (by lia) hq;have h6:=hn e he hb;rw[hU,<-gE (by lia:i-1<listed.size),ha (i-1) (by lia)<|by lia]at h6;cases h6
     have hw:i<listed.size:=by lia
     have hV:qw N.n (zS l i).dst=true:=by
      rw[xaR]at hd;refine hd _ ?_;have:zS l i=l[i]:=by simp[zS,hq]
      rw[this];exact xbn _
     have hA:∀j,(fun i=>listed.getD i false) j=true->j<m:=fun j hj=>by
      rcases xce j m with h|h
      ·exact h
      ·have hD:=gO hj;have hK:listed.getD j false=true:=hj;rw[<-gE hD,ha j h<|by lia]at hK;cases hK
     have hs:=step (fun i=>listed.getD i false) i (yr a) w hT (by rw[<-gE hw];exact hu) hA hn (fun j hj=>hl j (by have:=hA j hj;lia) hj) hI;have hL:(fun k=>(listed.setIfInBounds i true).getD k false)=Ai (fun i=>listed.getD i false) i:=by
      funext k;by_cases ht:i=k
      ·subst ht;rw[dW];simp[hw]
      ·rw[getD_set_ne false ht,ML<|fun e=>ht e.symm]
     have next:∀v w',I (Ai (fun i=>listed.getD i false) i) (put (yr a) (zS l i).dst v) w'->wpAnyIn N.F 0 P .any l.toArray (P8 N Q) fuel (listed.setIfInBounds i true) (a.put (zS l i).dst v) w':=by
      intro v w' hv;refine ih _ _ w' ?_ (by simpa using hx) (by rw[QQ];exact b1) (by rw[YC];exact b2) (fun k hW hk=> ?_) (fun k hk hM e he hb=> ?_) ?_
      ·have:=(iK hw hu<|xbc l.length).2<|xbf.2 hq;lia
      ·rw[getD_set_ne true<|by lia];exact ha k hW hk
      ·by_cases ht:i=k
       ·subst ht;exact getD_set_true<|hn e he hb
       ·rw[getD_set_ne false ht]at hM;exact getD_set_true<|hl k hk hM e he hb
      ·rw[Yu (by rw[b1];exact QO hV),hL];exact hv
     unfold wpOpIn;rw[uA hq];simp only[WX];cases hB:yF l.toArray (yr a) (zS l i)
     ·simp only[xak,if_false];exact⟨fun _ _=>trivial,next undef w (hs.2 hB)⟩
     ·simp only[if_true];exact(hs.1 hB).wp fun v w' hX=>next v w' hX
 refine key l.toArray.size _ a0 _ ?_ (by simp) hP hQ (fun i hJ hi=>by simp[hi]) (fun i hi hp=> ?_) ?_
 ·exact xam (List.countP_le_length)<|by simp
 ·have:=gO hp;rw[<-gE this]at hp;simp[hi]at hp
 ·have hf:(fun i=>(xev l.toArray.size false).getD i false)=fun _=>false:=by
   funext i;simp only[xbo,Array.getElem?_replicate];split<;>rfl
  rw[hf,hR];exact hN _<|hO.ext<|QA.drawn w0 _
end
end
section
theorem uc{S:Nat->Prop}{w:World}:∀{ms:List MF},yw S ms w↔∀m∈ms,m.p S w
 |[]=>⟨fun _ m h=>absurd h IR,fun _=>trivial⟩
 |m::r=>by
  have ih:=uc (S:=S) (w:=w) (ms:=r);constructor
  ·intro h x hx;rcases xac.1 hx with rfl|hx
   ·exact h.1
   ·exact ih.1 h.2 x hx
  ·intro h;exact⟨h m<|FS,ih.2 fun x hx=>h x<|UV _ hx⟩
theorem sL:∀{ms:List MF},X2 ms↔ms.Pairwise (fun m m'=>∀k,m.blk k->¬m'.blk k)
 |[]=>⟨fun _=>xfn,fun _=>trivial⟩
 |m::r=>by
  rw[xbJ];have ih:=sL (ms:=r);exact⟨fun h=>⟨fun m' ha k hk=>h.1 k hk m' ha,ih.1 h.2⟩,fun h=>⟨fun k hk m' ha=>h.1 m' ha k hk,ih.2 h.2⟩⟩
theorem St.perm{we:World}{Se:Nat->Prop}{ms ms':List MF}{Γ:List FF}{w:World}(h:St we Se ms Γ w)(hp:ms.Perm ms'):St we Se ms' Γ w:=by
 obtain⟨h1,h2,h3,S,h4,h5,h6,h7,h8⟩:=h;refine⟨h1,h2,sL.2<|(hp.pairwise_iff fun{x y} ha k hk hc=>ha k hc hk).1<|sL.1 h3,S,h4,h5,fun m hm=>h6 m<|hp.mem_iff.2 hm,uc.2 fun m hm=>uc.1 h7 m<|hp.mem_iff.2 hm,h8⟩
def zhQ:Value->Option Nat
 |.pointer (some ⟨b,_,_⟩)=>some b
 |_=>none
def mP{α:Type}(e:nC α)(E:TypeId)(v:Value)(z:α):MF where
 blk k:=zhQ v=some k
 p S w:=∃b,v=.pointer (some ⟨b,0,none⟩)/\(mB e E b z).p S w
 keep:=fun⟨b,h1,h2⟩ k hb=>⟨b,h1,(mB e E b z).keep h2 k fun i hi=>hb i<|by rw[h1];exact hi⟩
 sub:=fun⟨b,h1,h2⟩ k=>⟨b,h1,(mB e E b z).sub h2 k⟩
 lt:=fun⟨b,h1,h2⟩ k hk=>(mB e E b z).lt h2 k<|by rw[h1]at hk;exact hk
theorem St.openP{α:Type}{e:nC α}{E:TypeId}{v:Value}{z:α}{we:World}{Se:Nat->Prop}{ms:List MF}{Γ:List FF}{w:World}(i:Nat)(h:St we Se ms Γ w)(hm:ms[i]? =some (mP e E v z)):
 ∃b,v=.pointer (some ⟨b,0,none⟩)/\St we Se (ms.set i<|mB e E b z) Γ w:=by
 obtain⟨S,hp,_⟩:=h.muts hm;obtain⟨b,hv,_⟩:=hp;subst hv;exact⟨b,rfl,h.conv hm rfl fun S ⟨b',h1,h2⟩=>by cases h1;exact h2⟩
theorem St.toP{α:Type}{e:nC α}{E:TypeId}{b:Nat}{z:α}{we:World}{Se:Nat->Prop}{ms:List MF}{Γ:List FF}{w:World}(i:Nat)(h:St we Se ms Γ w)(hm:ms[i]? =some (mB e E b z)):
 St we Se (ms.set i<|mP e E (.pointer<|some ⟨b,0,none⟩) z) Γ w:=h.conv hm rfl fun S h=>⟨b,rfl,h⟩
theorem M1{K:List (Tmp×Pr)}{env0 env:yN}{S:Nat->Prop}{w w':World}{t:Tmp}(h:Ze K env0 env S w t)(k:yq S w w'):Ze K env0 env S w' t:=by grind [Ze,Pr.keepS,xap]
theorem P6{K:List (Tmp×Pr)}{env0 env:yN}{S S':Nat->Prop}{w:World}{t:Tmp}(h:Ze K env0 env S w t)(k:∀k,k<w.heap.size->S k->S' k):Ze K env0 env S' w t:=by grind [Ze,Pr.sub,xap]
def SZ(K:List (Tmp×Pr))(env0 env:yN)(ts:List Tmp):FF where
 p S w:=X6 K env0 env S w ts
 keep:=fun{S w w'} h k=>by
  induction ts with
  |nil=>trivial
  |cons t ts ih=>exact⟨M1 h.1 k,ih h.2⟩
 sub:=fun{S S' w} h k=>by
  induction ts with
  |nil=>trivial
  |cons t ts ih=>exact⟨P6 h.1 k,ih h.2⟩
structure Res where
 a:Option Nat
 t:Tmp
 w:Option Nat
 mf:Bool->Value->MF
def Res.done(r:Res)(D:Nat->Bool):Bool:=match r.w with
 |some i=>D i
 |none=>false
def Res.here(r:Res)(D:Nat->Bool):Bool:=match r.a with
 |some i=>D i
 |none=>true
def av(rs:List Res)(D:Nat->Bool)(env:yN):List MF:=rs.filterMap fun r=>bif r.here D then some (r.mf (r.done D)<|env r.t)else none
def zl0(l:List Oper)(i j:Nat):Bool:=match(zS l i).dst with
 |some t=>(zS l j).dst==some t
 |none=>false
section
variable{P:Program}{N:Nd}{we:World}{Se:Nat->Prop}{ms:List MF}{Γ:List FF}{Q:Qs}{env0:yN}{l:List Oper}{m:Nat}
def Lg(L:List (Oper×Pr))(D:Nat->Bool)(env:yN):FF where
 p S w:=∀i x t,D i=true->L[i]? =some x->x.1.dst=some t->x.2.p S (env t) w
 keep:=fun h k i x t h1 h2 h3=>x.2.keepS (h i x t h1 h2 h3) k
 sub:=fun h k i x t h1 h2 h3=>x.2.sub (h i x t h1 h2 h3) k
end
section
variable{P:Program}{N:Nd}{we:World}{Se:Nat->Prop}{ms:List MF}{Γ:List FF}{env:yN}{d:Option Tmp}{ty t:TypeId}{pos:String}{aft:Array Edge}{g:Option (Nat×Bool)}
theorem zbk{α:Type}{e:zZ α}{et:TypeId}{zs:List α}{len bytes:Nat}{zero:Value}{x8:List (Nat×Operand)}{vs:List (Nat×Value)}(ht:P.underlying t=some (.slice et))(hd:X3 P et e.agg e.n bytes zero)
 (hn:0<e.n) (hc:zs.length=len) (hq:len*e.n<=16777216) (hv:x8.map (fun x=>(x.1,ev env x.2))=vs)
 (hg:∀(S:Nat->Prop) (w:World),zA S Γ w->JW (fun i=>some (i*e.n,e.n)) vs 0) (hp:∀(S:Nat->Prop) (w:World),zA S Γ w->yu e S zs (qj vs) w):
 OG P ⟨d,.buildSlice t len x8.toArray,ty,pos,aft,g⟩ env we Se ms Γ (fun v:Value=>v) (fun v=>mO e et v zs::ms) (fun _=>Γ) (fun _=>True):=by
 intro w he;obtain⟨S0,hr,hΓ⟩:=he.ex;have hi:=hp S0 w hΓ;have hl:(qj vs).length=len*e.n:=by rw[hi.len,hc]
 have hu:len<=9223372036854775807:=by have:len<=len*e.n:=xcb _ hn;lia
 refine kv.of_value (w':=w.alloc (.cells (qj vs).toArray et)) (v:=.slice (some ⟨w.heap.size,0,none⟩) len len) ?_ ⟨_,rfl,trivial,?_⟩
 ·have hj:x8.toArray.map (fun x=>(x.1,ev env x.2))=vs.toArray:=by rw[<-hv];simp
  have ha:xdg (fun i=>some (i*e.n,e.n)) ((xeU<|len*e.n).map (zero.cells[·%zero.cells.size]!)) vs=some (qj vs).toArray:=by
   have:=gF vs [] ((xeU<|len*e.n).map (zero.cells[·%zero.cells.size]!)).toList (hg S0 w hΓ) (by simp[hl]);rw[xbA,xdh,xbA,xcl (by simp[hl]),xbR]at this;exact this
  have hb:(xep t len<|x8.toArray.map fun x=>(x.1,ev env x.2)).run P w=.ok (.slice (some ⟨w.heap.size,0,none⟩) len len) (w.alloc (.cells (qj vs).toArray et)):=by
   rw[hj];unfold xep;simp only[xas,run_underlying ht,xad,xp hd,ir (show¬len*e.n>2^24 by lia),newRow];by_cases h0:len*e.n=0
   ·have hw:qj vs=[]:=xbt (by rw[hl,h0]);have ho:xdg (fun i=>some (i*e.n,e.n)) ((xeU 0).map ((#[]:Array Value)[·%(#[]:Array Value).size]!)) vs=some (qj vs).toArray:=by
     have hm:∀f:Nat->Value,(xeU 0).map f= #[]:=fun f=>by simp
     rw[<-ha,h0,hm,hm]
    simp only[h0,if_true];simp only[ho,xas,run_newObj_alloc,xad,xaG]
   ·simp only[ir h0,xas,w7 hd,xad,xaG,ha,run_newObj_alloc]
  simp only[execOp,xas,hb,xad,xaG]
 ·have hf:St we Se (mR e et w.heap.size zs::ms) Γ (w.alloc (.cells (qj vs).toArray et)):=by
   refine he.fresh (QA.alloc w _) rfl (by simp) ?_;intro S hS hΓ;refine⟨_,heap_alloc_new w _,?_⟩;exact((hp S w hΓ).sub fun k hk hs=>⟨hs,Nat.ne_of_lt hk⟩).keep (QA.alloc w _).to
  exact zfo (n:=len) 0 hf rfl hc.symm<|by lia
end
theorem zfR{P:Program}{env:yN}{d:Option Tmp}{ty t:TypeId}{pos:String}{aft:Array Edge}{g:Option (Nat×Bool)}{x:Operand}{b:Bool}(h:ev env x=.bool b)(w:World):
 (execOp (ev env) ⟨d,.unOp .not t x,ty,pos,aft,g⟩).run P w=.ok (.value (.bool !b)) w:=b8 (by show(match ev env x with|xer t=>some (xer !t)|_=>none)=_;rw[h]) w
abbrev iv(x:Int):Value:=.int .i64 x
abbrev uv(x:Nat):Value:=.int .u64 (x:Int)
theorem nz{p:Prop}(h:true=false):p:=by cases h
def pvL(N:Nat)(ops:Array Oper):List Oper->yN->List (Nat×Value)->Option (List<|Nat×Value)
 |[],_,acc=>some acc
 |o::r,env,acc=>match o.dst with
  |some d=>bif qw N (some d)then(bif yF ops (L acc env) o then(match pv o (L acc env)with
   |some v=>pvL N ops r env ((d,v)::acc)
   |none=>none)else(match o.guard with
   |some (j,want)=>bif gd ops (L acc env) j==some (!want)then pvL N ops r env ((d,undef)::acc)else none
   |none=>none))else none
  |none=>none
theorem ER{N:Nat}{ops:Array Oper}:∀(l:List Oper) (env:yN) (acc added:List (Nat×Value)),pvL N ops l env acc=some added->mi N ops l (L acc env)=some (L added env)
 |[],env,acc,added,h=>by cases h;rfl
 |o::r,env,acc,added,h=>by
  unfold pvL at h;unfold mi
  cases hd:o.dst with
  |none=>rw[hd]at h;cases h
  |some d=>
   rw[hd]at h;simp only at h;cases ho:qw N (some d)
   ·rw[ho]at h;cases h
   ·rw[ho]at h;simp only[cond_true]at h⊢;cases hw:yF ops (L acc env) o
    ·rw[hw]at h;simp only[cond_false]at h⊢;split at h
     ·next j want hg=>
      cases hb:(gd ops (L acc env) j==some (!want))
      ·rw[hb]at h;cases h
      ·rw[hb]at h;simp only[hg,hb,cond_true]at h⊢;exact ER r env _ added h
     ·cases h
    ·rw[hw]at h;simp only[cond_true]at h⊢
     cases hp:pv o (L acc env)with
     |none=>rw[hp]at h;cases h
     |some v=>rw[hp]at h;exact ER r env _ added h
theorem Zv{P:Program}{N:Nd}{we:World}{Se:Nat->Prop}{ms:List MF}{Γ:List FF}{Q:Qs}{ops:Array Oper}(n:Nat)(added:List (Nat×Value)){l:List Oper}{env:yN}
 (h:pvL N.n ops (l.take n) env []=some added) (k:TL P N we Se ms Γ ops (l.drop n) Q (L added env)):TL P N we Se ms Γ ops l Q env:=by
 rw[<-xbN n l];exact J0 _ _ _ _ (ER _ env [] added h) k
def cpy{α:Type}(xs ys:List α):List α:=xdt (min ys.length xs.length) ys++xdA (min ys.length xs.length) xs
def bu{α:Type}(lo n:Nat)(xs ys:List α):List α:=xdt lo xs++xdt (min ys.length n) ys++xdA (lo+min ys.length n) xs
end
theorem z2(S:Nat->Prop)(w:World):(eI).p S 0 (xfK (.int .i64 0)).toList w:=⟨rfl,by decide,by decide⟩
theorem z3(S:Nat->Prop)(w:World):(eI).p S 0 (xfK (.int .i64 0)).toList w:=⟨rfl,by decide,by decide⟩
theorem z4(S:Nat->Prop)(w:World):(IA).p S false (xfK (.bool false)).toList w:=rfl
theorem ziN:X3 Tryz.prog 54 false 1 8 (.int .u64 0):=X3.of<|by kernel_rfl
section
open Go.ChangeShapes Go.WideShapes Go.ChangeAt Go.RowKit
variable{W W':World}
theorem Hj(hx:QA W W')(may:MemPlace->Prop):W.keptBut W' may:=by
 refine⟨hx.os,hx.output,fun i hi=> ?_⟩;rw[hx.block i hi trivial]
 cases h:W.heap[i]? with
 |none=>rfl
 |some o=>cases o<;>simp
theorem TS{H:Type}{enc:TypeId×Value->H}{P:Program}{f:Func}{s:ChangeSpec}{apart fresh ha:Bool}{args:Array Value}{v:Value}{ds gs:List (DataW H)}{before pa pv:List MemPlace}(hW:DataW.Whole enc P f.params.toList s.vars apart W args.toList ds gs before)(he:∀(b:Nat) (sp:Nat->Bool) (hd:Bool),xeH enc P W' b sp hd f.resultTypes.toList (v.resultList f.resultTypes.size) (s.fn H<|ds++gs).results [])(hb:∀sp:Nat->Bool,(∀p∈before,sp p.block=true)->xeH enc P W' 0 sp true f.params.toList args.toList (s.fn H<|ds++gs).args pa)(hc:∀sp:Nat->Bool,(∀p∈before,sp p.block=true)->DataW.TrodVars enc P W' sp s.vars (s.fn H<|ds++gs).vars pv)(hf:before=pa++pv)(hx:QA W W'):s.post enc P f apart fresh ha false W args v W':=
 ⟨ds,gs,before,[],pa,pv,hW,he _ _ _,hb _ (fun p hp=>by simpa using hW.lt p hp),hc _ (fun p hp=>by simpa using hW.lt p hp),Hj hx _,fun h=>by cases h⟩
end
section
theorem ra{S:Nat->Prop}{w:World}:∀{A B:List MF},yw S (A++B) w↔yw S A w/\yw S B w
 |[],_=>⟨fun h=>⟨trivial,h⟩,fun h=>h.2⟩
 |a::A,B=>by
  have ih:=ra (S:=S) (w:=w) (A:=A) (B:=B);exact⟨fun h=>⟨⟨h.1,(ih.1 h.2).1⟩,(ih.1 h.2).2⟩,fun h=>⟨h.1.1,ih.2 ⟨h.1.2,h.2⟩⟩⟩
theorem lk:∀{A B:List MF},X2 (A++B)↔X2 A/\X2 B/\∀m∈A,∀k,m.blk k->∀m'∈B,¬m'.blk k
 |[],B=>⟨fun h=>⟨trivial,h,fun m hm=>absurd hm IR⟩,fun h=>h.2.1⟩
 |a::A,B=>by
  have ih:=lk (A:=A) (B:=B);constructor
  ·intro h;obtain⟨h1,h2,h3⟩:=ih.1 h.2;refine⟨⟨fun k hk m' hm'=>h.1 k hk m'<|Nm.2 (.inl hm'),h1⟩,h2,fun m hm k hk m' hm'=> ?_⟩;rcases xac.1 hm with rfl|hm
   ·exact h.1 k hk m'<|Nm.2 (.inr hm')
   ·exact h3 m hm k hk m' hm'
  ·rintro⟨⟨h1,h2⟩,h3,h4⟩;refine⟨fun k hk m' hm'=> ?_,ih.2 ⟨h2,h3,fun m hm=>h4 m<|UV _ hm⟩⟩;rcases Nm.1 hm' with hm'|hm'
   ·exact h1 k hk m' hm'
   ·exact h4 a (FS) k hk m' hm'
def Hl(G:List MF):MF where
 blk k:=∃m∈G,m.blk k
 p S w:=yw S G w/\X2 G
 keep:=fun h k hb=>⟨yw.keep k (fun m hm i hi=>hb i ⟨m,hm,hi⟩) h.1,h.2⟩
 sub:=fun h k=>⟨yw.sub k h.1,h.2⟩
 lt:=fun h k ⟨m,hm,hk⟩=>yw.lt h.1 m hm k hk
theorem St.grp{we:World}{Se:Nat->Prop}{G ms:List MF}{Γ:List FF}{w:World}:St we Se (Hl G::ms) Γ w↔St we Se (G++ms) Γ w:=by
 constructor
 ·rintro⟨h1,h2,h3,S,h4,h5,h6,h7,h8⟩;refine⟨h1,h2,lk.2 ⟨h7.1.2,h3.2,fun m hm k hk m' ha=>h3.1 k ⟨m,hm,hk⟩ m' ha⟩,S,h4,h5,fun m hm k hk=> ?_,ra.2 ⟨h7.1.1,h7.2⟩,h8⟩;rcases Nm.1 hm with hm|hm
  ·exact h6 (Hl G) (FS) k ⟨m,hm,hk⟩
  ·exact h6 m (UV _ hm) k hk
 ·rintro⟨h1,h2,h3,S,h4,h5,h6,h7,h8⟩;obtain⟨a1,a2,a3⟩:=lk.1 h3;obtain⟨m1,m2⟩:=ra.1 h7;refine⟨h1,h2,⟨fun k hk m' ha=>by obtain⟨m,hm,hk⟩:=hk;exact a3 m hm k hk m' ha,a2⟩,S,h4,h5,fun m hm k hk=> ?_,⟨⟨m1,a1⟩,m2⟩,h8⟩;rcases xac.1 hm with rfl|hm
  ·obtain⟨m,hm,hk⟩:=hk;exact h6 m (Nm.2 (.inl hm)) k hk
  ·exact h6 m (Nm.2 (.inr hm)) k hk
def Zk(hv:List Value):zZ Nat where
 n:=1
 agg:=false
 n1 _:=rfl
 p _ r cs _:=∃u,hv[r]? =some u/\u.oneCell'=true/\cs=[u]
 len:=by rintro _ _ _ _ ⟨u,_,_,rfl⟩;rfl
 one:=by rintro _ _ _ _ ⟨u,_,hu,rfl⟩ c hc;rw[xai]at hc;subst hc;exact hu
 keep h _:=h
 sub h _:=h
theorem zcI{hv:List Value}{r:Nat}{u:Value}{S:Nat->Prop}{w:World}(h:hv[r]? =some u)(h1:u.oneCell'=true):(fV (Zk hv) r u).p S w:=⟨[u],rfl,u,h,h1,rfl⟩
theorem zfJ{hv:List Value}{r:Nat}{v:Value}{S:Nat->Prop}{w:World}(h:(fV (Zk hv) r v).p S w):hv[r]? =some v:=by
 obtain⟨cs,rfl,u,h1,_,rfl⟩:=h;exact h1
theorem IK{hv ha:List Value}{S:Nat->Prop}{w:World}:∀{ix:List Nat}{cs:List Value},yu (Zk hv) S ix cs w->yu (Zk<|hv++ha) S ix cs w
 |[],_,h=>h
 |r::ix,cs,⟨c,q,h1,⟨u,h2,h3,h4⟩,h5⟩=>⟨c,q,h1,⟨u,by rw[xbq (xat.1 h2).1];exact h2,h3,h4⟩,IK h5⟩
theorem N6{hv ha:List Value}{E:TypeId}{v:Value}{ix:List Nat}{S:Nat->Prop}{w:World}(h:(mO (Zk hv) E v ix).p S w):(mO (Zk<|hv++ha) E v ix).p S w:=by
 obtain⟨cs,h1,h2⟩:=h;exact⟨cs,h1,IK h2⟩
def wo{α:Type}(e:zZ α)(E:TypeId):List Value->List (List α)->List MF
 |u::hv,xs::xss=>mO e E u xs::wo e E hv xss
 |_,_=>[]
theorem WZ{α:Type}{e:zZ α}{E:TypeId}:∀{hv:List Value}{xss:List (List α)}{r:Nat}{u:Value}{xs:List α},hv[r]? =some u->xss[r]? =some xs->(wo e E hv xss)[r]? =some (mO e E u xs)
 |u'::hv,xs'::xss,0,u,xs,h1,h2=>by
  simp only[xbE,xaz]at h1 h2;subst h1;subst h2;rfl
 |u'::hv,xs'::xss,r+1,u,xs,h1,h2=>WZ (hv:=hv) (xss:=xss) (r:=r) (by simpa using h1)<|by simpa using h2
 |[],_,r,_,_,h1,_=>by simp at h1
 |_::_,[],r,_,_,_,h2=>by simp at h2
theorem BL{α:Type}{e:zZ α}{E:TypeId}:∀{hv:List Value}{xss:List (List α)}{r:Nat}{u:Value}{ys:List α},hv[r]? =some u->(wo e E hv xss).set r (mO e E u ys)=wo e E hv (xss.set r ys)
 |u'::hv,xs'::xss,0,u,ys,h1=>by
  simp only[xbE,xaz]at h1;subst h1;rfl
 |u'::hv,xs'::xss,r+1,u,ys,h1=>by
  show mO e E u' xs'::(wo e E hv xss).set r (mO e E u ys)=mO e E u' xs'::wo e E hv (xss.set r ys);rw[BL<|by simpa using h1]
 |[],_,r,_,_,h1=>by simp at h1
 |u'::hv,[],r,u,ys,h1=>by cases r<;>rfl
theorem oZ{α:Type}{e:zZ α}{E:TypeId}{u:Value}{xs:List α}:∀{hv:List Value}{xss:List (List α)},hv.length=xss.length->wo e E (hv++[u]) (xss++[xs])=wo e E hv xss++[mO e E u xs]
 |[],[],_=>rfl
 |u'::hv,xs'::xss,h=>by
  show mO e E u' xs'::wo e E (hv++[u]) (xss++[xs])=_;rw[oZ<|by simpa using h];rfl
 |[],_::_,h=>by cases h
 |_::_,[],h=>by cases h
def SP{α:Type}(e:zZ α)(E E1:TypeId)(v:Value)(hv:List Value)(xss:List (List α))(ix:List Nat):MF:=Hl (mO (Zk hv) E v ix::wo e E1 hv xss)
section
variable{α:Type}{e:zZ α}{E E1:TypeId}{v:Value}{hv:List Value}{xss:List (List α)}{ix:List Nat}{we:World}{Se:Nat->Prop}{ms:List MF}{Γ:List FF}{w:World}
theorem zfr{r:Nat}{u:Value}{xs:List α}(h1:hv[r]? =some u)(h2:xss[r]? =some xs)(ms:List MF):((mO (Zk hv) E v ix::wo e E1 hv xss)++ms)[r+1]? =some (mO e E1 u xs):=by grind [WZ,xbq,xat]
theorem Gq{r:Nat}{u:Value}{ys:List α}(h1:hv[r]? =some u)(h2:r<xss.length)(hl:hv.length=xss.length)(ms:List MF):((mO (Zk hv) E v ix::wo e E1 hv xss)++ms).set (r+1) (mO e E1 u ys)=(mO (Zk hv) E v ix::wo e E1 hv (xss.set r ys))++ms:=by
 have h3:xss[r]? =some xss[r]:=xaa h2;have h:=WZ (e:=e) (E:=E1) h1 h3;have h4:=(xat.1 h).1;rw[List.set_append_left _ _ (by simpa using h4),List.set_cons_succ,BL h1]
theorem St.adopt{u:Value}{ys:List α}(hl:hv.length=xss.length)(h:St we Se (SP e E E1 v hv xss ix::mO e E1 u ys::ms) Γ w):St we Se (SP e E E1 v (hv++[u]) (xss++[ys]) ix::ms) Γ w:=by
 have h1:=St.grp.1 h;have h2:St we Se ((mO (Zk hv) E v ix::wo e E1 (hv++[u]) (xss++[ys]))++ms) Γ w:=by
  rw[oZ hl];refine h1.perm ?_;simp only[xbI,xaj,xfy,xbA];exact xdE _
 have h3:=h2.conv (i:=0) (m:=mO (Zk hv) E v ix) (m':=mO (Zk<|hv++[u]) E v ix) rfl rfl fun S hp=>N6 hp;exact St.grp.2 h3
theorem zb7{S S':Nat->Prop}(hs:∀k,S k->S' k)(hb:∀m∈wo e E1 hv xss,∀k,m.blk k->S' k)(h:yw S (wo e E1 hv xss) w){r:Nat}{u:Value}{xs:List α}(h1:hv[r]? =some u)(h2:xss[r]? =some xs):(fV (eS e) xs u).p S' w:=
 tS hs (fun k hk=>hb _ (xbx<|WZ h1 h2) k hk) (yw.get h<|WZ h1 h2)
theorem iE{S S':Nat->Prop}(hl:hv.length=xss.length)(hs:∀k,S k->S' k)(hb:∀m∈wo e E1 hv xss,∀k,m.blk k->S' k)(h:yw S (wo e E1 hv xss) w):∀{ix:List Nat}{cs:List Value},yu (Zk hv) S ix cs w->yu (eS e) S' (ix.map fun r=>xss.getD r []) cs w
 |[],_,h=>h
 |r::ix,cs,⟨c,q,h1,⟨u,h2,h3,h4⟩,h5⟩=>by
  have h6:=(xat.1 h2).1;have h7:xss[r]? =some (xss.getD r []):=by rw[H1,xaa<|by lia];rfl
  exact⟨c,q,h1,⟨u,h4,xm.1<|zb7 hs hb h h2 h7⟩,iE hl hs hb h h5⟩
theorem St.mat_frz(hl:hv.length=xss.length)(h:St we Se (SP e E E1 v hv xss ix::ms) Γ w):St we Se ms (fV (eS<|eS e) (ix.map fun r=>xss.getD r []) v::Γ) w:=by
 refine h.freeze (i:=0) (m:=SP e E E1 v hv xss ix) rfl fun S S' hs hb hp=> ?_;obtain⟨⟨⟨cs,h1,h2⟩,h3⟩,_⟩:=hp;have ha:∀m∈wo e E1 hv xss,∀k,m.blk k->S' k:=fun m hm k hk=>hb k ⟨m,UV _ hm,hk⟩;have h4:(mO (eS e) E v<|ix.map fun r=>xss.getD r []).p S' w:=⟨cs,by rw[xaP];exact h1,iE hl hs ha h3 h2⟩;exact tS (fun k hk=>hk) (fun k hk=>hb k ⟨_,FS,hk⟩) h4
end
def mPr(p:Prop):MF where
 blk _:=False
 p _ _:=p
 keep h _ _:=h
 sub h _:=h
 lt _ _ hk:=hk.elim
def yY:Value->Value
 |.tuple us=>us.toList.headD undef
 |_=>undef
def ve:Value->List Value
 |.tuple us=>us.toList.tail
 |_=>[]
def KP(v:Value)(hv:List Value):Value:=.tuple (v::hv).toArray
def lZ{α:Type}(e:zZ α)(E E1:TypeId)(u:Value)(xss:List (List α))(ix:List Nat):MF:=Hl (mPr ((ve u).length=xss.length)::mO (Zk<|ve u) E (yY u) ix::wo e E1 (ve u) xss)
def mBo{α:Type}(e:zZ α)(E E0:TypeId)(u:Value)(xs:List α):MF:=Hl [mPr<|(ve u).length=1,mP (Zk<|ve u).c E0 (yY u) 0,mO e E ((ve u).headD undef) xs]
def mHo(E0:TypeId)(u:Value):MF:=Hl [mPr<|(ve u).length=1,mP (Zk<|ve u).c E0 (yY u) 0]
end
section
variable{x:Nat}{v:Value}{S:Nat->Prop}{w:World}
def eCh:zZ Nat where
 n:=1
 agg:=false
 n1 _:=rfl
 p _ x cs _:=cs=[.int .u8 (x:Int)]/\x<256
 len h:=by simp[h.1]
 one h:=by intro c hc;rw[h.1]at hc;simp at hc;subst hc;rfl
 keep h _:=h
 sub h _:=h
def yO(s:ByteArray):List Nat:=s.data.toList.map xfo
def eTx:zZ (List Nat)where
 n:=1
 agg:=false
 n1 _:=rfl
 p _ x cs _:=∃s:ByteArray,cs=[.string s]/\yO s=x/\s.size<=9223372036854775807
 len:=by rintro _ _ _ _ ⟨s,rfl,_⟩;rfl
 one:=by rintro _ _ _ _ ⟨s,rfl,_⟩ c hc;simp at hc;subst hc;rfl
 keep h _:=h
 sub h _:=h
theorem zjv(h:(fV eCh x v).p S w):v=.int .u8 (x:Int)/\x<256:=by
 obtain⟨cs,rfl,rfl,h⟩:=h;exact⟨rfl,h⟩
theorem B8(h:x<256):(fV eCh x (.int .u8 (x:Int))).p S w:=⟨_,rfl,rfl,h⟩
theorem GH{x:List Nat}(h:(fV eTx x v).p S w):∃s:ByteArray,v=.string s/\yO s=x/\s.size<=9223372036854775807:=by
 obtain⟨cs,rfl,s,rfl,h1,h2⟩:=h;exact⟨s,rfl,h1,h2⟩
theorem Hx{s:ByteArray}{x:List Nat}(h:yO s=x)(h2:s.size<=9223372036854775807):(fV eTx x (.string s)).p S w:=⟨_,rfl,s,rfl,h,h2⟩
theorem qs(s:ByteArray):(yO s).length=s.size:=by simp_all [yO]
inductive Ty
 |i
 |u
 |b
 |l (t:Ty)
 |p (s t:Ty)
 |a (k:Nat) (t:Ty)
 |ch
 |tx
def Ty.D:Ty->Type
 |.i=>Int
 |.u=>Nat
 |.b=>Bool
 |.l t=>List t.D
 |.p s t=>s.D×t.D
 |.a _ t=>List t.D
 |.ch=>Nat
 |.tx=>List Nat
def Ty.rep:(t:Ty)->zZ t.D
 |.i=>eI
 |.u=>eU
 |.b=>IA
 |.l t=>eS t.rep
 |.p s t=>eP s.rep t.rep
 |.a k t=>eA k t.rep
 |.ch=>eCh
 |.tx=>eTx
def Ty.z:(t:Ty)->t.D
 |.i=>(0:Int)
 |.u=>(0:Nat)
 |.b=>false
 |.l t=>([]:List t.D)
 |.p s t=>(s.z,t.z)
 |.a k t=>xaf k t.z
 |.ch=>(0:Nat)
 |.tx=>([]:List Nat)
def Ty.n:Ty->Nat
 |.p s t=>s.n+t.n
 |.a k t=>k*t.n
 |_=>1
theorem Ty.n_rep:∀t:Ty,t.rep.n=t.n
 |.i=>rfl
 |.u=>rfl
 |.b=>rfl
 |.l _=>rfl
 |.ch=>rfl
 |.tx=>rfl
 |.p s t=>by show s.rep.n+t.rep.n=_;rw[Ty.n_rep s,Ty.n_rep t];rfl
 |.a k t=>by show k*t.rep.n=_;rw[Ty.n_rep t];rfl
def Ty.same:(s t:Ty)->Option (PLift<|s=t)
 |.i,.i=>some ⟨rfl⟩
 |.u,.u=>some ⟨rfl⟩
 |.b,.b=>some ⟨rfl⟩
 |.ch,.ch=>some ⟨rfl⟩
 |.tx,.tx=>some ⟨rfl⟩
 |.l s,.l t=>match Ty.same s t with
  |some ⟨h⟩=>some ⟨congrArg Ty.l h⟩
  |none=>none
 |.p s t,.p s' t'=>match Ty.same s s',Ty.same t t' with
  |some ⟨h⟩,some ⟨h'⟩=>some ⟨h▸h'▸rfl⟩
  |_,_=>none
 |.a k s,.a k' t=>if hk:k=k' then(match Ty.same s t with
  |some ⟨h⟩=>some ⟨hk▸h▸rfl⟩
  |none=>none)else none
 |_,_=>none
def Ty.cast{R:Type}(s t:Ty)(x:s.D)(k:t.D->Option R):Option R:=match Ty.same s t with
 |some ⟨h⟩=>k<|h▸x
 |none=>none
def dn:List Ty->Type
 |[]=>Unit
 |t::r=>t.D×dn r
def CA:List Ty->Type
 |[]=>Unit
 |[t]=>t.D
 |t::s::r=>t.D×CA (s::r)
structure Fl(α:Type)where
 off:Nat
 f:Ty
 get:α->f.D
 set:f.D->α->α
def Fl.self(t:Ty):Fl t.D:=⟨0,t,id,fun y _=>y⟩
def Fl.comp{α:Type}(a:Fl α)(c:Fl a.f.D):Fl α:=⟨a.off+c.off,c.f,fun z=>c.get<|a.get z,fun y z=>a.set (c.set y<|a.get z) z⟩
def Q6:(k:Nat)->(t:Ty)->(i:Nat)->Option (Fl t.D)
 |0,_,_=>none
 |1,t,i=>bif xap i 0 then some (Fl.self t)else none
 |k+2,.p s t,0=>some ⟨0,s,fun z=>z.1,fun y z=>(y,z.2)⟩
 |k+2,.p s t,i+1=>match Q6 (k+1) t i with
  |some f=>some ⟨s.n+f.off,f.f,fun z=>f.get z.2,fun y z=>(z.1,f.set y z.2)⟩
  |none=>none
 |_,_,_=>none
structure PD where
 t:Ty
 x:t.D
def GA(PP:Program)(l:Nat){α X Y:Type}(e:zZ α)(E:TypeId)(mX:X->Value->MF)(mY:Y->Value->MF)(g:List α->X->Option (List α×(X⊕Y))):Prop:=
 ∀ys x ys' r,g ys x=some (ys',r)->∀(v u:Value) we Se F G w,St we Se (mX x u::mO e E v ys::F) G w->
  YieldAt xfV 0 PP l #[v] w fun q w'=>q=.returned (.bool r.isLeft)/\∃u',St we Se (xfw (fun x=>mX x u') (fun y=>mY y u') r::mO e E v ys'::F) G w'
def lOf:Value->Nat
 |.int _ x=>x.toNat
 |_=>0
inductive Dv
 |d (t:Ty) (x:t.D)
 |q (t:Ty) (x:t.D)
 |kb (b:Bool)
 |un
 |nil
 |ow (o:Nat)
 |ep (o:Nat) (t:Ty) (j:Nat) (f:Fl t.D)
 |sv (o:Nat) (t:Ty) (lo n:Nat)
 |vs (o:Nat) (t:Ty)
 |vp (o:Nat) (t:Ty) (f:Fl t.D)
 |fn (f:FuncId) (c:List PD)
 |fp (dom cod:List Ty) (g:dn dom->Option (CA cod))
 |pin (v:Value)
 |mw (o:Nat)
 |mv (o lo n:Nat)
 |hp (o j:Nat)
 |rw(o r:Nat)
 |rp (o:Nat) (t:Ty) (r j:Nat) (f:Fl t.D)
 |yd (o:Nat)
inductive Od
 |own (t:Ty) (E:TypeId) (xs:List t.D)
 |var (t:Ty) (E:TypeId) (z:t.D)
 |mat (t:Ty) (E E1:TypeId) (xss:List (List t.D)) (ix:List Nat)
 |bo (t:Ty) (E E0:TypeId) (xs:List t.D)
 |ho (E0:TypeId)
 |hid (t:Ty) (E:TypeId) (X Y:Type) (mX:X->Value->MF) (mY:Y->Value->MF) (g:List t.D->X->Option (List t.D×(X⊕Y))) (x:X)
 |hiy (Y:Type) (mY:Y->Value->MF) (y:Y)
structure Sg where
 nx:Nat
 rg:List (Nat×Nat×Dv)
 ob:List (Nat×Od)
def cZ:List (Nat×Nat×Dv)->Nat->Nat->Option Dv
 |[],_,_=>none
 |(t',i',d)::r,t,i=>bif xap t' t && xap i' i then some d else cZ r t i
def xO:List (Nat×Od)->Nat->Option Od
 |[],_=>none
 |(o',x)::r,o=>bif xap o' o then some x else xO r o
def get(cx σ:Sg)(t i:Nat):Option Dv:=match cZ σ.rg t i with
 |some d=>some d
 |none=>cZ cx.rg t i
def Jd(cx σ:Sg)(o:Nat):Option Od:=match xO σ.ob o with
 |some d=>some d
 |none=>xO cx.ob o
def b5(l:List Nat)(t:Nat):Bool:=l.any<|xap t
def Yd(rg:List (Nat×Nat×Dv))(t:Nat):Bool:=rg.all fun e=> !xap e.1 t
def zdK(rg:List (Nat×Nat×Dv))(t:Nat):List (Nat×Nat×Dv):=rg.filter fun e=> !xap e.1 t
def yD:List (Nat×Od)->Nat->List (Nat×Od)
 |[],_=>[]
 |(o',y)::r,o=>bif xap o' o then r else(o',y)::yD r o
def kL:List (Nat×Od)->Nat->Od->List (Nat×Od)
 |[],_,_=>[]
 |(o',y)::r,o,x=>bif xap o' o then(o',x)::r else(o',y)::kL r o x
def vi(rg:List (Nat×Nat×Dv))(d:Option Tmp)(l:List (Nat×Dv)):List (Nat×Nat×Dv):=match d with
 |some t=>l.map (fun e=>(t,e.1,e.2))++zdK rg t
 |none=>rg
def wu(cx:Sg)(d:Option Tmp):Bool:=match d with
 |some t=>Yd cx.rg t
 |none=>true
def Sg.put(σ:Sg)(d:Option Tmp)(l:List (Nat×Dv)):Sg:=⟨σ.nx,vi σ.rg d l,σ.ob⟩
def cv:Value->Option Dv
 |.int .i64 x=>if VE x then some (.d .i x)else none
 |.int .u64 x=>if 0<=x/\x<18446744073709551616 then some (.d .u x.toNat)else none
 |.bool b=>some (.kb b)
 |.int .u8 x=>if 0<=x/\x<256 then some (.d .ch x.toNat)else none
 |.string s=>if s.size<=9223372036854775807 then some (.d .tx<|yO s)else none
 |.slice none 0 0=>some .nil
 |.nilFunc=>some (.pin .nilFunc)
 |_=>none
def xX(cx σ:Sg):Operand->Option Dv
 |.tmp t=>get cx σ t 0
 |.const v=>cv v
 |.func f=>some (.fn f [])
 |.global _=>none
inductive TK
 |int (k:IntKind)
 |bool
 |str
 |sl (E:TypeId)
 |st (k:Nat)
 |ar (k:Nat) (E:TypeId)
structure TI where
 ty:Ty
 k:TK
 B:Nat
inductive AM
 |d (t:Ty)
 |q (t:Ty)
 |own (t:Ty) (E:TypeId)
 |fn (dom cod:List Ty)
def AM.D:AM->Type
 |.d t=>t.D
 |.q t=>t.D
 |.own t _=>List t.D
 |.fn dom cod=>dn dom->Option (CA cod)
def aa:List AM->Type
 |[]=>Unit
 |a::r=>a.D×aa r
inductive RM
 |d (t:Ty)
 |own (t:Ty) (E:TypeId)
def RM.D:RM->Type
 |.d t=>t.D
 |.own t _=>List t.D
def dm:List RM->Type
 |[]=>Unit
 |[a]=>a.D
 |a::b::r=>a.D×dm (b::r)
def RM.ty:RM->Ty
 |.d t=>t
 |.own t _=> .l t
inductive TF
 |d (t:Ty)
 |q (t:Ty)
 |own (t:Ty) (E:TypeId)
 |var (t:Ty) (E:TypeId)
 |mat (t:Ty) (E E1:TypeId)
 |matv (t:Ty) (E E1:TypeId)
 |row (j:Nat)
 |view (j:Nat)
 |bo (t:Ty) (E E0:TypeId)
def TF.D:TF->Type
 |.d t=>t.D
 |.q t=>t.D
 |.own t _=>List t.D
 |.var t _=>t.D
 |.mat t _ _=>List (List t.D)×List Nat
 |.matv t _ _=>(List (List t.D)×List Nat)×(Nat×Nat)
 |.row _=>Nat
 |.view _=>Nat×Nat
 |.bo t _ _=>List t.D
def s9:TF->Option Nat
 |.row j=>some j
 |.view j=>some j
 |_=>none
inductive NF
 |kb (b:Bool)
 |nil
 |ci (x:Int)
 |cu (x:Nat)
 |al (s:Nat)
structure Sh where
 ds:List (Nat×TF)
 ns:List (Nat×NF)
structure Sgm where
 ro:List Nat
 tg:List (Tg×Sh)
structure Lp where
 hd:Sh
 sg:Sgm
structure An where
 bx:List Nat
 jn:List (Nat×Sgm)
 lp:List (Nat×Lp)
 dz:List (Nat×List Nat)
 vw:List Nat
 mt:List Nat
def J3{α:Type}:List (Nat×α)->Nat->Option α
 |[],_=>none
 |(k,x)::r,t=>bif xap k t then some x else J3 r t
end
end Go.Proofs.YtmggkmchbdanfaaGreat
