/- What a proof needs: rules of walking, mirrors of functions and their plain laws. No condition. -/
import Derived.WalkKit
import Derived.Lib.LaidTab
import Derived.Lib.ItoaNum
import Derived.Test.YtbaoeefdjpaomaaGreatDoorProg
import Derived.KernelRfl
import Derived.CallsIn
import Derived.OrdersIn
import Derived.TacticsIn
import Derived.RangeFuncIn
import Derived.Laws.AppendOwn
import Derived.Laws.OwnMore
import Derived.Laws.CopyOwn
import Derived.Orders
import Derived.Laws.IdiomCopy
import Derived.Laws.CopyRow
import Derived.Scope
import Derived.Lib.BitFns
import Derived.Test.YtbaoeefdjpaomaaGreatDoorRows
import Derived.ProofKit
import Derived.OpenShut
import Derived.Laws.Pointers
import Derived.RangeFuncSeq
import Derived.RangeFuncRecord
set_option linter.unusedVariables false
set_option linter.unusedSimpArgs false
namespace Go.Proofs.YtbaoeefdjpaomaaGreatDoor
open Bool renaming and_eq_true->IR,false_eq_true->Pd,false_ne_true->Pa,false_or->Sa,not_eq_true'->Rj,not_true->SC,or_eq_true->R2
open Builtin renaming append_->PR,copy_->TU,firstCells->SL,lenOf->Tm,zeroCells->Po
open DataW renaming TrodAll->SV
open Deferred renaming ofValue->Rn
open Extern renaming find->Tb,findNext->SP
open Extern.MathBitsCarry renaming m64->Pj,pair->Ra,three->PN
open Fence renaming wide->Rq
open Instr renaming buildSlice->TJ,fill->Sf,slice->TW,sliceAt->RH,sliceBound->SE,sliceBounds->Sw,sureAddr->S5
open Int renaming toNat_natCast->Ry
open IntKind renaming i64->RJ,u64->P0,u8->xac
open Lib renaming bitLen->Ti
open List renaming all_eq_true->Pe,any_eq_true->TM,append_assoc->O2,append_nil->Ps,cons_append->PZ,countP_le_length->TC,drop->TX,drop_eq_getElem_cons->R0,drop_eq_nil_of_le->RY,drop_left'->TV,eq_nil_of_length_eq_zero->Pn,ext_getElem?->Sx,foldl_cons->SO,getElem?_append_left->Py,getElem?_append_right->PW,getElem?_cons_zero->PE,getElem?_eq_getElem->Pb,getElem?_eq_none->P8,getElem?_eq_some_iff->O4,getElem?_set_self->SI,getElem?_take->Rk,getElem?_zip_eq_some->S6,getElem_mem->Rm,getElem_of_mem->Rr,length_append->O1,length_cons->FS,length_eq_one_iff->P2,length_map->Rp,length_nil->R1,length_replicate->Sp,length_set->Ri,length_take->PG,map_cons->PA,map_nil->RR,map_toArray->R6,mem_append->OX,mem_cons->OY,mem_cons_of_mem->H1,mem_cons_self->Nm,mem_iff_getElem?->TD,mem_map->O8,mem_of_getElem?->Pq,mem_of_mem_eraseIdx->R3,mem_range->PK,mem_singleton->OZ,nil_append->P1,not_mem_nil->UV,range->P4,replicate->Pv,set_append_left->TS,set_append_right->TE,set_eq_take_append_cons_drop->Sn,set_getElem_self->RP,size_toArray->Tw,take->TB,take_append_drop->RL,take_of_length_le->P3,take_succ_cons->Si
open Nat renaming add_assoc->R9,add_mul->RI,add_zero->Sl,beq->OW,ble->Tv,blt->RA,div_lt_iff_lt_mul->Rs,eq_of_beq_eq_true->P7,le_mul_of_pos_right->SB,le_of_ble_eq_true->PC,le_refl->O3,le_trans->Pz,lt_of_le_of_lt->R4,lt_of_lt_of_le->Pc,lt_or_ge->Re,mod_eq_of_lt->PT,mod_lt->RN,mul_le_mul_right->PQ,zero_add->Pk,zero_le->PF,zero_mul->Sb
open Op renaming intCmp->Tk
open Oper renaming looksAt->Pt
open Option renaming getD_some->TN
open Option.some renaming inj->P9,injEq->O6
open Prod.mk renaming injEq->Tj
open Question renaming forced->Tn
open Region renaming binds->Rf,ready->So
open Result renaming andThen_ok->O0
open Sem renaming run_bind->O5,run_pure->Pg
open UInt8 renaming toNat->R7
open Value renaming bool->SG,ownBlock->Ss
open _root_.Array renaming getD_eq_getD_getElem?->Px,getElem?_eq_getElem->RF,getElem?_eq_some_iff->Ph,length_toList->SA,mem_toList_iff->R8,range->Ta,replicate->RE,toArray_toList->RB,toList_append->Tc
 universe u
theorem vq{c:Prop}{h:Decidable c}{α:Type}{t e:α}(hc:c:=by lia):ite c t e=t:=if_pos hc
theorem xb{c:Prop}{h:Decidable c}{α:Type}{t e:α}(hc:¬c:=by lia):ite c t e=e:=if_neg hc
theorem iq{c:Prop}{h:Decidable c}(hc:c){α:Sort u}{t e:α}:ite c t e=t:=if_pos hc
theorem ir{c:Prop}{h:Decidable c}(hc:¬c){α:Sort u}{t e:α}:ite c t e=e:=if_neg hc
noncomputable def AN:String:=(Tryz.prog.globals.toList.getD 3 default).name
theorem Q9{P:Program}{w w':World}{n:String}{cs:Array Value}(h:w.var? P n=some cs)(hb:∀k,k<w.heap.size->w'.heap[k]? =w.heap[k]?):w'.var? P n=some cs:=by
 unfold World.var? at h⊢
 cases hg:P.globalNamed n with
 |none=>rw[hg]at h;cases h
 |some g=>
  rw[hg]at h;simp only[Option.bind_some]at h⊢;have hk:g<w.heap.size:=by
   rcases Re g w.heap.size with h2|h2
   ·exact h2
   ·rw[Array.getElem?_eq_none h2]at h;cases h
  rw[hb g hk];exact h
def Gv(w:World):Prop:=Lib.TabIs Tryz.prog w AN .u64 Lib.pow10Tab/\(∃tp p,w.var? Tryz.prog "strconv.ErrRange" =some #[.iface tp p])/\∃tp p,w.var? Tryz.prog "strconv.ErrSyntax" =some #[.iface tp p]
theorem Gv.keep{w w':World}(h:Gv w)(hs:w.heap.size<=w'.heap.size)(hb:∀k,k<w.heap.size->w'.heap[k]? =w.heap[k]?):Gv w':=
 let⟨h1,⟨a,b,h2⟩,c,d,h3⟩:=h
 ⟨Q9 h1 hb,⟨a,b,Q9 h2 hb⟩,c,d,Q9 h3 hb⟩
section
structure zH(S:Nat->Prop)(w w':World):Prop where
 os:w'.os=w.os
 tape:w'.os=w.os
 output:w'.output=w.output
 size:w.heap.size<=w'.heap.size
 block:∀k,k<w.heap.size->S k->w'.heap[k]? =w.heap[k]?
abbrev jA(w w':World):Prop:=zH (fun _=>True) w w'
theorem zH.refl(S:Nat->Prop)(w:World):zH S w w:=⟨rfl,rfl,rfl,O3 _,fun _ _ _=>rfl⟩
theorem zH.trans{S:Nat->Prop}{a b c:World}(h:zH S a b)(k:zH S b c):zH S a c:=
 ⟨k.os.trans h.os,k.tape.trans h.tape,k.output.trans h.output,Pz h.size k.size,
  fun i hi hs=>(k.block i (Pc hi h.size) hs).trans<|h.block i hi hs⟩
theorem zH.weak{S S':Nat->Prop}{a b:World}(h:zH S a b)(hs:∀k,k<a.heap.size->S' k->S k):zH S' a b:=
 ⟨h.os,h.tape,h.output,h.size,fun k hk ha=>h.block k hk<|hs k hk ha⟩
theorem jA.to{S:Nat->Prop}{a b:World}(h:jA a b):zH S a b:=h.weak fun _ _ _=>trivial
theorem jA.behind{S:Nat->Prop}{we a b:World}(h:jA we a)(k:zH S a b)(hs:∀i,i<we.heap.size->S i):jA we b:=
 ⟨k.os.trans h.os,k.tape.trans h.tape,k.output.trans h.output,Pz h.size k.size,
  fun i hi _=>(k.block i (Pc hi h.size)<|hs i hi).trans<|h.block i hi trivial⟩
theorem jA.alloc(w:World)(o:Obj):jA w (w.alloc o):=
 ⟨rfl,rfl,rfl,by simp,fun k hk _=>RowKit.Below.heap_alloc w o k hk⟩
theorem jA.drawn(w:World)(n:Nat):jA w {w with drawn:=n}:=⟨rfl,rfl,rfl,O3 _,fun _ _ _=>rfl⟩
structure FF where
 p:(Nat->Prop)->World->Prop
 keep:∀{S:Nat->Prop}{w w':World},p S w->zH S w w'->p S w'
 sub:∀{S S':Nat->Prop}{w:World},p S w->(∀k,k<w.heap.size->S k->S' k)->p S' w
structure MF where
 blk:Nat->Prop
 p:(Nat->Prop)->World->Prop
 keep:∀{S:Nat->Prop}{w w':World},p S w->zH S w w'->(∀k,blk k->w'.heap[k]? =w.heap[k]?)->p S w'
 sub:∀{S S':Nat->Prop}{w:World},p S w->(∀k,k<w.heap.size->S k->S' k)->p S' w
 lt:∀{S:Nat->Prop}{w:World},p S w->∀k,blk k->k<w.heap.size
def ze(S:Nat->Prop):List FF->World->Prop
 |[],_=>True
 |f::r,w=>f.p S w/\ze S r w
def z7(S:Nat->Prop):List MF->World->Prop
 |[],_=>True
 |f::r,w=>f.p S w/\z7 S r w
theorem ze.keep{S:Nat->Prop}{w w':World}(k:zH S w w'):∀{Γ:List FF},ze S Γ w->ze S Γ w'
 |[],_=>trivial
 |f::_,h=>⟨f.keep h.1 k,ze.keep k h.2⟩
theorem ze.sub{S S':Nat->Prop}{w:World}(hs:∀k,k<w.heap.size->S k->S' k):∀{Γ:List FF},ze S Γ w->ze S' Γ w
 |[],_=>trivial
 |f::_,h=>⟨f.sub h.1 hs,ze.sub hs h.2⟩
theorem ze.append{S:Nat->Prop}{w:World}:∀{Γ Δ:List FF},ze S Γ w->ze S Δ w->ze S (Γ++Δ) w
 |[],_,_,h=>h
 |_::_,_,h,k=>⟨h.1,ze.append h.2 k⟩
theorem z7.sub{S S':Nat->Prop}{w:World}(hs:∀k,k<w.heap.size->S k->S' k):∀{Γ:List MF},z7 S Γ w->z7 S' Γ w
 |[],_=>trivial
 |f::_,h=>⟨f.sub h.1 hs,z7.sub hs h.2⟩
theorem z7.keep{S:Nat->Prop}{w w':World}(k:zH S w w'):∀{Γ:List MF},(∀m∈Γ,∀i,m.blk i->w'.heap[i]? =w.heap[i]?)->z7 S Γ w->z7 S Γ w'
 |[],_,_=>trivial
 |f::_,hb,h=>⟨f.keep h.1 k<|hb f<|Nm,z7.keep k (fun m hm=>hb m<|H1 _ hm) h.2⟩
theorem z7.lt{S:Nat->Prop}{w:World}:∀{Γ:List MF},z7 S Γ w->∀m∈Γ,∀i,m.blk i->i<w.heap.size
 |_::_,h,m,hm,i,hi=>by
  rcases OY.1 hm with rfl|hm
  ·exact m.lt h.1 i hi
  ·exact z7.lt h.2 m hm i hi
def jV:List MF->Prop
 |[]=>True
 |m::r=>(∀k,m.blk k->∀m'∈r,¬m'.blk k)/\jV r
structure Tl(we:World)(Se:Nat->Prop):Prop where
 up:∀k,we.heap.size<=k->Se k
 gv:Gv we
def St(we:World)(Se:Nat->Prop)(ms:List MF)(Γ:List FF)(w:World):Prop:=
 jA we w/\Tl we Se/\jV ms/\∃S:Nat->Prop,(∀k,S k->Se k)/\(∀k,w.heap.size<=k->S k)/\(∀m∈ms,∀k,m.blk k->¬S k/\we.heap.size<=k)/\
  z7 S ms w/\ze S Γ w
theorem Tl.at{we w:World}{Se S:Nat->Prop}(h:Tl we Se)(x:jA we w)(h5:∀k,w.heap.size<=k->S k):Tl w S:=⟨h5,h.gv.keep x.size fun k hk=>x.block k hk trivial⟩
section
variable{we:World}{Se:Nat->Prop}{ms:List MF}{Γ Δ:List FF}{w w':World}
theorem St.ext(h:St we Se ms Γ w)(x:jA w w'):St we Se ms Γ w':=by
 obtain⟨h1,h2,h3,S,h4,h5,h6,h7,h8⟩:=h
 exact⟨h1.trans x,h2,h3,S,h4,fun k hk=>h5 k<|Pz x.size hk,h6,
  z7.keep x.to (fun m hm i hi=>x.block i (z7.lt h7 m hm i hi) trivial) h7,ze.keep x.to h8⟩
theorem St.step(h:St we Se ms Γ w)(x:jA w w')(n:∀S:Nat->Prop,Tl w S->ze S Γ w->ze S Δ w'):St we Se ms Δ w':=by
 obtain⟨h1,h2,h3,S,h4,h5,h6,h7,h8⟩:=h
 exact⟨h1.trans x,h2,h3,S,h4,fun k hk=>h5 k<|Pz x.size hk,h6,
  z7.keep x.to (fun m hm i hi=>x.block i (z7.lt h7 m hm i hi) trivial) h7,n S (h2.at h1 h5) h8⟩
theorem St.weak(h:St we Se ms Γ w)(n:∀(S:Nat->Prop) (w:World),ze S Γ w->ze S Δ w):St we Se ms Δ w:=
 h.step (zH.refl _ _) fun S _=>n S w
theorem St.ex(h:St we Se ms Γ w):∃S:Nat->Prop,Tl w S/\ze S Γ w:=
 let⟨h1,h2,_,S,_,h5,_,_,h8⟩:=h;⟨S,h2.at h1 h5,h8⟩
theorem Ke:∀{ms:List MF} (i:Nat) (m':MF),jV ms->(∀m,ms[i]? =some m->m'.blk=m.blk)->jV (ms.set i m')
 |[],_,_,h,_=>by simpa using h
 |m::r,0,m',h,hb=>by
  have:=hb m rfl;exact⟨fun k hk=>h.1 k (by rw[<-this];exact hk),h.2⟩
 |m::r,i+1,m',h,hb=>by
  refine⟨fun k hk m2 ha=> ?_,Ke i m' h.2<|fun m hm=>hb m<|by simpa using hm⟩;obtain⟨j,hj,rfl⟩:=Rr ha;rw[List.getElem_set];rw[Ri]at hj;split
  ·rename_i e;rw[hb r[i]<|by simp];exact h.1 k hk _<|Rm _
  ·exact h.1 k hk _<|Rm _
theorem z7.get{S:Nat->Prop}:∀{ms:List MF}{i:Nat}{m:MF},z7 S ms w->ms[i]? =some m->m.p S w
 |_::_,0,_,h,e=>by simp only[PE,O6]at e;exact e▸h.1
 |_::_,_+1,_,h,e=>z7.get h.2<|by simpa using e
theorem Yb:∀{ms:List MF}{i:Nat}{m:MF},jV ms->ms[i]? =some m->∀k,m.blk k->∀(j:Nat) (m':MF),j≠i->ms[j]? =some m'->¬m'.blk k
 |m0::r,0,m,h,e,k,hk,j,m',hj,ha=>by
  simp only[PE,O6]at e;subst e;obtain⟨j,rfl⟩:∃j',j=j'+1:=⟨j-1,by lia⟩;exact h.1 k hk m'<|Pq<|by simpa using ha
 |m0::r,i+1,m,h,e,k,hk,0,m',hj,ha=>by
  simp only[PE,O6]at ha;subst ha;exact fun hc=>h.1 k hc m (Pq<|by simpa using e) hk
 |m0::r,i+1,m,h,e,k,hk,j+1,m',hj,ha=>
  Yb h.2 (by simpa using e) k hk j m' (by lia) (by simpa using ha)
theorem aA{S:Nat->Prop}{b:Nat}(x:zH (fun k=>k≠b) w w'):∀{ms:List MF} (i:Nat) (m':MF),(∀k,S k->k≠b)->m'.p S w'->
 (∀(j:Nat) (m:MF),j≠i->ms[j]? =some m->¬m.blk b)->z7 S ms w->z7 S (ms.set i m') w'
 |[],_,_,_,_,_,_=>trivial
 |m::r,0,m',hs,hm,ho,h=>by
  refine⟨hm,z7.keep (x.weak fun k _ hk=>hs k hk) (fun m2 ha k hk=> ?_) h.2⟩;obtain⟨j,hj,rfl⟩:=Rr ha;exact x.block k (z7.lt h.2 _ (Rm _) k hk)<|fun e=>ho (j+1) r[j] (by lia) (by simp)<|e▸hk
 |m::r,i+1,m',hs,hm,ho,h=>by
  refine⟨m.keep h.1 (x.weak fun k _ hk=>hs k hk)<|fun k hk=>x.block k (m.lt h.1 k hk)<|fun e=>ho 0 m (by lia) rfl<|e▸hk,?_⟩;exact aA x i m' hs hm (fun j m2 hj ha=>ho (j+1) m2 (by lia)<|by simpa using ha) h.2
theorem St.write{i:Nat}{m m':MF}{b:Nat}(h:St we Se ms Γ w)(hi:ms[i]? =some m)(hb:m.blk=fun k=> @some Nat b=some k)(hd:m'.blk=fun k=> @some Nat b=some k)(x:zH (fun k=>k≠b) w w')
 (n:∀S:Nat->Prop,(∀k,S k->k≠b)->m.p S w->ze S Γ w->m'.p S w'):St we Se (ms.set i m') Γ w':=by
 obtain⟨h1,h2,h3,S,h4,h5,h6,h7,h8⟩:=h;have ha:m.blk b:=by rw[hb]
 have hS:∀k,S k->k≠b:=fun k hk e=>(h6 m (Pq hi) b ha).1<|e▸hk;refine⟨h1.behind x (fun k hk e=>by have:=(h6 m (Pq hi) b ha).2;lia),h2,Ke i m' h3<|fun m2 h2=> ?_,S,h4,fun k hk=>h5 k<|Pz x.size hk,?_,?_,?_⟩
 ·simp_all
 ·grind
 ·exact aA x i m' hS (n S hS (z7.get h7 hi) h8) (fun j m2 hj hc=>Yb h3 hi b ha j m2 hj hc) h7
 ·exact ze.keep (x.weak fun k _ hk=>hS k hk) h8
theorem St.fresh{m:MF}(h:St we Se ms Γ w)(x:jA w w')(hb:m.blk=fun k=>some w.heap.size=some k)(hd:w.heap.size<w'.heap.size)
 (n:∀S:Nat->Prop,Tl w S->ze S Γ w->m.p (fun k=>S k/\k≠w.heap.size) w'):St we Se (m::ms) Γ w':=by
 obtain⟨h1,h2,h3,S,h4,h5,h6,h7,h8⟩:=h;have ha:∀k,k<w.heap.size->S k->S k/\k≠w.heap.size:=fun k hk hs=>⟨hs,by lia⟩;refine⟨h1.trans x,h2,⟨fun k hk m' hm' hc=> ?_,h3⟩,fun k=>S k/\k≠w.heap.size,fun k hk=>h4 k hk.1,fun k hk=>⟨h5 k (by lia),by lia⟩,?_,⟨n S (h2.at h1 h5) h8,?_⟩,?_⟩
 ·grind
 ·intro m' hm' k hk;rcases OY.1 hm' with rfl|hm'
  ·rw[hb]at hk;cases hk;exact⟨fun hc=>hc.2 rfl,h1.size⟩
  ·grind
 ·exact z7.keep x.to (fun m' hm' i hi=>x.block i (z7.lt h7 m' hm' i hi) trivial)<|z7.sub ha h7
 ·exact ze.keep x.to<|ze.sub ha h8
theorem ug:∀{ms:List MF} (i:Nat),jV ms->jV (ms.eraseIdx i)
 |[],_,h=>by simpa using h
 |_::_,0,h=>h.2
 |m::r,i+1,h=>⟨fun k hk m' ha=>h.1 k hk m'<|R3 ha,ug i h.2⟩
theorem Zk{S:Nat->Prop}:∀{ms:List MF} (i:Nat),z7 S ms w->z7 S (ms.eraseIdx i) w
 |[],_,h=>by simpa using h
 |_::_,0,h=>h.2
 |_::_,i+1,h=>⟨h.1,Zk i h.2⟩
theorem St.freeze{i:Nat}{m:MF}{F:FF}(h:St we Se ms Γ w)(hi:ms[i]? =some m)
 (n:∀S S':Nat->Prop,(∀k,S k->S' k)->(∀k,m.blk k->S' k)->m.p S w->F.p S' w):St we Se (ms.eraseIdx i) (F::Γ) w:=by
 obtain⟨h1,h2,h3,S,h4,h5,h6,h7,h8⟩:=h;have hm:=Pq hi;refine⟨h1,h2,ug i h3,fun k=>S k\/m.blk k,?_,fun k hk=> .inl<|h5 k hk,?_,z7.sub (fun k _ hk=> .inl hk)<|Zk i h7,n S _ (fun k hk=> .inl hk) (fun k hk=> .inr hk)<|z7.get h7 hi,ze.sub (fun k _ hk=> .inl hk) h8⟩
 ·rintro k (hk|hk)
  ·simp_all
  ·exact h2.up k (h6 m hm k hk).2
 ·intro m' ha k hk;refine⟨?_,(h6 m' (R3 ha) k hk).2⟩;rintro(hc|hc)
  ·exact(h6 m' (R3 ha) k hk).1 hc
  ·obtain⟨j,hj,hb⟩:=List.mem_eraseIdx_iff_getElem?.1 ha;exact Yb h3 hi k hc j m' hj hb hk
theorem St.drop{i:Nat}(h:St we Se ms Γ w):St we Se (ms.eraseIdx i) Γ w:=by
 obtain⟨h1,h2,h3,S,h4,h5,h6,h7,h8⟩:=h;exact⟨h1,h2,ug i h3,S,h4,h5,fun m' ha=>h6 m'<|R3 ha,Zk i h7,h8⟩
theorem St.nil(h:ze Se Γ we)(ha:Tl we Se):St we Se [] Γ we:=
 ⟨zH.refl _ _,ha,trivial,Se,fun _ h=>h,ha.up,fun _ h=>absurd h UV,trivial,h⟩
end
abbrev yb:=Nat->Value
def L:List (Nat×Value)->yb->yb
 |[],r,t=>r t
 |(k,v)::l,r,t=>bif OW t k then v else L l r t
def put(env:yb):Option Tmp->Value->yb
 |some d,v=>L [(d,v)] env
 |none,_=>env
def zg(a:Act):yb:=fun t=>a.tmps.getD t undef
def ev(env:yb):Operand->Value
 |.tmp t=>env t
 |.const v=>v
 |.global g=> .pointer<|some ⟨g,0,none⟩
 |.func f=> .func (.func f) #[] #[]
def Bz(env:yb):List (Nat×Value)->List Value
 |[]=>[]
 |(k,_)::l=>env k::Bz env l
def ga:List (Nat×Value)->List Value
 |[]=>[]
 |(_,v)::l=>v::ga l
def qH(env:yb)(l:List (Nat×Value)):Prop:=Bz env l=ga l
theorem QD{env:yb}{k:Nat}{v:Value}{l:List (Nat×Value)}(h:env k=v)(h2:qH env l):qH env ((k,v)::l):=by
 show env k::Bz env l=v::ga l;rw[h,show Bz env l=ga l from h2]
theorem XA{env:yb}{k:Nat}{v:Value}{l:List (Nat×Value)}(h:qH env ((k,v)::l)):env k=v/\qH env l:=by
 have h1:=h;exact List.cons.inj h1
theorem qP{env:yb}:∀{live:List (Nat×Value)},qH env live->L live env=env
 |[],_=>rfl
 |(k,v)::l,h=>by
  funext t;have ih:=congrFun (qP (XA h).2) t;simp only[L];cases hb:OW t k
  ·simp_all
  ·simp only[cond_true];rw[P7 hb];exact(XA h).1.symm
theorem uj(a:Act):a.eval=ev (zg a):=by funext x;cases x<;>rfl
theorem qE{a:Act}{d:Option Tmp}{v:Value}(h:∀t,d=some t->t<a.tmps.size):zg (a.put d v)=put (zg a) d v:=by
 cases d with
 |none=>rfl
 |some d=>
  funext t;simp only[zg,Act.put,put,L,Px];cases hb:OW t d
  ·have:d≠t:=fun e=>by subst e;simp at hb
   grind
  ·simp_all
theorem kJ(a:Act)(d:Option Tmp)(v:Value):(a.put d v).tmps.size=a.tmps.size:=by cases d<;>simp[Act.put]
theorem qy(a:Act)(d:Option Tmp)(v:Value):(a.put d v).defers=a.defers:=by cases d<;>rfl
abbrev Qs:=Exit->yb->World->Prop
structure Nd where
 n:Nat
 ds:List Deferred
 rd:Option Nat
abbrev Nd.of(n:Nat):Nd:=⟨n,[],none⟩
abbrev Nd.F(N:Nd):Fence:={Rq with round:=N.rd}
def lY(N:Nd)(Q:Qs):Exit->Act->World->Prop:=fun e a w=>a.tmps.size=N.n/\a.defers=N.ds/\Q e (zg a) w
def Wp(P:Program)(N:Nd)(c:Code)(Q:Qs)(env:yb)(w:World):Prop:=
 ∀a:Act,a.tmps.size=N.n->a.defers=N.ds->zg a=env->c.wpIn N.F 0 P (lY N Q) a w
def nC(K:yb->World->Prop)(Q:Qs):Qs
 |.normal,env,w=>K env w
 |e,env,w=>Q e env w
def pe(id:Nat)(Q:Qs):Qs
 |.exit id',env,w=>bif OW id' id then Q .normal env w else Q (.exit id') env w
 |e,env,w=>Q e env w
def T(P:Program)(N:Nd)(we:World)(Se:Nat->Prop)(ms:List MF)(Γ:List FF)(c:Code)(Q:Qs)(env:yb):Prop:=
 ∀w,St we Se ms Γ w->Wp P N c Q env w
section
variable{P:Program}{N:Nd}{we:World}{Se:Nat->Prop}{ms:List MF}{Γ:List FF}{Q:Qs}{env:yb}
theorem xq{x y:Code}(h:T P N we Se ms Γ x (nC (Wp P N y Q) Q) env):T P N we Se ms Γ (.seq x y) Q env:=by
 intro w hw a h1 h2 h3;refine wpIn_seq<|wpIn_mono (h w hw a h1 h2 h3) ?_;intro e a' w' ⟨q1,q2,q3⟩;cases e<;>first|exact q3 a' q1 q2 rfl|exact⟨q1,q2,q3⟩
theorem Xx(h:∀w,St we Se ms Γ w->Q .normal env w):T P N we Se ms Γ .skip Q env:=
 fun w hw _ h1 h2 h3=>wpIn_skip ⟨h1,h2,h3▸h w hw⟩
theorem FK{id:Nat}(h:∀w,St we Se ms Γ w->Q (.exit id) env w):T P N we Se ms Γ (.exit id) Q env:=
 fun w hw _ h1 h2 h3=>wpIn_exit ⟨h1,h2,h3▸h w hw⟩
theorem bJ(h:∀w,St we Se ms Γ w->Q .ret env w):T P N we Se ms Γ .ret Q env:=
 fun w hw _ h1 h2 h3=>wpIn_ret ⟨h1,h2,h3▸h w hw⟩
theorem xY{c:Operand}{x y:Code}(hc:ev env c=.bool true)(h:T P N we Se ms Γ x Q env):T P N we Se ms Γ (.cond c x y) Q env:=
 fun w hw a h1 h2 h3=>wpIn_cond_true (by rw[uj,h3];exact hc)<|h w hw a h1 h2 h3
theorem wc{c:Operand}{x y:Code}(hc:ev env c=.bool false)(h:T P N we Se ms Γ y Q env):T P N we Se ms Γ (.cond c x y) Q env:=
 fun w hw a h1 h2 h3=>wpIn_cond_false (by rw[uj,h3];exact hc)<|h w hw a h1 h2 h3
theorem VL{id:Nat}{c:Code}(h:T P N we Se ms Γ c (pe id Q) env):T P N we Se ms Γ (.block id c) Q env:=by
 intro w hw a h1 h2 h3;refine wpIn_block<|wpIn_mono (h w hw a h1 h2 h3) ?_;intro e a' w' ⟨q1,q2,q3⟩
 cases e with
 |exit i=>
  simp only[pe]at q3;simp only[Exit.inBlock];cases hb:OW i id
  ·rw[hb]at q3;rw[ir<|fun e=>by subst e;simp at hb];exact⟨q1,q2,q3⟩
  ·rw[hb]at q3;rw[iq<|P7 hb];exact⟨q1,q2,q3⟩
 |_=>exact⟨q1,q2,q3⟩
structure nT where
 ms:List MF
 Γ:List FF
 live:List (Nat×Value)
theorem QI{F:Fence}{n:Nat}{c:Code}{Q:Exit->Act->World->Prop}{a:Act}{w:World}{G:Type}(I:G->Act->World->Prop)(μ:G->Nat)(g₀:G)(h₀:I g₀ a w)
 (round:∀g a w,I g a w->c.wpIn F n P (Exit.then (fun a' w'=>∃g',I g' a' w'/\μ g'<μ g) Q) a w):(Code.loop c).wpIn F n P Q a w:=by
 intro b k cs hd hb hr
 have key:∀n g a w,μ g=n->I g a w->
  ∃e a' w',Q e a' w'/\ArrivesIn (Machine.fenced P F) P (lone (b.atR a (.code c::.inLoop c::k)) cs w) b k cs e a' w':=by
  intro n
  induction n using Nat.strongRecOn with
  |_ n ih=>
   intro g a w hn hI;obtain⟨e,a₁,w₁,hq,ha⟩:=round g a w hI b (.inLoop c::k) cs hd hb hr
   cases e with
   |normal=>
    obtain⟨g₁,he,hf⟩:=hq;obtain⟨e₂,a₂,w₂,hg,hc⟩:=ih (μ g₁) (hn▸hf) g₁ a₁ w₁ rfl he;exact⟨e₂,a₂,w₂,hg,.of_steps (StepsIn.trans ha (.one (fenced_calm hb hr rfl) stepR_inLoop)) hc⟩
   |exit id=>exact⟨_,a₁,w₁,hq,.pass rfl (fun _ _=> .inl<|by simp) ha⟩
   |goto l=>exact⟨_,a₁,w₁,hq,.pass rfl (fun _ _=> .inl<|by simp) ha⟩
   |ret=>exact⟨_,a₁,w₁,hq,.pass rfl (fun _ _=> .inl<|by simp) ha⟩
   |panic ch=>exact⟨_,a₁,w₁,hq,.pass rfl (fun _ _=> .inl<|by simp) ha⟩
   |outgrown=>exact⟨_,a₁,w₁,hq,.pass rfl (fun _ _=> .inl<|by simp) ha⟩
 obtain⟨e,a',w',hq,ha⟩:=key _ g₀ a w rfl h₀;exact⟨e,a',w',hq,.of_steps (.one (fenced_calm hb hr rfl) stepR_loop) ha⟩
inductive tH(we:World)(Se:Nat->Prop){G:Type}(inv:G->nT)(ok:G->Prop)(μ:G->Nat)(g:G)(env':yb)(w':World):Prop
 |mk (g':G) (h1:ok g') (h2:μ g'<μ g) (h3:qH env' (inv g').live) (h4:St we Se (inv g').ms (inv g').Γ w'):tH we Se inv ok μ g env' w'
theorem Gg{G:Type}(inv:G->nT)(ok:G->Prop)(μ:G->Nat){c:Code}(g₀:G)(h₀:ok g₀)(hl:qH env (inv g₀).live)
 (hs:∀w,St we Se ms Γ w->St we Se (inv g₀).ms (inv g₀).Γ w)
 (round:∀g,ok g->∀rest,T P N we Se (inv g).ms (inv g).Γ c (nC (tH we Se inv ok μ g) Q)<|L (inv g).live rest):
 T P N we Se ms Γ (.loop c) Q env:=by
 intro w hw a h1 h2 h3;refine QI (fun g a w=>a.tmps.size=N.n/\a.defers=N.ds/\ok g/\qH (zg a) (inv g).live/\St we Se (inv g).ms (inv g).Γ w) μ g₀ ⟨h1,h2,h₀,h3▸hl,hs w hw⟩ ?_;intro g a w ⟨h1,h2,ha,hb,hc⟩;refine wpIn_mono (round g ha (zg a) w hc a h1 h2 (qP hb).symm) ?_;intro e a' w' ⟨q1,q2,q3⟩
 cases e with
 |normal=>obtain⟨g',o1,o2,o3,o4⟩:=q3;exact⟨g',⟨q1,q2,o1,o3,o4⟩,o2⟩
 |_=>exact⟨q1,q2,q3⟩
theorem oi{G:Type}{inv:G->nT}{ok:G->Prop}{μ:G->Nat}{g:G}(g':G)(h1:ok g')(h2:μ g'<μ g)(h3:qH env (inv g').live)
 (hs:∀w,St we Se ms Γ w->St we Se (inv g').ms (inv g').Γ w):∀w,St we Se ms Γ w->tH we Se inv ok μ g env w:=
 fun w hw=>⟨g',h1,h2,h3,hs w hw⟩
theorem iE(live:List (Nat×Value)){c:Code}(h:qH env live)(k:∀rest,T P N we Se ms Γ c Q<|L live rest):T P N we Se ms Γ c Q env:=by
 have:=k env;rwa[qP h]at this
theorem nB(ms':List MF)(Γ':List FF){c:Code}(hs:∀w,St we Se ms Γ w->St we Se ms' Γ' w)(k:T P N we Se ms' Γ' c Q env):T P N we Se ms Γ c Q env:=
 fun w hw=>k w<|hs w hw
end
def NK{U:Type}(Se:Nat->Prop)(w:World)(val:U->Value)(facts:U->List FF)(ok:U->Prop):Ending->World->Prop:=
 fun e w'=>∃u,e=.returned (val u)/\ok u/\jA w w'/\ze Se (facts u) w'
def Fn{U:Type}(P:Program)(f:FuncId)(args:Array Value)(Γ:List FF)(val:U->Value)(facts:U->List FF)(ok:U->Prop):Prop:=
 ∀w Se,Tl w Se->ze Se Γ w->Calls P f args w (NK Se w val facts ok)
def EG{U:Type}(P:Program)(fn:Func)(we:World)(Se:Nat->Prop)(val:U->Value)(facts:U->List FF)(ok:U->Prop):Qs
 |.ret,env,w|.normal,env,w=>∃u,(∀a:Act,zg a=env->(results fn a.tmps).run P w=.ok (val u) w)/\ok u/\jA we w/\ze Se (facts u) w
 |_,_,_=>False
theorem kL(args:Array Value)(n:Nat):zg ⟨args++RE n undef,[]⟩=fun t=>args.getD t undef:=by
 funext t;simp only[zg,Px,Array.getElem?_append];split
 ·rfl
 ·grind
theorem jb:∀(l:List Value) (k:Nat) (env:yb),(∀j,env (k+j)=l.getD j undef)->qH env ((l.zipIdx k).map fun x=>(x.2,x.1))
 |[],_,_,_=>rfl
 |v::l,k,env,h=>QD (by simpa using h 0)<|jb l (k+1) env (fun j=>by have:=h<|j+1;simpa[R9,Nat.add_comm 1 j]using this)
theorem rk{U:Type}{P:Program}{f:FuncId}{args:List Value}{Γ:List FF}{val:U->Value}{facts:U->List FF}{ok:U->Prop}{fn:Func}{c:Code}
 (hf:P.funcs[f]? =some fn) (hb:fn.body=some c) (hn:Tv args.length fn.ntmps=true)
 (h:∀we Se rest,T P (Nd.of fn.ntmps) we Se [] Γ c (EG P fn we Se val facts ok)<|L ((args.zipIdx 0).map fun x=>(x.2,x.1)) rest):Fn P f args.toArray Γ val facts ok:=by
 intro w Se ha hΓ;have hn:=PC hn;refine calls_of_wp hf hb<|(wpIn_wide (n:=0)).1 ?_;have hc:qH (zg ⟨args.toArray++RE (fn.ntmps-args.toArray.size) undef,[]⟩) ((args.zipIdx 0).map fun x=>(x.2,x.1)):=by
  refine jb args 0 _ fun j=> ?_;rw[kL];simp_all
 refine wpIn_mono (h w Se _ w (St.nil hΓ ha) _ (by simp;lia) rfl (qP hc).symm) ?_;intro e a' w' ⟨q1,q2,q3⟩;cases e<;>simp only[EG]at q3
 ·obtain⟨u,r1,r2,r3,r4⟩:=q3;exact⟨q2,_,r1 a' rfl,u,rfl,r2,r3,r4⟩
 ·obtain⟨u,r1,r2,r3,r4⟩:=q3;exact⟨q2,_,r1 a' rfl,u,rfl,r2,r3,r4⟩
section
variable{P:Program}{we:World}{Se:Nat->Prop}{ms:List MF}{Γ:List FF}{env:yb}{U:Type}{val:U->Value}{facts:U->List FF}{ok:U->Prop}{fn:Func}
theorem St.out{Δ:List FF}{w:World}(h:St we Se ms Γ w)(n:∀(S:Nat->Prop) (w:World),ze S Γ w->ze S Δ w):jA we w/\ze Se Δ w:=by
 obtain⟨h1,h2,h3,S,h4,h5,h6,h7,h8⟩:=h;exact⟨h1,ze.sub (fun k _=>h4 k)<|n S w h8⟩
theorem IB{t:Tmp}(u:U)(hr:fn.results= #[.tmp t])(hv:env t=val u)(hb:ok u)(n:∀(S:Nat->Prop) (w:World),ze S Γ w->ze S (facts u) w):
 ∀w,St we Se ms Γ w->EG P fn we Se val facts ok .ret env w:=by
 intro w hw;refine⟨u,fun a ha=> ?_,hb,hw.out n⟩;rw[<-hv,<-ha];simp[results,hr,zg]
def QZ(tmps:Array Value):ResultVar->Sem Value
 |.tmp t=>pure<|tmps.getD t undef
 |.cell a t=>do loadVar t (<-asAddr (tmps.getD a undef))
end
end
section
structure zv(α:Type)where
 n:Nat
 agg:Bool
 n1:agg=false->n=1
 p:(Nat->Prop)->α->List Value->World->Prop
 len:∀{S x cs w},p S x cs w->cs.length=n
 one:∀{S x cs w},p S x cs w->∀c∈cs,c.oneCell'=true
 keep:∀{S x cs w w'},p S x cs w->zH S w w'->p S x cs w'
 sub:∀{S S':Nat->Prop}{x cs w},p S x cs w->(∀k,k<w.heap.size->S k->S' k)->p S' x cs w
def zv.val{α:Type}(e:zv α)(cs:List Value):Value:=if e.agg then .agg cs.toArray else cs.headD undef
theorem zv.val_cells{α:Type}(e:zv α){S:Nat->Prop}{x:α}{cs:List Value}{w:World}(h:e.p S x cs w):(e.val cs).cells.toList=cs:=by
 unfold zv.val;cases ha:e.agg
 ·have hl:=e.len h;rw[e.n1 ha]at hl;obtain⟨c,rfl⟩:=P2.1 hl;have:=e.one h c (by simp);cases c<;>simp_all [Value.cells,Value.oneCell']
 ·rfl
def fV{α:Type}(e:zv α)(x:α)(v:Value):FF where
 p S w:=∃cs,v=e.val cs/\e.p S x cs w
 keep:=fun⟨cs,h1,h2⟩ k=>⟨cs,h1,e.keep h2 k⟩
 sub:=fun⟨cs,h1,h2⟩ k=>⟨cs,h1,e.sub h2 k⟩
def eI:zv Int where
 n:=1
 agg:=false
 n1 _:=rfl
 p _ x cs _:=cs=[.int .i64 x]/\ -9223372036854775808<=x/\x<=9223372036854775807
 len h:=by simp[h.1]
 one h:=by intro c hc;rw[h.1]at hc;simp at hc;subst hc;rfl
 keep h _:=h
 sub h _:=h
def eU:zv Nat where
 n:=1
 agg:=false
 n1 _:=rfl
 p _ x cs _:=cs=[.int .u64 (x:Int)]/\x<18446744073709551616
 len h:=by simp[h.1]
 one h:=by intro c hc;rw[h.1]at hc;simp at hc;subst hc;rfl
 keep h _:=h
 sub h _:=h
def bQ:zv Bool where
 n:=1
 agg:=false
 n1 _:=rfl
 p _ x cs _:=cs=[.bool x]
 len h:=by simp[h]
 one h:=by intro c hc;rw[h]at hc;simp at hc;subst hc;rfl
 keep h _:=h
 sub h _:=h
theorem vU{α:Type}{e:zv α}{S:Nat->Prop}{x:α}{v:Value}{w:World}(h:(fV e x v).p S w):e.p S x v.cells.toList w:=by
 obtain⟨cs,rfl,h⟩:=h;rw[e.val_cells h];exact h
theorem Lo{α:Type}{e:zv α}{S:Nat->Prop}{x:α}{cs:List Value}{w:World}(h:e.p S x cs w):(fV e x<|e.val cs).p S w:=⟨cs,rfl,h⟩
theorem pf{x:Int}{v:Value}{S:Nat->Prop}{w:World}(h:(fV eI x v).p S w):v=.int .i64 x/\ -9223372036854775808<=x/\x<=9223372036854775807:=by
 obtain⟨cs,rfl,rfl,h⟩:=h;exact⟨rfl,h⟩
theorem sQ{x:Nat}{v:Value}{S:Nat->Prop}{w:World}(h:(fV eU x v).p S w):v=.int .u64 (x:Int)/\x<18446744073709551616:=by
 obtain⟨cs,rfl,rfl,h⟩:=h;exact⟨rfl,h⟩
theorem Wi{x:Bool}{v:Value}{S:Nat->Prop}{w:World}(h:(fV bQ x v).p S w):v=.bool x:=by
 obtain⟨cs,rfl,rfl⟩:=h;rfl
theorem yV{x:Int}{S:Nat->Prop}{w:World}(h: -9223372036854775808<=x/\x<=9223372036854775807):(fV eI x (.int .i64 x)).p S w:=⟨_,rfl,rfl,h⟩
theorem wh{x:Nat}{S:Nat->Prop}{w:World}(h:x<18446744073709551616):(fV eU x (.int .u64 (x:Int))).p S w:=⟨_,rfl,rfl,h⟩
theorem Wu{x:Bool}{S:Nat->Prop}{w:World}:(fV bQ x (.bool x)).p S w:=⟨_,rfl,rfl⟩
def zX{α:Type}(e:zv α)(S:Nat->Prop):List α->List Value->World->Prop
 |[],cs,_=>cs=[]
 |x::xs,cs,w=>∃c r,cs=c++r/\e.p S x c w/\zX e S xs r w
section
variable{α:Type}{e:zv α}{S S':Nat->Prop}{w w':World}
theorem zX.len:∀{xs:List α}{cs:List Value},zX e S xs cs w->cs.length=xs.length*e.n
 |[],_,h=>by simp[show _=[]from h]
 |x::xs,_,⟨c,r,h,hc,hr⟩=>by rw[h,O1,e.len hc,zX.len hr,FS,RI,Nat.add_comm];simp
theorem zX.one:∀{xs:List α}{cs:List Value},zX e S xs cs w->∀c∈cs,c.oneCell'=true
 |[],_,h=>by simp[show _=[]from h]
 |x::xs,_,⟨c,r,h,hc,hr⟩=>by
  intro d hd;rw[h]at hd;rcases OX.1 hd with hd|hd
  ·exact e.one hc d hd
  ·exact zX.one hr d hd
theorem zX.keep(k:zH S w w'):∀{xs:List α}{cs:List Value},zX e S xs cs w->zX e S xs cs w'
 |[],_,h=>h
 |_::_,_,⟨c,r,h,hc,hr⟩=>⟨c,r,h,e.keep hc k,zX.keep k hr⟩
theorem zX.sub(k:∀k,k<w.heap.size->S k->S' k):∀{xs:List α}{cs:List Value},zX e S xs cs w->zX e S' xs cs w
 |[],_,h=>h
 |_::_,_,⟨c,r,h,hc,hr⟩=>⟨c,r,h,e.sub hc k,zX.sub k hr⟩
theorem zX.append:∀{xs ys:List α}{cs ds:List Value},zX e S xs cs w->zX e S ys ds w->zX e S (xs++ys) (cs++ds) w
 |[],_,_,_,h,k=>by rw[show _=[]from h];exact k
 |_::_,_,_,_,⟨c,r,h,hc,hr⟩,k=>⟨c,r++_,by rw[h,O2],hc,zX.append hr k⟩
theorem zX.drop:∀{xs:List α}{cs:List Value} (k:Nat),zX e S xs cs w->zX e S (xs.drop k) (cs.drop<|k*e.n) w
 |[],cs,k,h=>by simp[show cs=[]from h];exact rfl
 |x::xs,cs,0,h=>by simpa using h
 |x::xs,_,k+1,⟨c,r,h,hc,hr⟩=>by
  have:=zX.drop k hr;rw[List.drop_succ_cons,h,RI,Nat.one_mul,Nat.add_comm,<-List.drop_drop];rwa[TV<|e.len hc]
theorem zX.take:∀{xs:List α}{cs:List Value} (k:Nat),zX e S xs cs w->zX e S (xs.take k) (cs.take<|k*e.n) w
 |[],cs,k,h=>by simp[show cs=[]from h];exact rfl
 |x::xs,cs,0,h=>by simp;exact rfl
 |x::xs,_,k+1,⟨c,r,h,hc,hr⟩=>by
  refine⟨c,r.take<|k*e.n,?_,hc,zX.take k hr⟩;rw[h,RI,List.take_append,e.len hc,P3<|by rw[e.len hc];lia];simp_all
theorem zX.get{xs:List α}{cs:List Value}{i:Nat}{x:α}(h:zX e S xs cs w)(hx:xs[i]? =some x):
 ∃c,e.p S x c w/\∀j,j<e.n->cs[i*e.n+j]? =c[j]? :=by
 have hd:=h.drop i;obtain⟨hi,rfl⟩:=O4.1 hx;rw[R0 hi]at hd;obtain⟨c,r,h1,h2,h3⟩:=hd;refine⟨c,h2,fun j hj=> ?_⟩;rw[<-List.getElem?_drop,h1,Py<|by rw[e.len h2];exact hj]
theorem zX.replicate{x:α}{c:List Value}(h:e.p S x c w):∀n,zX e S (Pv n x) (Pv n c).flatten w
 |0=>rfl
 |n+1=>⟨c,_,by simp[List.replicate_succ],h,zX.replicate h n⟩
end
def At(w:World)(b o:Nat)(cs:List Value):Prop:=b<w.heap.size/\∀j v,cs[j]? =some v->w.cell? ⟨b,o+j,none⟩=some v
theorem At.keep{S:Nat->Prop}{w w':World}{b o:Nat}{cs:List Value}(h:At w b o cs)(hS:S b)(k:zH S w w'):At w' b o cs:=
 ⟨Pc h.1 k.size,fun j v hv=>by rw[World.cell?_of_block<|k.block b h.1 hS];exact h.2 j v hv⟩
theorem At.drop{w:World}{b o:Nat}{cs:List Value}(h:At w b o cs)(k:Nat):At w b (o+k) (cs.drop k):=
 ⟨h.1,fun j v hv=>by rw[List.getElem?_drop]at hv;have:=h.2 _ v hv;rwa[R9]⟩
theorem At.take{w:World}{b o:Nat}{cs:List Value}(h:At w b o cs)(k:Nat):At w b o (cs.take k):=
 ⟨h.1,fun j v hv=>h.2 j v<|by rw[Rk]at hv;split at hv<;>simp_all⟩
theorem At.row{w:World}{b:Nat}{cs:Array Value}{t:TypeId}{fr:Nat×Nat}(h:w.heap[b]? =some (.cells cs t fr)):At w b 0 cs.toList:=
 ⟨(Ph.1 h).1,fun j v hv=>by rw[cell_of_row w b (0+j) cs t fr h];simpa using hv⟩
def gq{α:Type}(e:zv α)(S:Nat->Prop)(xs:List α)(v:Value)(w:World):Prop:=
 ∃ao cap,v=.slice ao xs.length cap/\xs.length<=cap/\cap<=maxLen/\(xs=[]\/∃b o cs,ao=some ⟨b,o,none⟩/\S b/\At w b o cs/\zX e S xs cs w)
def eS{α:Type}(e:zv α):zv (List α)where
 n:=1
 agg:=false
 n1 _:=rfl
 p S xs cs w:=∃v,cs=[v]/\gq e S xs v w
 len:=fun⟨v,h,_⟩=>by simp[h]
 one:=fun⟨v,h,⟨ao,cap,hv,_⟩⟩=>by intro c hc;rw[h]at hc;simp at hc;subst hc;rw[hv];rfl
 keep:=fun⟨v,h,⟨ao,cap,h1,h2,h3,h4⟩⟩ k=>⟨v,h,ao,cap,h1,h2,h3,h4.imp id fun⟨b,o,cs,a1,a2,a3,a4⟩=>⟨b,o,cs,a1,a2,a3.keep a2 k,a4.keep k⟩⟩
 sub:=fun⟨v,h,⟨ao,cap,h1,h2,h3,h4⟩⟩ k=>⟨v,h,ao,cap,h1,h2,h3,h4.imp id fun⟨b,o,cs,a1,a2,a3,a4⟩=>⟨b,o,cs,a1,k b a3.1 a2,a3,a4.sub k⟩⟩
theorem yX{α:Type}{e:zv α}{xs:List α}{v:Value}{S:Nat->Prop}{w:World}:(fV (eS e) xs v).p S w↔gq e S xs v w:=
 ⟨fun⟨_,h1,v',h2,h3⟩=>by subst h2;rw[h1];exact h3,fun h=>⟨[v],rfl,v,rfl,h⟩⟩
def eP{α β:Type}(e:zv α)(f:zv β):zv (α×β)where
 n:=e.n+f.n
 agg:=true
 n1 h:=by cases h
 p S x cs w:=∃c d,cs=c++d/\e.p S x.1 c w/\f.p S x.2 d w
 len:=fun⟨c,d,h,hc,hd⟩=>by rw[h,O1,e.len hc,f.len hd]
 one:=fun⟨c,d,h,hc,hd⟩ x hx=>by
  rw[h]at hx;rcases OX.1 hx with hx|hx
  ·exact e.one hc x hx
  ·exact f.one hd x hx
 keep:=fun⟨c,d,h,hc,hd⟩ k=>⟨c,d,h,e.keep hc k,f.keep hd k⟩
 sub:=fun⟨c,d,h,hc,hd⟩ k=>⟨c,d,h,e.sub hc k,f.sub hd k⟩
def eA{α:Type}(k:Nat)(e:zv α):zv (List α)where
 n:=k*e.n
 agg:=true
 n1 h:=by cases h
 p S xs cs w:=xs.length=k/\zX e S xs cs w
 len:=fun⟨h,he⟩=>by rw[he.len,h]
 one:=fun⟨_,he⟩=>he.one
 keep:=fun⟨h,he⟩ k=>⟨h,he.keep k⟩
 sub:=fun⟨h,he⟩ k=>⟨h,he.sub k⟩
def fP{α:Type}(e:zv α)(x:α)(v:Value):FF where
 p S w:=∃b o cs,v=.pointer (some ⟨b,o,none⟩)/\S b/\At w b o cs/\e.p S x cs w
 keep:=fun⟨b,o,cs,h1,h2,h3,h4⟩ k=>⟨b,o,cs,h1,h2,h3.keep h2 k,e.keep h4 k⟩
 sub:=fun⟨b,o,cs,h1,h2,h3,h4⟩ k=>⟨b,o,cs,h1,k b h3.1 h2,h3,e.sub h4 k⟩
structure X1(α:Type)where
 p:(Nat->Prop)->α->List Value->World->Prop
 keep:∀{S x cs w w'},p S x cs w->zH S w w'->p S x cs w'
 sub:∀{S S':Nat->Prop}{x cs w},p S x cs w->(∀k,k<w.heap.size->S k->S' k)->p S' x cs w
def zv.c{α:Type}(e:zv α):X1 α:=⟨e.p,e.keep,e.sub⟩
def Ht{α:Type}(e:zv α):X1 (List α):=⟨zX e,fun h k=>h.keep k,fun h k=>h.sub k⟩
def mB{α:Type}(e:X1 α)(E:TypeId)(b:Nat)(x:α):MF where
 blk k:=some b=some k
 p S w:=∃cs:Array Value,w.heap[b]? =some (.cells cs E (0,0))/\e.p S x cs.toList w
 keep:=fun⟨cs,h1,h2⟩ k hb=>⟨cs,by rw[hb b rfl];exact h1,e.keep h2 k⟩
 sub:=fun⟨cs,h1,h2⟩ k=>⟨cs,h1,e.sub h2 k⟩
 lt:=fun⟨cs,h1,_⟩ k hk=>by cases hk;exact(Ph.1 h1).1
abbrev mR{α:Type}(e:zv α)(E:TypeId)(b:Nat)(xs:List α):MF:=mB (Ht e) E b xs
def mO{α:Type}(e:zv α)(E:TypeId)(v:Value)(xs:List α):MF where
 blk k:=v.ownBlock=some k
 p S w:=∃cs,w.ownsRow 0 E e.n v xs.length cs/\zX e S xs cs w
 keep:=fun⟨cs,h1,h2⟩ k hb=>by
  refine⟨cs,⟨h1.1,?_⟩,h2.keep k⟩;rcases h1.2 with h|⟨g,cap,cur,hv,hbg,hg,r⟩
  ·exact .inl h
  ·exact .inr ⟨g,cap,cur,hv,hbg,by rw[hb g<|by rw[hv];rfl];exact hg,r⟩
 sub:=fun⟨cs,h1,h2⟩ k=>⟨cs,h1,h2.sub k⟩
 lt:=fun⟨cs,h1,_⟩ k hk=>(h1.lt k hk).2
section
variable{α:Type}{e:zv α}{E:TypeId}{S S':Nat->Prop}{w:World}
theorem gq.of_at{xs:List α}{b o n cap:Nat}{cs:List Value}(hS:S b)(ha:At w b o cs)(he:zX e S xs cs w)(hn:n=xs.length)(hc:xs.length<=cap)(hm:cap<=maxLen):
 gq e S xs (.slice (some ⟨b,o,none⟩) n cap) w:=⟨_,cap,by rw[hn],hc,hm,.inr ⟨b,o,cs,rfl,hS,ha,he⟩⟩
theorem gq.nil:gq e S [] (.slice none 0 0) w:=⟨none,0,rfl,O3 _,PF _,.inl rfl⟩
theorem Fo{x:α}{b:Nat}(hs:∀k,S k->S' k)(hb:S' b)(h:(mB e.c E b x).p S w):(fP e x (.pointer<|some ⟨b,0,none⟩)).p S' w:=by
 obtain⟨cs,h1,h2⟩:=h;exact⟨b,0,cs.toList,rfl,hb,At.row h1,e.sub h2 fun k _=>hs k⟩
theorem XD{xs:List α}{v:Value}(hs:∀k,S k->S' k)(hb:∀k,v.ownBlock=some k->S' k)(h:(mO e E v xs).p S w):(fV (eS e) xs v).p S' w:=by
 obtain⟨cs,h1,h2⟩:=h;refine yX.2 ?_;rcases h1.2 with⟨rfl,h0⟩|⟨g,cap,cur,rfl,hd,hg,ha,hm,he,hc⟩
 ·have:xs=[]:=Pn h0;subst this;exact gq.nil
 ·refine gq.of_at (hb g rfl) ((At.row hg).take<|xs.length*e.n) ?_ rfl ha hm;rw[hc];exact h2.sub fun k _=>hs k
end
end
section
def xX(P:Program)(o:Oper)(env:yb)(w:World)(K:Value->World->Prop):Prop:=
 match(execOp (ev env) o).run P w with
 |.ok (.value v) w'=>K v w'
 |.ok .skip w'=>K undef w'
 |.ok (.enter f args) w'=>Calls P f args w' (fun e w''=>∃v,e=.returned v/\K v w'')
 |.ok (.round l f ts a c) w'=>RoundIn Rq 0 P l f ts a c w' (fun e w''=>∃v,e=.returned v/\K v w'')
 |_=>False
theorem EB{ro:Option Nat}{ρ:Operand->Value}{o:Oper}{P:Program}{w:World}(h:∀d w',(execOp ρ o).run P w≠ .ok (.defer d) w')(h2:∀r w',(execOp ρ o).run P w≠ .halt r w'):(o.semAt ro ρ).run P w=(execOp ρ o).run P w:=by
 by_cases hd:∃c,o.op=.defer c
 ·obtain⟨c,hc⟩:=hd;exfalso
  cases hr:(execOp ρ o).run P w with
  |halt r w'=>exact h2 r w' hr
  |ok x w'=>
   unfold execOp at hr;rw[hc]at hr;simp only[O5]at hr
   cases h3:(resolve ρ c o.type).run P w with
   |halt r w1=>rw[h3]at hr;simp at hr
   |ok d w1=>
    refine h d w' ?_;unfold execOp;simp_all
 ·rw[Oper.semAt_eq _ _ _ fun c hc=>hd ⟨c,hc⟩]
theorem xX.wp{P:Program}{o:Oper}{a:Act}{w:World}{K:Value->World->Prop}{K':Act->World->Prop}{Q:Exit->Act->World->Prop}{N:Nd}
 (h:xX P o (zg a) w K) (hk:∀v w',K v w'->K' (a.put o.dst v) w'):o.wpIn N.F 0 P a w K' Q:=by
 unfold xX at h;refine⟨fun _ _=>trivial,?_⟩;have hs:=EB (ro:=N.rd) (fun d w' e=>by rw[e]at h;exact h) (fun r w' e=>by rw[e]at h;exact h);rw[uj];rw[hs];generalize(execOp (ev<|zg a) o).run P w=r at*
 cases r with
 |ok n w'=>
  cases n<;>simp only at h<;>simp only[Oper.uponIn]
  case value v=>exact hk _ _ h
  case skip=>exact hk _ _ h
  case enter f args=>exact⟨fun e=>by simp[Rq]at e,CallsIn.mono (callsIn_wide.2 h) fun e w'' ⟨v,he,hv⟩=>by subst he;exact hk _ _ hv⟩
  case round l f ts s c=>exact⟨fun e=>by simp[Rq]at e,RoundIn.mono h fun e w'' ⟨v,he,hv⟩=>by subst he;exact hk _ _ hv⟩
 |halt x w'=>exact h.elim
theorem xX.mono{P:Program}{o:Oper}{env:yb}{w:World}{K K':Value->World->Prop}(h:xX P o env w K)(hk:∀v w',K v w'->K' v w'):xX P o env w K':=by
 unfold xX at*
 generalize(execOp (ev env) o).run P w=r at*
 cases r with
 |ok n w'=>
  cases n<;>simp only at h⊢
  case value v=>exact hk _ _ h
  case skip=>exact hk _ _ h
  case enter f args=>exact h.mono fun e w'' ⟨v,he,hv⟩=>⟨v,he,hk _ _ hv⟩
  case round l f ts s c=>exact h.mono fun e w'' ⟨v,he,hv⟩=>⟨v,he,hk _ _ hv⟩
 |halt x w'=>exact h.elim
theorem xX.of_value{P:Program}{o:Oper}{env:yb}{w w':World}{v:Value}{K:Value->World->Prop}(h:(execOp (ev env) o).run P w=.ok (.value v) w')(hk:K v w'):xX P o env w K:=by
 unfold xX;rw[h];exact hk
theorem xX.of_skip{P:Program}{o:Oper}{env:yb}{w w':World}{K:Value->World->Prop}(h:(execOp (ev env) o).run P w=.ok .skip w')(hk:K undef w'):xX P o env w K:=by
 unfold xX;rw[h];exact hk
def gd(ops:Array Oper)(env:yb)(j:Nat):Option Bool:=
 match(ops[j]?).bind (·.dst)with
 |some d=>match env d with
  |.bool b=>some b
  |_=>none
 |none=>none
def zG(ops:Array Oper)(env:yb)(o:Oper):Bool:=
 match o.guard with
 |none=>true
 |some (j,want)=>gd ops env j==some want
theorem eG(ops:Array Oper)(a:Act)(j:Nat):yielded ops a.tmps j=gd ops (zg a) j:=by
 unfold yielded gd zg
 cases(ops[j]?).bind (·.dst)with
 |none=>rfl
 |some d=>
  simp only[Option.bind_some,Px]
  cases a.tmps[d]? with
  |none=>rfl
  |some v=>cases v<;>rfl
theorem jh(ops:Array Oper)(a:Act)(o:Oper):Region.wanted o (yielded ops a.tmps)=zG ops (zg a) o:=by grind [Region.wanted,zG,eG]
def xr(N:Nat):Option Tmp->Bool
 |some d=>RA d N
 |none=>true
theorem uK{N:Nat}{d:Option Tmp}(h:xr N d=true):∀t,d=some t->t<N:=by
 rintro t rfl;simpa[xr]using h
def Aq(P:Program)(N:Nd)(ops:Array Oper)(l:List Oper)(Q:Qs)(env:yb)(w:World):Prop:=
 ∀a:Act,a.tmps.size=N.n->a.defers=N.ds->zg a=env->wpListIn N.F 0 P ops (lY N Q) l a w
def TL(P:Program)(N:Nd)(we:World)(Se:Nat->Prop)(ms:List MF)(Γ:List FF)(ops:Array Oper)(l:List Oper)(Q:Qs)(env:yb):Prop:=
 ∀w,St we Se ms Γ w->Aq P N ops l Q env w
def ah{U:Type}(P:Program)(o:Oper)(env:yb)(ms:List MF)(Γ:List FF)(val:U->Value)(facts:U->List FF)(ok:U->Prop):Prop:=
 ∀w (S:Nat->Prop),Tl w S->z7 S ms w->ze S Γ w->xX P o env w (fun v w'=>∃u,v=val u/\ok u/\jA w w'/\ze S (facts u) w')
section
variable{P:Program}{N:Nd}{we:World}{Se:Nat->Prop}{ms:List MF}{Γ:List FF}{Q:Qs}{env:yb}{ops:Array Oper}{o:Oper}{rest:List Oper}
theorem zR{id:Nat}{l:List Oper}(h:TL P N we Se ms Γ l.toArray l Q env):T P N we Se ms Γ (.region id l.toArray false) Q env:=
 fun w hw a h1 h2 h3=>wpIn_region_lit<|h w hw a h1 h2 h3
theorem yz(h:∀w,St we Se ms Γ w->Q .normal env w):TL P N we Se ms Γ ops [] Q env:=
 fun w hw _ h1 h2 h3=>wpListIn_nil ⟨h1,h2,h3▸h w hw⟩
theorem Ub{c:Code}{Q':Qs}(h:T P N we Se ms Γ c Q' env):TL P N we Se ms Γ ops [] (nC (Wp P N c Q') Q) env:=yz h
theorem bM(Γ':List FF){c:Code}(hs:∀(S:Nat->Prop) (w:World),ze S Γ w->ze S Γ' w)(k:T P N we Se ms Γ' c Q env):T P N we Se ms Γ c Q env:=
 fun w hw=>k w<|hw.weak hs
theorem K4{p:Prop}{l:List Oper}(hp:∀(S:Nat->Prop) (w:World),ze S Γ w->p)(k:p->TL P N we Se ms Γ ops l Q env):TL P N we Se ms Γ ops l Q env:=
 fun w hw=>let⟨S,_,h⟩:=hw.ex;k (hp S w h) w hw
theorem sX{p:Prop}{c:Code}(hp:∀(S:Nat->Prop) (w:World),ze S Γ w->p)(k:p->T P N we Se ms Γ c Q env):T P N we Se ms Γ c Q env:=
 fun w hw=>let⟨S,_,h⟩:=hw.ex;k (hp S w h) w hw
theorem jS(hw:zG ops env o=true)(hd:xr N.n o.dst=true)
 (h:∀w,St we Se ms Γ w->xX P o env w (fun v w'=>Aq P N ops rest Q (put env o.dst v) w')):TL P N we Se ms Γ ops (o::rest) Q env:=by
 intro w ha a h1 h2 h3;subst h3;unfold wpListIn;rw[iq<|by rw[jh];exact hw];refine(h w ha).wp fun v w' hk=> ?_;exact hk _ (by rw[kJ];exact h1) (by rw[qy];exact h2)<|qE<|by rw[h1];exact uK hd
theorem EF(hw:zG ops env o=false)(hd:xr N.n o.dst=true)(k:TL P N we Se ms Γ ops rest Q (put env o.dst undef)):TL P N we Se ms Γ ops (o::rest) Q env:=by
 intro w ha a h1 h2 h3;subst h3;unfold wpListIn;rw[ir<|by rw[jh,hw];exact Pa];exact⟨fun _ _=>trivial,k w ha _ (by rw[kJ];exact h1) (by rw[qy];exact h2)<|qE<|by rw[h1];exact uK hd⟩
theorem jY{U:Type}{val:U->Value}{facts:U->List FF}{ok:U->Prop}(hw:zG ops env o=true)(hd:xr N.n o.dst=true)
 (h:ah P o env ms Γ val facts ok) (k:∀u,ok u->TL P N we Se ms (facts u++Γ) ops rest Q (put env o.dst<|val u)):TL P N we Se ms Γ ops (o::rest) Q env:=by
 refine jS hw hd fun w ha=> ?_;obtain⟨h1,h2,h3,S,h4,h5,h6,h7,h8⟩:=ha;refine(h w S (h2.at h1 h5) h7 h8).mono ?_;rintro v w' ⟨u,rfl,hu,x,hf⟩
 exact k u hu w' ⟨h1.trans x,h2,h3,S,h4,fun k hk=>h5 k<|Pz x.size hk,h6,
  z7.keep x.to (fun m hm i hi=>x.block i (z7.lt h7 m hm i hi) trivial) h7,ze.append hf<|ze.keep x.to h8⟩
theorem xw{v:Value}(hw:zG ops env o=true)(hd:xr N.n o.dst=true)(h:∀w,(execOp (ev env) o).run P w=.ok (.value v) w)
 (k:TL P N we Se ms Γ ops rest Q (put env o.dst v)):TL P N we Se ms Γ ops (o::rest) Q env:=
 jS hw hd fun w ha=>xX.of_value (h w)<|k w ha
end
def OG{ι:Type}(P:Program)(o:Oper)(env:yb)(we:World)(Se:Nat->Prop)(ms:List MF)(Γ:List FF)(val:ι->Value)(ms':ι->List MF)(Γ':ι->List FF)(ok:ι->Prop):Prop:=
 ∀w,St we Se ms Γ w->xX P o env w (fun v w'=>∃i,v=val i/\ok i/\St we Se (ms' i) (Γ' i) w')
section
variable{P:Program}{N:Nd}{we:World}{Se:Nat->Prop}{ms:List MF}{Γ:List FF}{Q:Qs}{env:yb}{ops:Array Oper}{o:Oper}{rest:List Oper}
theorem Ic{ι:Type}{val:ι->Value}{ms':ι->List MF}{Γ':ι->List FF}{ok:ι->Prop}(hw:zG ops env o=true)(hd:xr N.n o.dst=true)(h:OG P o env we Se ms Γ val ms' Γ' ok)
 (k:∀i,ok i->TL P N we Se (ms' i) (Γ' i) ops rest Q (put env o.dst<|val i)):TL P N we Se ms Γ ops (o::rest) Q env:=
 jS hw hd fun w ha=>(h w ha).mono fun v w' ⟨i,e,hi,hs⟩=>e▸k i hi w' hs
theorem cX{U:Type}{val:U->Value}{facts:U->List FF}{ok:U->Prop}(h:ah P o env ms Γ val facts ok):OG P o env we Se ms Γ val (fun _=>ms) (fun u=>facts u++Γ) ok:=by
 intro w ⟨h1,h2,h3,S,h4,h5,h6,h7,h8⟩;refine(h w S (h2.at h1 h5) h7 h8).mono ?_;rintro v w' ⟨u,e,hu,x,hf⟩
 exact⟨u,e,hu,h1.trans x,h2,h3,S,h4,fun k hk=>h5 k<|Pz x.size hk,h6,
  z7.keep x.to (fun m hm i hi=>x.block i (z7.lt h7 m hm i hi) trivial) h7,ze.append hf<|ze.keep x.to h8⟩
end
def pv(o:Oper)(env:yb):Option Value:=
 match o.op with
 |.move x|.assign x=>some<|ev env x
 |.extract t i=>match ev env t with
  |.tuple vs=>vs[i]?
  |_=>none
 |.pick c a b=>match ev env c with
  |.bool t=>some<|bif t then ev env a else ev env b
  |_=>none
 |.unOp .not _ x=>match ev env x with
  |.bool t=>some (.bool !t)
  |_=>none
 |.makeFunc f first captured=>some (.func f (first.map<|ev env)<|captured.map<|ev env)
 |_=>none
theorem Yq{P:Program}{o:Oper}{env:yb}{v:Value}(h:pv o env=some v)(w:World):(execOp (ev env) o).run P w=.ok (.value v) w:=by
 unfold pv at h;unfold execOp;split at h
 ·simp_all
 ·simp_all
 ·next t i e=>
  simp only[e];split at h
  ·next vs hv=>simp[hv,Instr.extract,h]
  ·cases h
 ·next c a b e=>
  simp only[e];split at h
  ·next t ht=>cases h;cases t<;>simp[ht,asBool]
  ·cases h
 ·next ty x e=>
  simp only[e];split at h
  ·next t ht=>cases h;simp[ht,Op.unary]
  ·cases h
 ·next f a b e=>cases h;simp[e,Instr.makeFunc]
 ·cases h
def KA(N:Nat)(ops:Array Oper):List Oper->yb->Option yb
 |[],env=>some env
 |o::r,env=>bif xr N o.dst then(bif zG ops env o then(match pv o env with
  |some v=>KA N ops r<|put env o.dst v
  |none=>none)else(match o.guard with
  |some (j,want)=>bif gd ops env j==some (!want)then KA N ops r (put env o.dst undef)else none
  |none=>none))else none
section
variable{P:Program}{N:Nd}{we:World}{Se:Nat->Prop}{ms:List MF}{Γ:List FF}{Q:Qs}{ops:Array Oper}
theorem Xl:∀(l:List Oper) (l':List Oper) (env env':yb),KA N.n ops l env=some env'->TL P N we Se ms Γ ops l' Q env'->TL P N we Se ms Γ ops (l++l') Q env
 |[],_,env,env',h,k=>by cases h;exact k
 |o::r,l',env,env',h,k=>by
  unfold KA at h;cases hd:xr N.n o.dst
  ·simp_all
  ·rw[hd]at h;cases hw:zG ops env o
   ·rw[hw]at h;simp only[cond_false]at h;split at h
    ·next j want hg=>
     cases hb:(gd ops env j==some (!want))
     ·simp_all
     ·rw[hb]at h;exact EF hw hd<|Xl r l' _ _ h k
    ·cases h
   ·rw[hw]at h
    cases hp:pv o env with
    |none=>rw[hp]at h;cases h
    |some v=>rw[hp]at h;exact xw hw hd (fun w=>Yq hp w)<|Xl r l' _ _ h k
end
structure jJ(P:Program)(t:TypeId)(agg:Bool)(size bytes:Nat)(zero:Value):Prop where
 und:∃d,P.underlying t=some d/\(match d with|.struct _|.array _ _=>true|_=>false)=agg
 info:∃i,P.info? t=some i/\i.size=size/\i.bytes=bytes/\i.zero=some zero
def Hl(P:Program)(t:TypeId):Option (Bool×Nat×Nat×Option Value):=
 match P.underlying t,P.info? t with
 |some d,some i=>some ((match d with|.struct _|.array _ _=>true|_=>false),i.size,i.bytes,i.zero)
 |_,_=>none
theorem jJ.of{P:Program}{t:TypeId}{agg:Bool}{size bytes:Nat}{zero:Value}(h:Hl P t=some (agg,size,bytes,some zero)):jJ P t agg size bytes zero:=by
 unfold Hl at h;split at h
 ·next d i hd hi=>
  simp only[O6,Tj]at h;exact⟨⟨d,hd,h.1⟩,i,hi,h.2.1,h.2.2.1,h.2.2.2⟩
 ·cases h
theorem xH(b o j:Nat):(⟨b,o,none⟩:Addr).add j=⟨b,o+j,none⟩:=by unfold Addr.add;split<;>simp_all
theorem JK{P:Program}{t:TypeId}{agg:Bool}{size bytes:Nat}{zero:Value}(ht:jJ P t agg size bytes zero)(w:World):(isAgg t).run P w=.ok agg w:=by
 obtain⟨⟨d,hd,hm⟩,_⟩:=ht;unfold isAgg;simp only[O5,run_underlying hd];cases d<;>simp_all
theorem xh{P:Program}{t:TypeId}{agg:Bool}{size bytes:Nat}{zero:Value}(ht:jJ P t agg size bytes zero)(w:World):(sizeOf t).run P w=.ok size w:=by
 obtain⟨_,i,hi,h1,_⟩:=ht;simp[sizeOf,typeInfo,hi,h1]
theorem vt{P:Program}{t:TypeId}{agg:Bool}{size bytes:Nat}{zero:Value}(ht:jJ P t agg size bytes zero)(w:World):(zeroValue t).run P w=.ok zero w:=by
 obtain⟨_,i,hi,_,_,h1⟩:=ht;simp[zeroValue,typeInfo,hi,h1]
theorem U4{P:Program}{α:Type}{e:zv α}{t:TypeId}{bytes:Nat}{zero:Value}(ht:jJ P t e.agg e.n bytes zero){w w0:World}{b o:Nat}{cs:List Value}{S:Nat->Prop}{x:α}
 (hp:e.p S x cs w0) (ha:At w b o cs):(loadVar t ⟨b,o,none⟩).run P w=.ok (e.val cs) w:=by
 unfold loadVar;rw[O5,JK ht];cases hb:e.agg
 ·have hl:=e.len hp;rw[e.n1 hb]at hl;obtain⟨c,rfl⟩:=P2.1 hl;have:=ha.2 0 c rfl;simp only[Sl]at this;simp[this,zv.val,hb]
 ·have hl:=e.len hp;have hc:=run_loadCells_list (P:=P) w ⟨b,o,none⟩ cs (fun j v hv=>by rw[xH];exact ha.2 j v hv);rw[hl]at hc;simp[xh ht,hc,zv.val,hb]
theorem Yh{P:Program}{α:Type}{e:zv α}{t:TypeId}{bytes:Nat}{zero:Value}(ht:jJ P t e.agg e.n bytes zero){w:World}{b o:Nat}{cs:List Value}{S:Nat->Prop}{x:α}
 (hp:e.p S x cs w) (ha:At w b o cs):(loadVar t ⟨b,o,none⟩).run P w=.ok (e.val cs) w:=U4 ht hp ha
section
variable{P:Program}{env:yb}{ms:List MF}{Γ:List FF}{d:Option Tmp}{ty:TypeId}{pos:String}{aft:Array Edge}{g:Option (Nat×Bool)}
theorem GG{α:Type}{e:zv α}{xs:List α}{v:Value}{x:Operand}{at_ et:TypeId}(hu:P.underlying at_=some (.slice et))(hx:ev env x=v)(hf:∀(S:Nat->Prop) (w:World),ze S Γ w->(fV (eS e) xs v).p S w):
 ah P ⟨d,.call ⟨.builtin .len,#[x],#[at_]⟩,ty,pos,aft,g⟩ env ms Γ (fun _:Unit=> .int .i64 (xs.length:Int)) (fun _=>[]) (fun _=>xs.length<=9223372036854775807):=by
 intro w S _ _ hΓ;obtain⟨ao,cap,hv,hc,hm,_⟩:=yX.1<|hf S w hΓ;refine xX.of_value ?_ ⟨(),rfl,Pz hc hm,zH.refl _ _,trivial⟩;simp[execOp,resolve,invoke,builtin,hx,hv,Builtin.len_,goInt,run_underlying hu]
theorem cz{α:Type}{e:zv α}{t et:TypeId}{bytes:Nat}{zero:Value}(ht:P.underlying t=some (.slice et))(ha:jJ P et e.agg e.n bytes zero){w:World}{b o n cap k:Nat}
 (hk:k<n) (ik:IntKind):(Instr.indexAt t (.slice (some ⟨b,o,none⟩) n cap) (.int ik (k:Int))).run P w=.ok (.pointer<|some ⟨b,o+k*e.n,none⟩) w:=by
 unfold Instr.indexAt;have:(0:Int)<=k/\(k:Int)<n:=by lia
 simp only[asIntOf,run_underlying ht,O5,Pg,O0,iq this,xh ha,xH,Ry]
theorem ny{α:Type}{e:zv α}{xs:List α}{v:Value}{x i:Operand}{t et:TypeId}{bytes:Nat}{zero:Value}{k:Nat}{y:α}{ik:IntKind}(hx:ev env x=v)(hi:ev env i=.int ik (k:Int))
 (ht:P.underlying t=some (.slice et)) (hb:jJ P et e.agg e.n bytes zero) (hy:xs[k]? =some y) (hf:∀(S:Nat->Prop) (w:World),ze S Γ w->(fV (eS e) xs v).p S w):
 ah P ⟨d,.indexAddr t x i,ty,pos,aft,g⟩ env ms Γ (fun p:Value=>p) (fun p=>[fP e y p]) (fun _=>True):=by
 intro w S _ _ hΓ;obtain⟨ao,cap,hv,h1,h2,h3⟩:=yX.1<|hf S w hΓ;have hk:=(O4.1 hy).1;rcases h3 with rfl|⟨b,o,cs,rfl,hS,ha,he⟩
 ·grind
 ·refine xX.of_value (v:=.pointer<|some ⟨b,o+k*e.n,none⟩) ?_ ⟨_,rfl,trivial,zH.refl _ _,⟨⟨b,o+k*e.n,?_⟩,trivial⟩⟩
  ·simp[execOp,hx,hi,hv,cz ht hb hk]
  ·obtain⟨c,hc,hj⟩:=he.get hy;refine⟨c,rfl,hS,⟨ha.1,fun j v hv=> ?_⟩,hc⟩;have hd:j<e.n:=by rw[<-e.len hc];exact(O4.1 hv).1
   rw[R9];exact ha.2 _ v<|by rw[hj j hd];exact hv
theorem XN{α:Type}{e:zv α}{y:α}{p:Value}{x:Operand}{t:TypeId}{bytes:Nat}{zero:Value}(hx:ev env x=p)(ht:jJ P t e.agg e.n bytes zero)
 (hf:∀(S:Nat->Prop) (w:World),ze S Γ w->(fP e y p).p S w):
 ah P ⟨d,.load t x,ty,pos,aft,g⟩ env ms Γ (fun v:Value=>v) (fun v=>[fV e y v]) (fun _=>True):=by
 intro w S _ _ hΓ;obtain⟨b,o,cs,rfl,hS,ha,he⟩:=hf S w hΓ;refine xX.of_value ?_ ⟨_,rfl,trivial,zH.refl _ _,⟨⟨cs,rfl,he⟩,trivial⟩⟩;simp[execOp,hx,Instr.loadAt,S5,Yh ht he ha]
theorem bY{α:Type}{e:zv α}{xs:List α}{v:Value}{x:Operand}{lo hi:Option Operand}{t et:TypeId}{bytes:Nat}{zero:Value}{l h:Nat}(hx:ev env x=v)
 (ht:P.underlying t=some (.slice et)) (hg:jJ P et e.agg e.n bytes zero) (hl:(lo.map<|ev env)=some (.int .i64 (l:Int))\/(lo=none/\l=0)) (hh:(hi.map<|ev env)=some (.int .i64 (h:Int))\/(hi=none/\h=xs.length))
 (hj:l<=h) (hk:h<=xs.length) (hf:∀(S:Nat->Prop) (w:World),ze S Γ w->(fV (eS e) xs v).p S w):
 ah P ⟨d,.slice t x lo hi none,ty,pos,aft,g⟩ env ms Γ (fun p:Value=>p) (fun p=>[fV (eS e) ((xs.drop l).take<|h-l) p]) (fun _=>True):=by
 intro w S _ _ hΓ;obtain⟨ao,cap,hv,h1,h2,h3⟩:=yX.1<|hf S w hΓ;have b1:(0:Int)<=(l:Int)/\(l:Int)<=(h:Int):=by lia
 have b2:(0:Int)<=(h:Int)/\(h:Int)<=(cap:Int):=by lia
 have hd:(RH t v (lo.map<|ev env) (hi.map<|ev env) none).run P w=.ok (.slice (if cap=l then ao else ao.map (·.add (l*e.n))) (h-l)<|cap-l) w:=by
  unfold RH;rw[hv];simp only[O5,run_underlying ht,O0];unfold TW;simp only[O5,run_underlying ht,O0];unfold Sw
  rcases hl with hl|⟨hl,rfl⟩<;>rcases hh with hh|⟨hh,rfl⟩<;>
   simp only[hl,hh,SE,asIntOf,Option.map_none,O5,Pg,O0,iq b1,iq b2,xh hg,Ry]
 refine xX.of_value (w':=w) (v:=.slice (if cap=l then ao else ao.map (·.add (l*e.n))) (h-l)<|cap-l) ?_ ⟨_,rfl,trivial,zH.refl _ _,⟨?_,trivial⟩⟩
 ·simp[execOp,hx,hd]
 ·have hb:((xs.drop l).take<|h-l).length=h-l:=by simp;lia
  refine yX.2 ⟨_,cap-l,by rw[hb],by rw[hb];lia,by lia,?_⟩;rcases h3 with rfl|⟨b,o,cs,rfl,hS,ha,he⟩
  ·left;simp
  ·by_cases hc:cap=l
   ·left;have:h-l=0:=by lia
    simp[this]
   ·right;refine⟨b,o+l*e.n,(cs.drop<|l*e.n).take<|(h-l)*e.n,by simp[hc,xH],hS,(ha.drop _).take _,(he.drop l).take<|h-l⟩
end
end
section
section
variable{P:Program}{env:yb}{Γ:List FF}{d:Option Tmp}{ty yt t:TypeId}{pos:String}{aft:Array Edge}{g:Option (Nat×Bool)}{x y:Operand}
theorem Df{x:Int}(h: -9223372036854775808<=x/\x<=9223372036854775807):RJ.wrap x=x:=IntWalk.i64_in x h
theorem Nt(n:Nat):P0.wrap (n:Int)=((n%18446744073709551616:Nat):Int):=by
 rfl
theorem YF{n:Nat}(h:n<18446744073709551616):P0.wrap (n:Int)=(n:Int):=by rw[Nt,PT h]
theorem QY(x:Int):P0.wrap x=x%18446744073709551616:=by
 rfl
theorem XB{op:BinOp}{k:IntKind}{a b:Int}{v:Value}(hx:ev env x=.int k a)(hy:ev env y=.int k b)(hv:∀w,(binOp op t (.int k a) (.int k b)).run P w=.ok v w)(w:World):
 (execOp (ev env) ⟨d,.binOp op t x y yt,ty,pos,aft,g⟩).run P w=.ok (.value v) w:=by
 have:(eqGuard op t x y (.int k a) (.int k b)).run P w=.ok () w:=by
  unfold eqGuard;simp_all
 simp only[execOp,hx,hy,O5,this,O0,hv,Pg]
theorem Vp{k:IntKind}{a b c:Int}(hx:ev env x=.int k a)(hy:ev env y=.int k b)(hc:k.wrap (a+b)=c)(w:World):
 (execOp (ev env) ⟨d,.binOp .add t x y yt,ty,pos,aft,g⟩).run P w=.ok (.value (.int k c)) w:=
 XB hx hy (fun w=>by simp[binOp,Op.intArith,hc]) w
theorem rP{k:IntKind}{a b c:Int}(hx:ev env x=.int k a)(hy:ev env y=.int k b)(hc:k.wrap (a-b)=c)(w:World):
 (execOp (ev env) ⟨d,.binOp .sub t x y yt,ty,pos,aft,g⟩).run P w=.ok (.value (.int k c)) w:=
 XB hx hy (fun w=>by simp[binOp,Op.intArith,hc]) w
theorem DK{k:IntKind}{a b c:Int}(hx:ev env x=.int k a)(hy:ev env y=.int k b)(hc:k.wrap (a*b)=c)(w:World):
 (execOp (ev env) ⟨d,.binOp .mul t x y yt,ty,pos,aft,g⟩).run P w=.ok (.value (.int k c)) w:=
 XB hx hy (fun w=>by simp[binOp,Op.intArith,hc]) w
theorem DC{k:IntKind}{a b c:Int}(hx:ev env x=.int k a)(hy:ev env y=.int k b)(h0:b≠0)(hc:k.wrap (a.tdiv b)=c)(w:World):
 (execOp (ev env) ⟨d,.binOp .quo t x y yt,ty,pos,aft,g⟩).run P w=.ok (.value (.int k c)) w:=
 XB hx hy (fun w=>by simp[binOp,Op.intDiv,h0,hc]) w
theorem DE{k:IntKind}{a b c:Int}(hx:ev env x=.int k a)(hy:ev env y=.int k b)(h0:b≠0)(hc:a.tmod b=c)(w:World):
 (execOp (ev env) ⟨d,.binOp .rem t x y yt,ty,pos,aft,g⟩).run P w=.ok (.value (.int k c)) w:=
 XB hx hy (fun w=>by simp[binOp,Op.intDiv,h0,hc]) w
theorem QL{k yk:IntKind}{a b c:Int}(hx:ev env x=.int k a)(hy:ev env y=.int yk b)(h0:0<=b)(hc:a.fdiv (2^(min b.toNat k.bits))=c)(w:World):
 (execOp (ev env) ⟨d,.binOp .shr t x y yt,ty,pos,aft,g⟩).run P w=.ok (.value (.int k c)) w:=by
 have:¬b<0:=by lia
 simp[execOp,hx,hy,eqGuard,binOp,Op.shift,this,hc]
theorem ib{k yk:IntKind}{a b c:Int}(hx:ev env x=.int k a)(hy:ev env y=.int yk b)(h0:0<=b)(hc:k.wrap (a*2^(min b.toNat k.bits))=c)(w:World):
 (execOp (ev env) ⟨d,.binOp .shl t x y yt,ty,pos,aft,g⟩).run P w=.ok (.value (.int k c)) w:=by
 have:¬b<0:=by lia
 simp[execOp,hx,hy,eqGuard,binOp,Op.shift,this,hc]
theorem Da{k:IntKind}{a b c:Int}(hx:ev env x=.int k a)(hy:ev env y=.int k b)(hc:k.wrap (((a%2^k.bits).toNat &&& (b%2^k.bits).toNat:Nat):Int)=c)(w:World):
 (execOp (ev env) ⟨d,.binOp .and t x y yt,ty,pos,aft,g⟩).run P w=.ok (.value (.int k c)) w:=
 XB hx hy (fun w=>by simp[binOp,Op.intBits,hc]) w
theorem Lf{k:IntKind}{a b c:Int}(hx:ev env x=.int k a)(hy:ev env y=.int k b)(hc:k.wrap (((a%2^k.bits).toNat|||(b%2^k.bits).toNat:Nat):Int)=c)(w:World):
 (execOp (ev env) ⟨d,.binOp .or t x y yt,ty,pos,aft,g⟩).run P w=.ok (.value (.int k c)) w:=
 XB hx hy (fun w=>by simp[binOp,Op.intBits,hc]) w
theorem Iz{k:IntKind}{a b c:Int}(hx:ev env x=.int k a)(hy:ev env y=.int k b)(hc:k.wrap (((a%2^k.bits).toNat^^^(b%2^k.bits).toNat:Nat):Int)=c)(w:World):
 (execOp (ev env) ⟨d,.binOp .xor t x y yt,ty,pos,aft,g⟩).run P w=.ok (.value (.int k c)) w:=
 XB hx hy (fun w=>by simp[binOp,Op.intBits,hc]) w
theorem DU{k:IntKind}{a c:Int}(hx:ev env x=.int k a)(hc:k.wrap (0-a)=c)(w:World):
 (execOp (ev env) ⟨d,.unOp .neg t x,ty,pos,aft,g⟩).run P w=.ok (.value (.int k c)) w:=by
 simp only[execOp,hx,Op.unary,Op.intArith,hc,O5,Pg,O0]
theorem jN{k k':IntKind}{src dst:TypeId}{sd:TypeDesc}{a c:Int}(hs:P.underlying src=some sd)(hd:P.underlying dst=some (.int k'))(hx:ev env x=.int k a)(hc:k'.wrap a=c)(w:World):
 (execOp (ev env) ⟨d,.convert src dst x,ty,pos,aft,g⟩).run P w=.ok (.value (.int k' c)) w:=by
 simp[execOp,hx,convert,run_underlying hs,run_underlying hd,Conv.intToInt,hc]
theorem HD{a b:Int}{ts:Array TypeId}(hx:ev env x=.int .i64 a)(hy:ev env y=.int .i64 b)(w:World):
 (execOp (ev env) ⟨d,.call ⟨.builtin .max,#[x,y],ts⟩,ty,pos,aft,g⟩).run P w=.ok (.value (.int .i64<|max a b)) w:=by
 have e:(if b>a then b else a)=max a b:=by lia
 simp only[execOp,resolve,invoke,builtin,R6,PA,RR,hx,hy,Builtin.max_,Builtin.max2,O5,Pg,O0,List.foldlM_cons,List.foldlM_nil,e]
theorem H3{a b:Int}{ts:Array TypeId}(hx:ev env x=.int .i64 a)(hy:ev env y=.int .i64 b)(w:World):
 (execOp (ev env) ⟨d,.call ⟨.builtin .min,#[x,y],ts⟩,ty,pos,aft,g⟩).run P w=.ok (.value (.int .i64<|min a b)) w:=by
 have e:(if b<a then b else a)=min a b:=by lia
 simp only[execOp,resolve,invoke,builtin,R6,PA,RR,hx,hy,Builtin.min_,Builtin.min2,O5,Pg,O0,List.foldlM_cons,List.foldlM_nil,e]
end
end
section
theorem cj{α:Type}(l:List α){n:Nat}(h:l.length<=n):l.drop n=[]:=RY h
section
variable{P:Program}{N:Nd}{we:World}{Se:Nat->Prop}{ms:List MF}{Γ:List FF}{Q:Qs}{env:yb}{ops:Array Oper}{rest:List Oper}
 {d:Option Tmp}{ty yt t:TypeId}{pos:String}{aft:Array Edge}{g:Option (Nat×Bool)}{x y:Operand}
theorem Y4{op:BinOp}{k:IntKind}{a b:Int}{c:Bool}(hx:ev env x=.int k a)(hy:ev env y=.int k b)
 (hc:∀w,(binOp op t (.int k a) (.int k b)).run P w=.ok (.bool c) w) (w:World):(execOp (ev env) ⟨d,.binOp op t x y yt,ty,pos,aft,g⟩).run P w=.ok (.value (.bool c)) w:=XB hx hy hc w
theorem fk{k:IntKind}{a b:Int}(hw:zG ops env ⟨d,.binOp .geq t x y yt,ty,pos,aft,g⟩=true)(hd:xr N.n d=true)(hx:ev env x=.int k a)(hy:ev env y=.int k b)
 (k1:b<=a->TL P N we Se ms Γ ops rest Q (put env d (.bool true))) (k2:¬b<=a->TL P N we Se ms Γ ops rest Q (put env d (.bool false))):
 TL P N we Se ms Γ ops (⟨d,.binOp .geq t x y yt,ty,pos,aft,g⟩::rest) Q env:=by
 by_cases h:b<=a
 ·exact xw hw hd (Y4 hx hy fun w=>by simp[binOp,Tk,h])<|k1 h
 ·exact xw hw hd (Y4 hx hy fun w=>by simp[binOp,Tk,h])<|k2 h
theorem Er{k:IntKind}{a b:Int}(hw:zG ops env ⟨d,.binOp .eql t x y yt,ty,pos,aft,g⟩=true)(hd:xr N.n d=true)(hx:ev env x=.int k a)(hy:ev env y=.int k b)
 (k1:a=b->TL P N we Se ms Γ ops rest Q (put env d (.bool true))) (k2:¬a=b->TL P N we Se ms Γ ops rest Q (put env d (.bool false))):
 TL P N we Se ms Γ ops (⟨d,.binOp .eql t x y yt,ty,pos,aft,g⟩::rest) Q env:=by
 by_cases h:a=b
 ·exact xw hw hd (Y4 hx hy fun w=>by simp[binOp,Tk,h])<|k1 h
 ·exact xw hw hd (Y4 hx hy fun w=>by simp[binOp,Tk,h])<|k2 h
theorem rU{k:IntKind}{a b:Int}(hx:ev env x=.int k a)(hy:ev env y=.int k b)(w:World):(execOp (ev env) ⟨d,.binOp .lss t x y yt,ty,pos,aft,g⟩).run P w=.ok (.value (.bool<|decide<|a<b)) w:=
 Y4 hx hy (fun w=>by simp[binOp,Tk]) w
theorem sE{k:IntKind}{a b:Int}(hx:ev env x=.int k a)(hy:ev env y=.int k b)(w:World):(execOp (ev env) ⟨d,.binOp .leq t x y yt,ty,pos,aft,g⟩).run P w=.ok (.value (.bool<|decide<|a<=b)) w:=
 Y4 hx hy (fun w=>by simp[binOp,Tk]) w
theorem pj{k:IntKind}{a b:Int}(hx:ev env x=.int k a)(hy:ev env y=.int k b)(w:World):(execOp (ev env) ⟨d,.binOp .gtr t x y yt,ty,pos,aft,g⟩).run P w=.ok (.value (.bool<|decide<|b<a)) w:=
 Y4 hx hy (fun w=>by simp[binOp,Tk]) w
theorem ph{k:IntKind}{a b:Int}(hx:ev env x=.int k a)(hy:ev env y=.int k b)(w:World):(execOp (ev env) ⟨d,.binOp .geq t x y yt,ty,pos,aft,g⟩).run P w=.ok (.value (.bool<|decide<|b<=a)) w:=
 Y4 hx hy (fun w=>by simp[binOp,Tk]) w
theorem sF{k:IntKind}{a b:Int}(hx:ev env x=.int k a)(hy:ev env y=.int k b)(w:World):(execOp (ev env) ⟨d,.binOp .eql t x y yt,ty,pos,aft,g⟩).run P w=.ok (.value (.bool<|decide<|a=b)) w:=
 Y4 hx hy (fun w=>by simp[binOp,Tk];by_cases h:a=b<;>simp[h]) w
theorem oH{k:IntKind}{a b:Int}(hx:ev env x=.int k a)(hy:ev env y=.int k b)(w:World):(execOp (ev env) ⟨d,.binOp .neq t x y yt,ty,pos,aft,g⟩).run P w=.ok (.value (.bool (!decide (a=b)))) w:=
 Y4 hx hy (fun w=>by simp[binOp,Tk];by_cases h:a=b<;>simp[h]) w
theorem Yz{a b:Bool}(ht:P.underlying t=some .bool)(w:World):(Op.equal t (.bool a) (.bool b)).run P w=.ok (a==b) w:=by
 show(Op.equalIn (9999+1) t (.bool a) (.bool b)).run P w=_;unfold Op.equalIn;simp only[O5,run_underlying ht,O0,Pg]
theorem HL{a b:Bool}(ht:P.underlying t=some .bool)(hx:ev env x=.bool a)(hy:ev env y=.bool b)(w:World):
 (execOp (ev env) ⟨d,.binOp .eql t x y yt,ty,pos,aft,g⟩).run P w=.ok (.value (.bool<|a==b)) w:=by
 have h:(eqGuard .eql t x y (.bool a) (.bool b)).run P w=.ok () w:=by simp[eqGuard]
 have h2:(binOp .eql t (.bool a) (.bool b)).run P w=.ok (.bool<|a==b) w:=by simp only[binOp,O5,Yz ht,O0,Pg]
 simp only[execOp,hx,hy,O5,h,h2,O0,Pg]
theorem IZ{a b:Bool}(ht:P.underlying t=some .bool)(hx:ev env x=.bool a)(hy:ev env y=.bool b)(w:World):
 (execOp (ev env) ⟨d,.binOp .neq t x y yt,ty,pos,aft,g⟩).run P w=.ok (.value (.bool (!(a==b)))) w:=by
 have h:(eqGuard .neq t x y (.bool a) (.bool b)).run P w=.ok () w:=by simp[eqGuard]
 have h2:(binOp .neq t (.bool a) (.bool b)).run P w=.ok (.bool (!(a==b))) w:=by simp only[binOp,O5,Yz ht,O0,Pg]
 simp only[execOp,hx,hy,O5,h,h2,O0,Pg]
def Y1(P:Program)(f:FuncId):Bool:=match P.funcs[f]? with
 |some fn=> !(fn.name== "runtime.NumGoroutine") && fn.body.isSome
 |none=>false
theorem xg{f:FuncId}(h:Y1 P f=true)(args:Array Value)(w:World):(callFunc f args).run P w=.ok (.enter f args) w:=by
 unfold Y1 at h;unfold callFunc;split at h
 ·next fn hf=>
  simp only[IR,Rj]at h;have h2:fn.body.isNone=false:=by simpa using h.2
  simp only[O5,run_program,O0,hf,h.1,h2,Pd,if_false,Pg]
 ·cases h
theorem Mc{U:Type}{val:U->Value}{facts:U->List FF}{ok:U->Prop}{Γc:List FF}{f:FuncId}{aas:List Operand}{ts:Array TypeId}{args:List Value}(hb:Y1 P f=true)
 (hf:Fn P f args.toArray Γc val facts ok) (ha:aas.map (ev env)=args) (hs:∀(S:Nat->Prop) (w:World),ze S Γ w->ze S Γc w):
 ah P ⟨d,.call ⟨.value (.func f),aas.toArray,ts⟩,ty,pos,aft,g⟩ env ms Γ val facts ok:=by
 intro w S hS _ hΓ;unfold xX;have:(execOp (ev env) ⟨d,.call ⟨.value (.func f),aas.toArray,ts⟩,ty,pos,aft,g⟩).run P w=.ok (.enter f args.toArray) w:=by simp[execOp,resolve,ev,Rn,invoke,xg hb,ha]
 rw[this];exact(hf w S hS<|hs S w hΓ).mono fun e w' ⟨u,he,hu,hx,hc⟩=>⟨val u,he,u,rfl,hu,hx,hc⟩
theorem XG{U:Type}{val:U->Value}{facts:U->List FF}{ok:U->Prop}{Γc:List FF}{f:FuncId}{aas:List Operand}{ts:Array TypeId}{args Zt:List Value}{x:Operand}(hb:Y1 P f=true)
 (hx:ev env x=.func (.func f) #[] Zt.toArray) (hf:Fn P f (args++Zt).toArray Γc val facts ok) (ha:aas.map (ev env)=args) (hs:∀(S:Nat->Prop) (w:World),ze S Γ w->ze S Γc w):
 ah P ⟨d,.call ⟨.value x,aas.toArray,ts⟩,ty,pos,aft,g⟩ env ms Γ val facts ok:=by
 intro w S hS _ hΓ;unfold xX;have:(execOp (ev env) ⟨d,.call ⟨.value x,aas.toArray,ts⟩,ty,pos,aft,g⟩).run P w=.ok (.enter f (args++Zt).toArray) w:=by simp[execOp,resolve,hx,Rn,invoke,xg hb,ha]
 rw[this];exact(hf w S hS<|hs S w hΓ).mono fun e w' ⟨u,he,hu,hx,hc⟩=>⟨val u,he,u,rfl,hu,hx,hc⟩
theorem WK(off:Nat):∀(c:List Value) (k:Nat) (cells:Array Value),off+k+c.length<=cells.size->
 ((c.zipIdx k).foldl (fun cs (x:Value×Nat)=>cs.setIfInBounds (off+x.2) x.1) cells).toList=cells.toList.take (off+k)++c++cells.toList.drop (off+k+c.length)
 |[],k,cells,h=>by simp
 |v::c,k,cells,h=>by
  simp only[FS]at h;rw[List.zipIdx_cons,SO];have:=WK off c (k+1) (cells.setIfInBounds (off+k) v) (by simp;lia);rw[this];simp only[Array.toList_setIfInBounds,FS];have ha:off+k<cells.toList.length:=by simp;lia
  rw[show off+(k+1)=off+k+1 by lia,Sn,iq ha];have e1:(cells.toList.take<|off+k).length=off+k:=by simp;lia
  rw[List.take_append,List.drop_append,e1];simp only[show off+k+1-(off+k)=1 by lia,Si,List.take_zero,show off+k+1+c.length-(off+k)=c.length+1 by lia,List.drop_succ_cons];rw[P3 (by rw[e1];lia),cj (TB (off+k) cells.toList) (by rw[e1];lia),List.drop_drop];simp only[P1,O2,PZ,P1];congr 3;congr 1;lia
def wM(parts:List (Nat×Value)):List Value:=parts.flatMap fun x=>x.2.cells.toList
def uB(place:Nat->Option (Nat×Nat)):List (Nat×Value)->Nat->Prop
 |[],_=>True
 |(i,v)::r,off=>place i=some (off,v.cells.size)/\uB place r (off+v.cells.size)
theorem XY{place:Nat->Option (Nat×Nat)}:∀(parts:List (Nat×Value)) (pre z:List Value),uB place parts pre.length->(wM parts).length<=z.length->
 Sf place (pre++z).toArray parts=some (pre++wM parts++z.drop (wM parts).length).toArray
 |[],pre,z,_,_=>by simp[Sf,wM]
 |(i,v)::r,pre,z,⟨h1,h2⟩,hl=>by
  simp only[wM,List.flatMap_cons,O1,SA]at hl;have hs:¬(pre.length+v.cells.size>(pre++z).toArray.size):=by simp;lia
  have ha:v.cells.zipIdx.foldl (fun cs (x:Value×Nat)=>cs.setIfInBounds (pre.length+x.2) x.1) (pre++z).toArray=((pre++v.cells.toList)++z.drop v.cells.size).toArray:=by
   apply Array.ext';rw[<-Array.foldl_toList,Array.toList_zipIdx,WK pre.length v.cells.toList 0 _<|by simp;lia];simp
  unfold Sf;simp only[h1];rw[ir<|by simp only[ne_eq,not_true_eq_false,decide_false,Sa,decide_eq_true_eq];exact hs];have:=XY r (pre++v.cells.toList) (z.drop v.cells.size) (by simpa using h2) (by simp[wM]at*;lia);refine(congrArg (fun a=>Sf place a r) ha).trans<|this.trans ?_;simp[wM]
theorem mC(i:Nat)(v:Value)(r:List (Nat×Value)):wM ((i,v)::r)=v.cells.toList++wM r:=by simp[wM]
theorem aW{α:Type}{e:zv α}{z:α}{bytes:Nat}{zero:Value}{parts:List (Nat×Operand)}{vs:List (Nat×Value)}(ht:jJ P t true e.n bytes zero)(hf:e.agg=true)(hz:zero.cells.size=e.n)
 (hv:parts.map (fun x=>(x.1,ev env x.2))=vs)
 (hc:(∃fs,P.underlying t=some (.struct fs)/\∃pl:Array (Nat×Nat),(∀w,(fs.mapM (fun f=>do pure (f.offset,<-sizeOf f.type)):Sem (Array<|Nat×Nat)).run P w=.ok pl w)/\(∀(S:Nat->Prop) (w:World),ze S Γ w->uB (pl[·]?) vs 0))\/
  (∃k et n b2 z2 ag2,P.underlying t=some (.array k et)/\jJ P et ag2 n b2 z2/\(∀(S:Nat->Prop) (w:World),ze S Γ w->uB (fun i=>some (i*n,n)) vs 0)))
 (hp:∀(S:Nat->Prop) (w:World),ze S Γ w->e.p S z (wM vs) w):
 ah P ⟨d,.build t parts.toArray,ty,pos,aft,g⟩ env ms Γ (fun v:Value=>v) (fun v=>[fV e z v]) (fun _=>True):=by
 intro w S _ _ hΓ;have he:=hp S w hΓ;have hl:=e.len he;have hg:zero.cells.toList.length=e.n:=by simpa using hz
 refine xX.of_value (w':=w) (v:=.agg (wM vs).toArray) ?_ ⟨_,rfl,trivial,zH.refl _ _,⟨⟨wM vs,by simp[zv.val,hf],he⟩,trivial⟩⟩;have ha:∀place,uB place vs 0->Sf place zero.cells vs=some (wM vs).toArray:=by
  intro place h;have:=XY vs [] zero.cells.toList h (by rw[hl,hg];exact O3 _);simp_all
 have hi:parts.toArray.map (fun x=>(x.1,ev env x.2))=vs.toArray:=by rw[<-hv];simp
 simp only[execOp,O5];have hb:(Instr.build t<|parts.toArray.map fun x=>(x.1,ev env x.2)).run P w=.ok (.agg (wM vs).toArray) w:=by
  rw[hi];unfold Instr.build;rcases hc with⟨fs,hu,pl,hc,hd⟩|⟨k,et,n,b2,z2,ag2,hu,hj,hd⟩
  ·simp only[O5,vt ht,O0,run_underlying hu,hc,ha _<|hd S w hΓ,Pg]
  ·simp only[O5,vt ht,O0,run_underlying hu,xh hj,ha _<|hd S w hΓ,Pg]
 rw[hb];rfl
theorem gR{α:Type}{e:zv α}{y:α}{v:Value}{S:Nat->Prop}{w:World}(h:(fV e y v).p S w):v.cells.size=e.n:=by
 have:=e.len<|vU h;simpa using this
theorem Y7{α:Type}{e:zv α}{et:TypeId}{zs:List α}{len bytes:Nat}{zero:Value}{parts:List (Nat×Operand)}{vs:List (Nat×Value)}(ht:P.underlying t=some (.slice et))(he:jJ P et e.agg e.n bytes zero)
 (hn:0<e.n) (hd:zs.length=len) (hk:len*e.n<=16777216) (hv:parts.map (fun x=>(x.1,ev env x.2))=vs)
 (hg:∀(S:Nat->Prop) (w:World),ze S Γ w->uB (fun i=>some (i*e.n,e.n)) vs 0) (hp:∀(S:Nat->Prop) (w:World),ze S Γ w->zX e S zs (wM vs) w):
 ah P ⟨d,.buildSlice t len parts.toArray,ty,pos,aft,g⟩ env ms Γ (fun v:Value=>v) (fun v=>[fV (eS e) zs v]) (fun _=>True):=by
 intro w S hS _ hΓ;have hf:=hp S w hΓ;have hl:(wM vs).length=len*e.n:=by rw[hf.len,hd]
 have x:=jA.alloc w (.cells (wM vs).toArray et);refine xX.of_value (w':=w.alloc (.cells (wM vs).toArray et)) (v:=.slice (some ⟨w.heap.size,0,none⟩) len len) ?_ ⟨_,rfl,trivial,x,⟨yX.2 ?_,trivial⟩⟩
 ·have hi:parts.toArray.map (fun x=>(x.1,ev env x.2))=vs.toArray:=by rw[<-hv];simp
  have hc:Sf (fun i=>some (i*e.n,e.n)) ((Ta<|len*e.n).map (zero.cells[·%zero.cells.size]!)) vs=some (wM vs).toArray:=by
   have:=XY vs [] ((Ta<|len*e.n).map (zero.cells[·%zero.cells.size]!)).toList (hg S w hΓ) (by simp[hl]);rw[P1,RB,P1,RY (by simp[hl]),Ps]at this;lia
  have hb:(TJ t len<|parts.toArray.map fun x=>(x.1,ev env x.2)).run P w=.ok (.slice (some ⟨w.heap.size,0,none⟩) len len) (w.alloc (.cells (wM vs).toArray et)):=by
   rw[hi];unfold TJ;simp only[O5,run_underlying ht,O0,xh he,ir (show¬len*e.n>2^24 by lia),newRow];by_cases h0:len*e.n=0
   ·have ho:wM vs=[]:=Pn (by rw[hl,h0]);have hj:Sf (fun i=>some (i*e.n,e.n)) ((Ta 0).map ((#[]:Array Value)[·%(#[]:Array Value).size]!)) vs=some (wM vs).toArray:=by
     have hm:∀f:Nat->Value,(Ta 0).map f= #[]:=fun f=>by simp
     rw[<-hc,h0,hm,hm]
    simp only[h0,if_true];simp only[hj,O5,run_newObj_alloc,O0,Pg]
   ·simp only[ir h0,O5,vt he,O0,Pg,hc,run_newObj_alloc]
  simp only[execOp,O5,hb,O0,Pg]
 ·have ha:At (w.alloc (.cells (wM vs).toArray et)) w.heap.size 0 (wM vs):=by
   have:=At.row (b:=w.heap.size) (cs:=(wM vs).toArray) (t:=et) (fr:=(0,0))<|heap_alloc_new w _;simpa using this
  refine gq.of_at (hS.up _<|O3 _) ha (hf.keep x.to) hd.symm (by lia) ?_;have:len<=len*e.n:=SB _ hn;unfold maxLen;lia
theorem Gn{α:Type}{e:zv α}{E:TypeId}{z:α}{v:Value}(hx:ev env x=v)(hf:∀(S:Nat->Prop) (w:World),ze S Γ w->(fV e z v).p S w):
 ah P ⟨d,.box E x,ty,pos,aft,g⟩ env ms Γ (fun v:Value=>v) (fun p=>[fP e z p]) (fun _=>True):=by
 intro w S hS _ hΓ;have h:=vU<|hf S w hΓ;have xx:=jA.alloc w (.cells v.cells E);refine xX.of_value ?_ ⟨_,rfl,trivial,xx,⟨⟨w.heap.size,0,v.cells.toList,rfl,hS.up _<|O3 _,At.row<|heap_alloc_new w _,e.keep h xx.to⟩,trivial⟩⟩;simp[execOp,hx,Instr.box,newVar,newRow]
end
end
section
def vj{α β:Type}(e:X1 α)(x:α)(o:Nat)(e':zv β)(x':β)(up:β->α):Prop:=
 ∀(S:Nat->Prop) (w:World) (cs:List Value),e.p S x cs w->∃pre c post,cs=pre++c++post/\pre.length=o/\e'.p S x' c w/\∀(w':World) y c',zH S w w'->e'.p S y c' w'->e.p S (up y) (pre++c'++post) w'
theorem vj.self{α:Type}(e:zv α)(x:α):vj e.c x 0 e x id:=
 fun _ _ cs h=>⟨[],cs,[],by simp,rfl,h,fun _ y c' _ h'=>by simpa[zv.c]using h'⟩
theorem vj.fst{α β:Type}(e:zv α)(f:zv β)(x:α×β):vj (eP e f).c x 0 e x.1 (fun y=>(y,x.2)):=by
 rintro S w cs ⟨c,d,rfl,hc,hd⟩;exact⟨[],c,d,by simp,rfl,hc,fun w' y c' k h'=>⟨c',d,by simp,h',f.keep hd k⟩⟩
theorem vj.snd{α β:Type}(e:zv α)(f:zv β)(x:α×β):vj (eP e f).c x e.n f x.2 (fun y=>(x.1,y)):=by
 rintro S w cs ⟨c,d,rfl,hc,hd⟩;exact⟨c,d,[],by simp,e.len hc,hd,fun w' y c' k h'=>⟨c,c',by simp,e.keep hc k,h'⟩⟩
theorem vj.nth{α:Type}(k:Nat)(e:zv α)(xs:List α)(i:Nat)(x:α)(hx:xs[i]? =some x):vj (eA k e).c xs (i*e.n) e x (fun y=>xs.set i y):=by
 rintro S w cs ⟨hl,he⟩;obtain⟨hi,rfl⟩:=O4.1 hx;have hd:=he.drop i;rw[R0 hi]at hd;obtain⟨c,r,h1,h2,h3⟩:=hd;have ha:i*e.n<=cs.length:=by rw[he.len];exact PQ _<|by lia
 refine⟨cs.take<|i*e.n,c,r,?_,by simp;lia,h2,fun w' y c' kk h'=>⟨by simpa using hl,?_⟩⟩
 ·rw[O2,<-h1,RL]
 ·show zX e S (xs.set i y) _ w';rw[Sn,iq hi,O2];exact((he.keep kk).take i).append ⟨c',r,rfl,h',h3.keep kk⟩
theorem vj.row{α:Type}(e:zv α)(xs:List α)(i:Nat)(x:α)(hx:xs[i]? =some x):vj (Ht e) xs (i*e.n) e x (fun y=>xs.set i y):=by
 intro S w cs he;obtain⟨pre,c,post,h1,h2,h3,h4⟩:=vj.nth xs.length e xs i x hx S w cs ⟨rfl,he⟩;exact⟨pre,c,post,h1,h2,h3,fun w' y c' kk h'=>(h4 w' y c' kk h').2⟩
theorem vj.comp{α β γ:Type}{e:X1 α}{x:α}{o o':Nat}{f:zv β}{y:β}{g:zv γ}{z:γ}{up:β->α}{up':γ->β}(h:vj e x o f y up)(h':vj f.c y o' g z up'):
 vj e x (o+o') g z (fun t=>up<|up' t):=by
 intro S w cs he;obtain⟨pre,c,post,rfl,h1,h2,h3⟩:=h S w cs he;obtain⟨pre',c',post',rfl,ha,hb,hd⟩:=h' S w c h2;refine⟨pre++pre',c',post'++post,by simp,by simp[h1,ha],hb,fun w' t c'' k hc=> ?_⟩;have:=h3 w' _ _ k<|hd w' t c'' k hc;simp_all
section
variable{P:Program}{N:Nd}{we:World}{Se:Nat->Prop}{ms:List MF}{Γ:List FF}{Q:Qs}{env:yb}{ops:Array Oper}{rest:List Oper}
 {d:Option Tmp}{ty yt t:TypeId}{pos:String}{aft:Array Edge}{g:Option (Nat×Bool)}{x y:Operand}
theorem VG{et:TypeId}{ag:Bool}{sz bytes:Nat}{zero:Value}{b o n cap k:Nat}{ik:IntKind}(ht:P.underlying t=some (.slice et))(ha:jJ P et ag sz bytes zero)
 (hx:ev env x=.slice (some ⟨b,o,none⟩) n cap) (hi:ev env y=.int ik (k:Int)) (hk:k<n) (w:World):
 (execOp (ev env) ⟨d,.indexAddr t x y,ty,pos,aft,g⟩).run P w=.ok (.value (.pointer<|some ⟨b,o+k*sz,none⟩)) w:=by
 have:(0:Int)<=k/\(k:Int)<n:=by lia
 simp only[execOp,hx,hi,Instr.indexAt,asIntOf,run_underlying ht,O5,Pg,O0,iq this,xh ha,xH,Ry]
theorem cc{et:TypeId}{ag:Bool}{sz bytes:Nat}{zero:Value}{b o n k:Nat}{ik:IntKind}(ht:P.underlying t=some (.array n et))(ha:jJ P et ag sz bytes zero)
 (hx:ev env x=.pointer (some ⟨b,o,none⟩)) (hi:ev env y=.int ik (k:Int)) (hk:k<n) (w:World):
 (execOp (ev env) ⟨d,.indexAddr t x y,ty,pos,aft,g⟩).run P w=.ok (.value (.pointer<|some ⟨b,o+k*sz,none⟩)) w:=by
 have:(0:Int)<=k/\(k:Int)<n:=by lia
 simp only[execOp,hx,hi,Instr.indexAt,S5,asIntOf,run_underlying ht,O5,Pg,O0,iq this,xh ha,xH,Ry]
theorem lO{α β:Type}{e:zv α}{f:zv β}{z:α}{z':β}{up:β->α}{p:Value}{et:TypeId}{ag:Bool}{sz bytes:Nat}{zero:Value}{n k:Nat}{ik:IntKind}(ht:P.underlying t=some (.array n et))(hc:jJ P et ag sz bytes zero)
 (hx:ev env x=p) (hi:ev env y=.int ik (k:Int)) (hk:k<n) (hb:vj e.c z (k*sz) f z' up) (hf:∀(S:Nat->Prop) (w:World),ze S Γ w->(fP e z p).p S w):
 ah P ⟨d,.indexAddr t x y,ty,pos,aft,g⟩ env ms Γ (fun p:Value=>p) (fun p=>[fP f z' p]) (fun _=>True):=by
 intro w S _ _ hΓ;obtain⟨b,o,cs,rfl,hS,ha,he⟩:=hf S w hΓ;obtain⟨pre,c,post,rfl,h1,h2,_⟩:=hb S w cs he;refine xX.of_value (cc ht hc hx hi hk w) ⟨_,rfl,trivial,zH.refl _ _,⟨⟨b,o+k*sz,c,rfl,hS,⟨ha.1,fun j v hv=> ?_⟩,h2⟩,trivial⟩⟩;rw[R9];refine ha.2 _ v ?_;grind
def Ja(P:Program)(t:TypeId)(i:Nat):Option Nat:=match P.underlying t with
 |some (.struct fs)=>match fs[i]? with
  |some f=>match P.info? f.type with
   |some inf=>if inf.size=0 then none else some f.offset
   |none=>none
  |none=>none
 |_=>none
theorem bj{i off b o:Nat}(h:Ja P t i=some off)(w:World):(Instr.fieldAt t (.pointer<|some ⟨b,o,none⟩) i).run P w=.ok (.pointer<|some ⟨b,o+off,none⟩) w:=by
 unfold Ja at h;split at h
 ·next fs hu=>
  split at h
  ·next f hf=>
   split at h
   ·next inf hi=>
    split at h
    ·cases h
    ·next hs=>
     cases h;simp only[Instr.fieldAt,O5,run_underlying hu,O0,hf,S5,Pg,fieldPlace,sizeOf,typeInfo,run_program,hi,ir hs,xH]
   ·cases h
  ·cases h
 ·cases h
theorem XJ{i off b o:Nat}(h:Ja P t i=some off)(hx:ev env x=.pointer (some ⟨b,o,none⟩))(w:World):
 (execOp (ev env) ⟨d,.fieldAddr t x i,ty,pos,aft,g⟩).run P w=.ok (.value (.pointer<|some ⟨b,o+off,none⟩)) w:=by
 simp only[execOp,hx,O5,bj h,O0,Pg]
theorem Z7{α β:Type}{e:zv α}{f:zv β}{z:α}{z':β}{up:β->α}{p:Value}{i off:Nat}(h:Ja P t i=some off)(hx:ev env x=p)(hb:vj e.c z off f z' up)
 (hf:∀(S:Nat->Prop) (w:World),ze S Γ w->(fP e z p).p S w):ah P ⟨d,.fieldAddr t x i,ty,pos,aft,g⟩ env ms Γ (fun p:Value=>p) (fun p=>[fP f z' p]) (fun _=>True):=by
 intro w S _ _ hΓ;obtain⟨b,o,cs,rfl,hS,ha,he⟩:=hf S w hΓ;obtain⟨pre,c,post,rfl,h1,h2,_⟩:=hb S w cs he;refine xX.of_value (XJ h hx w) ⟨_,rfl,trivial,zH.refl _ _,⟨⟨b,o+off,c,rfl,hS,⟨ha.1,fun j v hv=> ?_⟩,h2⟩,trivial⟩⟩;rw[R9];refine ha.2 _ v ?_;grind
theorem St.muts{i:Nat}{m:MF}{w:World}(h:St we Se ms Γ w)(hi:ms[i]? =some m):∃S:Nat->Prop,m.p S w/\z7 S ms w/\ze S Γ w:=by
 obtain⟨h1,h2,h3,S,h4,h5,h6,h7,h8⟩:=h;exact⟨S,z7.get h7 hi,h7,h8⟩
theorem St.mut{i:Nat}{m:MF}{w:World}(h:St we Se ms Γ w)(hi:ms[i]? =some m):∃S:Nat->Prop,Tl w S/\m.p S w/\ze S Γ w/\∀(Δ:List FF),ze S Δ w->St we Se ms Δ w:=by
 obtain⟨h1,h2,h3,S,h4,h5,h6,h7,h8⟩:=h;exact⟨S,h2.at h1 h5,z7.get h7 hi,h8,fun Δ hΔ=>⟨h1,h2,h3,S,h4,h5,h6,h7,hΔ⟩⟩
theorem At.mid{w:World}{b:Nat}{cs:Array Value}{E:TypeId}{pre c post:List Value}(h:w.heap[b]? =some (.cells cs E (0,0)))(ha:cs.toList=pre++c++post):At w b pre.length c:=by
 have:=((At.row h).drop pre.length).take c.length;simp_all
theorem qQ{α β:Type}{e:X1 α}{E b:Nat}{z:α}{f:zv β}{o:Nat}{z':β}{up:β->α}{bytes:Nat}{zero:Value}(i:Nat)
 (hm:ms[i]? =some (mB e E b z)) (hx:ev env x=.pointer (some ⟨b,o,none⟩)) (hb:vj e z o f z' up) (ht:jJ P t f.agg f.n bytes zero):
 ah P ⟨d,.load t x,ty,pos,aft,g⟩ env ms Γ (fun v:Value=>v) (fun v=>[fV f z' v]) (fun _=>True):=by
 intro w S _ hM hΓ;obtain⟨cs,hg,hp⟩:=z7.get hM hm;obtain⟨pre,c,post,hc,h1,h2,_⟩:=hb S w cs.toList hp;have ha:=h1▸At.mid hg hc;refine xX.of_value ?_ ⟨_,rfl,trivial,zH.refl _ _,Lo h2,trivial⟩;simp[execOp,hx,Instr.loadAt,S5,Yh ht h2 ha]
theorem kf(w:World)(b:Nat)(cs:Array Value):zH (fun k=>k≠b) w (w.setRow b cs):=
 ⟨rfl,rfl,rfl,by simp,fun k _ hk=>setRow_other w b k cs hk⟩
theorem Uq{ag:Bool}{n bytes:Nat}{zero:Value}(ht:jJ P t ag n bytes zero){w:World}{b:Nat}{cs:Array Value}{E:TypeId}{pre c post:List Value}{v:Value}
 (h:w.heap[b]? =some (.cells cs E (0,0))) (ha:cs.toList=pre++c++post) (hc:c.length=n) (hv:v.cells.toList.length=n) (h1:∀u∈v.cells.toList,u.oneCell'=true):
 (storeVar t ⟨b,pre.length,none⟩ v).run P w=.ok () (w.setRow b (pre++v.cells.toList++post).toArray):=by
 unfold storeVar;have hb:cs.size=(pre++c++post).length:=by rw[<-ha];simp
 have hs:=run_storeCells_at P b pre.length E v.cells.toList 0 cs w h (by rw[hb,hv];simp;lia) h1;have hd:v.cells.size=n:=by simpa using hv
 simp only[O5,xh ht,O0,hd,ne_eq,not_true_eq_false,if_false];refine hs.trans ?_;congr 2;rw[ha,hv,Sl];congr 2
 ·rw[O2,List.take_left' rfl]
 ·rw[<-hc,<-O1,TV rfl]
theorem vu{α β:Type}{e:X1 α}{E b:Nat}{z:α}{f:zv β}{o:Nat}{z' y':β}{up:β->α}{bytes:Nat}{zero v:Value}(i:Nat)(hm:ms[i]? =some (mB e E b z))(hx:ev env x=.pointer (some ⟨b,o,none⟩))(hy:ev env y=v)(ha:vj e z o f z' up)(ht:jJ P t f.agg f.n bytes zero)
 (hv:∀(S:Nat->Prop) (w:World),ze S Γ w->(fV f y' v).p S w):OG P ⟨none,.store t x y,ty,pos,aft,g⟩ env we Se ms Γ (fun _:Unit=>undef) (fun _=>(ms.set i<|mB e E b<|up y')) (fun _=>Γ) (fun _=>True):=by
 intro w he;obtain⟨S0,_,⟨cs0,hd,hq⟩,hr,_⟩:=he.mut hm;obtain⟨pre0,c0,post0,hb,hf,hi,_⟩:=ha S0 w cs0.toList hq;have hj:=vU<|hv S0 w hr;have hn:(execOp (ev env) ⟨none,.store t x y,ty,pos,aft,g⟩).run P w=.ok .skip (w.setRow b (pre0++v.cells.toList++post0).toArray):=by
  have:=Uq ht hd hb (f.len hi) (f.len hj)<|f.one hj;rw[hf]at this;simp only[execOp,hx,hy,Instr.storeAt,S5,O5,Pg,O0,this]
 refine xX.of_skip hn ⟨(),rfl,trivial,he.write hm rfl rfl (kf w b _) ?_⟩;rintro S hS ⟨cs,hg,hp⟩ h8;rw[hd]at hg;cases hg;obtain⟨pre,c,post,ho,hl,hc,hs⟩:=ha S w cs0.toList hp;have e1:pre=pre0:=by
  have h1:pre=cs0.toList.take o:=by rw[ho,O2,<-hl,List.take_left' rfl]
  grind
 have e2:post=post0:=by
  have h1:post=cs0.toList.drop (o+f.n):=by rw[ho,<-hl,<-f.len hc,<-O1,TV rfl]
  have h2:post0=cs0.toList.drop (o+f.n):=by rw[hb,<-hf,<-f.len hi,<-O1,TV rfl]
  rw[h1,h2]
 subst e1 e2;have kk:zH S w (w.setRow b (pre++v.cells.toList++post).toArray):=(kf w b _).weak fun k _ hk=>hS k hk;exact⟨_,setRow_heap w b cs0 _ E (0,0) hd,by simpa using hs _ y' _ kk (f.keep (vU<|hv S w h8) kk)⟩
theorem gf{α:Type}{e:zv α}{et:TypeId}{z:α}{n bytes:Nat}{zero:Value}{yy:Operand}{kl kc:IntKind}(ht:P.underlying t=some (.slice et))(he:jJ P et e.agg e.n bytes zero)(hx:ev env x=.int kl (n:Int))(hy:ev env yy=.int kc (n:Int))(hb:bytes*n<=281474976710656)(hn:n<=9223372036854775807)
 (hz:∀(S:Nat->Prop) (w:World),e.p S z zero.cells.toList w):OG P ⟨d,.makeSlice t x yy,ty,pos,aft,g⟩ env we Se ms Γ (fun b=>(.slice (some ⟨b,0,none⟩) n n)) (fun b=>(mR e et b (Pv n z)::ms)) (fun _=>Γ) (fun _=>True):=by
 intro w hf;obtain⟨i,hi,h1,h2,h3⟩:=he.info;have hr:=run_make (P:=P) w t et i zero ht hi h3 kl kc (n:Int) (n:Int) (by lia) (by lia) (by rw[h2,<-Int.natCast_mul];exact Int.ofNat_le.2 hb) (by lia);have hd:zero.cells.toList.length=e.n:=e.len<|hz (fun _=>True) w;have hc:(madeCells zero.cells<|n*i.size).toList=(Pv n zero.cells.toList).flatten:=by
  rw[h1];apply Sx;intro j;have hs:zero.cells.size=e.n:=by simpa using hd
  by_cases hj:j<n*e.n
  ·have ha:0<e.n:=Nat.pos_of_ne_zero fun h0=>by rw[h0]at hj;simp at hj
   have e1:(madeCells zero.cells<|n*e.n).toList[j]? =zero.cells.toList[j%e.n]? :=by
    have hm:=RN j ha;simp[madeCells,hj,hs,hm]
   have e2:((Pv n zero.cells.toList).flatten)[j]? =zero.cells.toList[j%e.n]? :=by
    have:=(zX.replicate (hz (fun _=>True) w) n).get (i:=j/e.n) (x:=z) (by rw[List.getElem?_replicate,iq<|(Rs ha).2 hj]);exact flatten_get zero.cells.toList e.n hd ha n j hj
   rw[e1,e2]
  ·rw[P8 (by simp[size_madeCells];lia),P8<|by simp[hd];lia]
 refine xX.of_value (w':=w.alloc (.cells (madeCells zero.cells<|n*i.size) et)) (v:=.slice (some ⟨w.heap.size,0,none⟩) n n) ?_ ⟨_,rfl,trivial,hf.fresh (jA.alloc w _) rfl (by simp) ?_⟩
 ·simp only[execOp,hx,hy,O5,hr,O0,Pg,Ry]
 ·intro S _ _;refine⟨_,heap_alloc_new w _,?_⟩;rw[hc];exact zX.replicate (hz _ _) n
 where
 flatten_get (l:List Value) (m:Nat) (hl:l.length=m) (hm:0<m):∀(n j:Nat),j<n*m->((Pv n l).flatten)[j]? =l[j%m]?
  |0,j,h=>by simp at h
  |n+1,j,h=>by
   rw[List.replicate_succ,List.flatten_cons];by_cases hj:j<m
   ·rw[Py (by lia),PT hj]
   ·rw[PW (by lia),hl,flatten_get l m hl hm n (j-m) (by rw[RI]at h;lia),<-Nat.mod_eq_sub_mod<|by lia]
end
end
section
section
variable{we:World}{Se:Nat->Prop}{ms:List MF}{Γ Δ:List FF}{w w':World}
theorem St.growM{i:Nat}{m m':MF}(h:St we Se ms Γ w)(hi:ms[i]? =some m)(x:zH (fun k=>¬m.blk k) w w')(hb:∀k,m'.blk k->m.blk k\/w.heap.size<=k)
 (n:∀S:Nat->Prop,(∀k,S k->¬m.blk k)->z7 S ms w->ze S Γ w->m'.p S w'):St we Se (ms.set i m') Γ w':=by
 obtain⟨h1,h2,h3,S,h4,h5,h6,h7,h8⟩:=h;have hm:=Pq hi;have hS:∀k,S k->¬m.blk k:=fun k hk e=>(h6 m hm k e).1 hk;have hd:∀k,k<w.heap.size->S k->S k/\¬m'.blk k:=fun k hk hs=>⟨hs,fun e=>by
  rcases hb k e with h|h
  ·simp_all
  ·lia⟩
 have he:∀k,(S k/\¬m'.blk k)->¬m.blk k:=fun k hk=>hS k hk.1;have x':zH (fun k=>S k/\¬m'.blk k) w w':=x.weak fun k _ hk=>he k hk;have hf:=fun m2 ha=>z7.lt h7 m2 ha;have other:∀(j:Nat) (m2:MF),j≠i->ms[j]? =some m2->∀k,m2.blk k->¬m.blk k/\¬m'.blk k:=fun j m2 hj ha k hk=>by
  have h1:¬m.blk k:=fun e=>Yb h3 hi k e j m2 hj ha hk;refine⟨h1,fun e=> ?_⟩;rcases hb k e with h|h
  ·exact h1 h
  ·have:=hf m2 (Pq ha) k hk;lia
 have hg:=n _ he (z7.sub hd h7)<|ze.sub hd h8;refine⟨h1.behind x (fun k hk e=>by have:=(h6 m hm k e).2;lia),h2,?_,fun k=>S k/\¬m'.blk k,fun k hk=>h4 k hk.1,?_,?_,?_,?_⟩
 ·exact apart_move i m' h3<|fun j m2 hj ha k hk=>(other j m2 hj ha k hk).2
 ·exact fun k hk=>⟨h5 k<|Pz x.size hk,fun e=>by have:=m'.lt hg k e;lia⟩
 ·intro m2 ha k hk;obtain⟨j,hj,rfl⟩:=Rr ha;rw[List.getElem_set]at hk;rw[Ri]at hj;split at hk
  ·refine⟨fun hc=>hc.2 hk,?_⟩;rcases hb k hk with h|h
   ·exact(h6 m hm k h).2
   ·have:=h1.size;lia
  ·exact⟨fun hc=>(h6 _ (Rm hj) k hk).1 hc.1,(h6 _ (Rm hj) k hk).2⟩
 ·exact allM_move i m' x' hg (fun j m2 hj ha k hk=>x.block k (hf m2 (Pq ha) k hk) (other j m2 hj ha k hk).1)<|z7.sub hd h7
 ·exact ze.keep x'<|ze.sub hd h8
 where
 apart_move:∀{ms:List MF} (i:Nat) (m':MF),jV ms->(∀(j:Nat) (m2:MF),j≠i->ms[j]? =some m2->∀k,m2.blk k->¬m'.blk k)->jV (ms.set i m')
  |[],_,_,h,_=>by simpa using h
  |m::r,0,m',h,ho=>⟨fun k hk m2 ha hc=>by
   obtain⟨j,hj,rfl⟩:=Rr ha;exact ho (j+1) r[j] (by lia) (by simp[hj]) k hc hk,h.2⟩
  |m::r,i+1,m',h,ho=>by
   refine⟨fun k hk m2 ha=> ?_,apart_move i m' h.2<|fun j m2 hj ha=>ho (j+1) m2 (by lia)<|by simpa using ha⟩;obtain⟨j,hj,rfl⟩:=Rr ha;rw[List.getElem_set];split
   ·exact ho 0 m (by lia) rfl k hk
   ·exact h.1 k hk _<|Rm _
 allM_move {S:Nat->Prop}:∀{ms:List MF} (i:Nat) (m':MF),zH S w w'->m'.p S w'->(∀(j:Nat) (m2:MF),j≠i->ms[j]? =some m2->∀k,m2.blk k->w'.heap[k]? =w.heap[k]?)->z7 S ms w->z7 S (ms.set i m') w'
  |[],_,_,_,_,_,_=>trivial
  |m::r,0,m',x,hm,ho,h=>⟨hm,z7.keep x (fun m2 ha k hk=>by
   obtain⟨j,hj,rfl⟩:=Rr ha;exact ho (j+1) r[j] (by lia) (by simp[hj]) k hk) h.2⟩
  |m::r,i+1,m',x,hm,ho,h=>⟨m.keep h.1 x<|fun k hk=>ho 0 m (by lia) rfl k hk,allM_move i m' x hm (fun j m2 hj ha=>ho (j+1) m2 (by lia)<|by simpa using ha) h.2⟩
theorem St.grow{i:Nat}{m m':MF}(h:St we Se ms Γ w)(hi:ms[i]? =some m)(x:zH (fun k=>¬m.blk k) w w')(hb:∀k,m'.blk k->m.blk k\/w.heap.size<=k)
 (n:∀S:Nat->Prop,(∀k,S k->¬m.blk k)->m.p S w->ze S Γ w->m'.p S w'):St we Se (ms.set i m') Γ w':=by grind [St.growM,z7.get]
theorem St.conv{i:Nat}{m m':MF}(h:St we Se ms Γ w)(hi:ms[i]? =some m)(hb:m'.blk=m.blk)(n:∀S:Nat->Prop,m.p S w->m'.p S w):St we Se (ms.set i m') Γ w:=by grind [St.grow,zH.refl]
theorem St.nilO{α:Type}{e:zv α}{E:TypeId}(h:St we Se ms Γ w):St we Se (mO e E (.slice none 0 0) []::ms) Γ w:=by
 obtain⟨h1,h2,h3,S,h4,h5,h6,h7,h8⟩:=h;refine⟨h1,h2,⟨(fun _ hk=>by cases hk),h3⟩,S,h4,h5,?_,⟨⟨[],World.ownsRow_nil _ _ _ _,rfl⟩,h7⟩,h8⟩;intro m hm k hk;rcases OY.1 hm with rfl|hm
 ·cases hk
 ·grind
end
section
variable{P:Program}{N:Nd}{we:World}{Se:Nat->Prop}{ms:List MF}{Γ:List FF}{Q:Qs}{env:yb}{ops:Array Oper}{rest:List Oper}
 {d:Option Tmp}{ty yt t:TypeId}{pos:String}{aft:Array Edge}{g:Option (Nat×Bool)}{x y:Operand}
theorem W0{α:Type}{e:X1 α}{z:α}{ag:Bool}{sz bytes:Nat}{zero:Value}{E:TypeId}(ht:jJ P E ag sz bytes zero)
 (hz:∀(S:Nat->Prop) (w:World),e.p S z zero.cells.toList w):OG P ⟨d,.alloc E,ty,pos,aft,g⟩ env we Se ms Γ (fun b=>(.pointer<|some ⟨b,0,none⟩)) (fun b=>(mB e E b z::ms)) (fun _=>Γ) (fun _=>True):=by
 intro w ha;refine xX.of_value ?_ ⟨_,rfl,trivial,ha.fresh (jA.alloc w _) rfl (by simp) fun S _ _=>⟨_,heap_alloc_new w _,hz _ _⟩⟩;simp only[execOp,Instr.alloc,O5,vt ht,O0,newVar,newRow,run_newObj_alloc,Pg]
theorem AA{α:Type}{e:zv α}{z:α}{v:Value}{E:TypeId}(hx:ev env x=v)
 (hf:∀(S:Nat->Prop) (w:World),ze S Γ w->(fV e z v).p S w):OG P ⟨d,.box E x,ty,pos,aft,g⟩ env we Se ms Γ (fun b=>(.pointer<|some ⟨b,0,none⟩)) (fun b=>(mB e.c E b z::ms)) (fun _=>Γ) (fun _=>True):=by
 intro w ha;refine xX.of_value (w':=w.alloc (.cells v.cells E)) ?_ ⟨_,rfl,trivial,ha.fresh (jA.alloc w _) rfl (by simp) fun S h5 hΓ=>⟨_,heap_alloc_new w _,?_⟩⟩
 ·simp only[execOp,hx,Instr.box,newVar,newRow,O5,run_newObj_alloc,O0,Pg]
 ·exact e.keep (e.sub (vU<|hf S w hΓ) fun k hk hs=>⟨hs,by lia⟩) (jA.alloc w _).to
theorem Ym(w:World)(t ty e:TypeId)(i:TypeInfo)(z:Value)(size bytes:Nat)(ht:P.underlying t=some (.slice e))(hi:P.info? e=some i)(hz:i.zero=some z)
 (he:i.size=size) (hn:i.bytes=bytes) (hu:z.cells.size=size) (hv:0<size)
 (v:Value) (n:Nat) (xs:List Value) (hd:w.ownsRow 0 e size v n xs)
 (a:Addr) (m c:Nat) (news:List Value) (hl:news.length=m*size) (ha:∀j u,news[j]? =some u->w.cell? (a.add j)=some u) (h1:∀u∈news,u.oneCell'=true)
 (hp:n+m<=maxLen) (hc:(n+m)*bytes<=140737488355328):
 ∃v' w',(PR #[t,t] ty #[v,.slice (some a) m c]).run P w=.ok v' w'/\w'.ownsRow 0 e size v' (n+m) (xs++news)/\w.grownBy w' v.ownBlock/\
  ∀k,v'.ownBlock=some k->v.ownBlock=some k\/w.heap.size<=k:=by
 obtain⟨v',w',hr,ho,hg,_⟩:=run_append_own (P:=P) w 0 t ty e i z size bytes ht hi hz he hn hu hv v n xs hd a m c news hl ha h1 hp hc<|PF _;refine⟨v',w',hr,ho,hg,?_⟩;subst he hn;have hs:n+m<=9223372036854775807:=by simp only[maxLen]at hp;lia
 rcases hd.2 with⟨rfl,rfl⟩|⟨g,cap,cur,rfl,hA,hw,hB,hC,hx,hy⟩
 ·by_cases hm:m=0
  ·subst hm;have:=run_append_nil0 (w:=w) t ty e i ht hi a c;rw[this]at hr;cases hr;exact fun k hk=>by cases hk
  ·have:=run_append_nil (P:=P) w t ty e i z ht hi hz a m c news hl ha (by lia) (by lia) (by have hb:=hc;simp only[Pk]at hb;lia);rw[this]at hr;cases hr;exact fun k hk=> .inr<|by cases hk;exact O3 _
 ·by_cases hf:n+m<=cap
  ·have hq:n*i.size+news.length<=cur.size:=by rw[hl,hx,<-RI];exact PQ _ hf
   have:=run_append_room (P:=P) w t ty e i ht hi g n cap cur hw a m c news hl ha h1 hf hq;rw[this]at hr;cases hr;exact fun k hk=> .inl hk
  ·have hj:∀j u,xs[j]? =some u->w.cell? ((⟨g,0,none⟩:Addr).add j)=some u:=hd.cells (g:=g) rfl;have:=run_append_grow (P:=P) w t ty e i z ht hi hz ⟨g,0,none⟩ n cap xs hd.1 hj a m c news hl ha (by lia) (by lia)<|growslice_fits (by lia) hc;rw[this]at hr;cases hr;exact fun k hk=> .inr<|by cases hk;exact O3 _
 where
 run_append_nil0 {w:World} (t ty e:TypeId) (i:TypeInfo) (ht:P.underlying t=some (.slice e)) (hi:P.info? e=some i) (a:Addr) (c:Nat):
  (PR #[t,t] ty #[.slice none 0 0,.slice (some a) 0 c]).run P w=.ok (.slice none 0 0) w:=by
  simp[PR,run_underlying ht,sizeOf,typeInfo,hi,Tm,SL,loadCells,loadCellsFrom]
def EK{α:Type}(e:zv α)(S:Nat->Prop)(xs:List α)(v:Value)(w:World):Prop:=
 ∃ao cap,v=.slice ao xs.length cap/\xs.length<=cap/\cap<=maxLen/\(xs=[]\/∃b o cs,ao=some ⟨b,o,none⟩/\At w b o cs/\zX e S xs cs w)
theorem EK.of{α:Type}{e:zv α}{S:Nat->Prop}{xs:List α}{v:Value}{w:World}(h:(fV (eS e) xs v).p S w):EK e S xs v w:=by
 obtain⟨ao,cap,h1,h2,h3,h4⟩:=yX.1 h;refine⟨ao,cap,h1,h2,h3,?_⟩;rcases h4 with h4|⟨b,o,cs,a1,a2,a3,a4⟩
 ·simp_all
 ·grind
theorem Zq{α:Type}{e:zv α}{et:TypeId}{xs ys:List α}{v u:Value}{bytes:Nat}{zero:Value}(i:Nat)(ht:P.underlying t=some (.slice et))(hK:jJ P et e.agg e.n bytes zero)(hD:zero.cells.size=e.n)(hn:0<e.n)
 (hm:ms[i]? =some (mO e et v xs)) (hx:ev env x=v) (hy:ev env y=u) (hf:∀(S:Nat->Prop) (w:World),z7 S ms w->ze S Γ w->EK e S ys u w)
 (h4:xs.length+ys.length<=9223372036854775807) (hb:(xs.length+ys.length)*bytes<=140737488355328):OG P ⟨d,.call ⟨.builtin .append,#[x,y],#[t,t]⟩,ty,pos,aft,g⟩ env we Se ms Γ (fun v'=>v') (fun v'=>(ms.set i<|mO e et v'<|xs++ys)) (fun _=>Γ) (fun _=>True):=by
 intro w hE;obtain⟨S,⟨cs,ho,he⟩,h7,h8⟩:=hE.muts hm;obtain⟨ao,cap,hu,h1,h2,h3⟩:=hf S w h7 h8;obtain⟨ti,hi,i1,i2,i3⟩:=hK.info;have hL:∀v' w',(PR #[t,t] ty #[v,u]).run P w=.ok v' w'->(execOp (ev env) ⟨d,.call ⟨.builtin .append,#[x,y],#[t,t]⟩,ty,pos,aft,g⟩).run P w=.ok (.value v') w':=fun v' w' hr=>by simp only[execOp,resolve,invoke,builtin,R6,PA,RR,hx,hy,O5,hr,Pg,O0]
 have hz:xs.length+ys.length<=maxLen:=by unfold maxLen;lia
 have main:∃v' w',(PR #[t,t] ty #[v,u]).run P w=.ok v' w'/\w.grownBy w' v.ownBlock/\(∀k,v'.ownBlock=some k->v.ownBlock=some k\/w.heap.size<=k)/\
  ∀S:Nat->Prop,(∀k,S k->v.ownBlock≠some k)->z7 S ms w->ze S Γ w->(mO e et v'<|xs++ys).p S w':=by
  have fin:∀(w':World) (v':Value) (news:List Value),w.grownBy w' v.ownBlock->w'.ownsRow 0 et e.n v' (xs.length+ys.length) (cs++news)->
   (∀S:Nat->Prop,z7 S ms w->ze S Γ w->zX e S ys news w)->∀S:Nat->Prop,(∀k,S k->v.ownBlock≠some k)->z7 S ms w->ze S Γ w->(mO e et v'<|xs++ys).p S w':=by
   intro w' v' news hg hd hB S hS hM hΓ;obtain⟨cs2,hF,hN⟩:=z7.get hM hm;have hO:cs2=cs:=by
    rcases ho.2 with⟨rfl,h0⟩|⟨g,cap,cur,rfl,_,hP,_,_,_,hQ⟩
    ·have a1:=ho.1;have a2:=hF.1;rw[h0]at a1 a2;have c1:cs=[]:=Pn (by simpa using a1);have c2:cs2=[]:=Pn (by simpa using a2);rw[c1,c2]
    ·rcases hF.2 with⟨hc,_⟩|⟨g',cap',cur',hR,_,hA,_,_,_,hG⟩
     ·cases hc
     ·cases hR;rw[hP]at hA;cases hA;rw[<-hQ,<-hG]
   subst hO;have kk:zH S w w':=⟨hg.os,hg.os,hg.output,hg.size,fun k hk hs=>hg.block k hk<|fun e=>hS k hs e.symm⟩;exact⟨cs2++news,by rw[O1];exact hd,(hN.keep kk).append<|(hB S hM hΓ).keep kk⟩
  have nilcase:ys=[]->(ao=none->u=.slice none 0 cap)->∃v' w',(PR #[t,t] ty #[v,u]).run P w=.ok v' w'/\w.grownBy w' v.ownBlock/\(∀k,v'.ownBlock=some k->v.ownBlock=some k\/w.heap.size<=k)/\
   ∀S:Nat->Prop,(∀k,S k->v.ownBlock≠some k)->z7 S ms w->ze S Γ w->(mO e et v'<|xs++ys).p S w':=by
   intro hw hC
   subst hw
   cases ao with
   |none=>
    have hT:=hC rfl
    have hr:=run_append_owned_none' (w:=w) t ty et ti e.n ht hi v xs.length cs ho cap
    rw[<-hT]at hr
    exact⟨v,w,hr,⟨rfl,rfl,rfl,O3 _,fun _ _ _=>rfl⟩,fun k hk=> .inl hk,fun S _ hp _=>by simpa using z7.get hp hm⟩
   |some a=>
    obtain⟨v',w',hr,hd,hg,hl⟩:=Ym w t ty et ti zero e.n bytes ht hi i3 i1 i2 hD hn v xs.length cs ho a 0 cap [] (by simp) (by simp) (by simp) (by simpa using hz)<|by simpa using hb
    exact⟨v',w',by rw[hu];exact hr,hg,hl,fin w' v' [] hg (by simpa using hd)<|fun _ _ _=>rfl⟩
  rcases h3 with hw|⟨b,o,news,rfl,ha,hq⟩
  ·exact nilcase hw<|fun h=>by rw[hu,h,hw];rfl
  ·obtain⟨v',w',hr,hd,hg,hl⟩:=Ym w t ty et ti zero e.n bytes ht hi i3 i1 i2 hD hn v xs.length cs ho ⟨b,o,none⟩ ys.length cap news hq.len
    (fun j c hc=>by rw[xH];exact ha.2 j c hc) hq.one hz hb
   refine⟨v',w',by rw[hu];exact hr,hg,hl,fin w' v' news hg hd fun S2 hU hV=> ?_⟩;obtain⟨ao2,cap2,hH,_,_,hW⟩:=hf S2 w hU hV;rw[hu]at hH;cases hH;rcases hW with rfl|⟨b2,o2,news2,hX,hY,hv⟩
   ·have:=hq.len;rw[R1,Sb]at this;rw[Pn this];rfl
   ·cases hX;have:news2=news:=by
     apply Sx;intro j;by_cases hj:j<news.length
     ·have e1:=ha.2 j news[j] (by simp[hj]);have hI:j<news2.length:=by rw[hv.len,<-hq.len];exact hj
      have e2:=hY.2 j news2[j] (by simp[hI]);rw[e1]at e2;rw[Pb hj,Pb hI,e2]
     ·have h5:news2.length=news.length:=by rw[hv.len,<-hq.len]
      rw[P8 (l:=news) (by lia),P8 (l:=news2)<|by lia]
    rw[<-this];exact hv
 obtain⟨v',w',hr,hg,hl,hp⟩:=main;exact xX.of_value (hL v' w' hr) ⟨v',rfl,trivial,hE.growM hm ⟨hg.os,hg.os,hg.output,hg.size,fun j hj hs=>hg.block j hj<|fun e=>hs e.symm⟩ hl hp⟩
 where
 run_append_owned_none' {w:World} (t ty e:TypeId) (i:TypeInfo) (size:Nat) (ht:P.underlying t=some (.slice e)) (hi:P.info? e=some i)
  (v:Value) (n:Nat) (xs:List Value) (hJ:w.ownsRow 0 e size v n xs) (c:Nat):
  (PR #[t,t] ty #[v,.slice none 0 c]).run P w=.ok v w:=by
  rcases hJ.2 with⟨rfl,rfl⟩|⟨g,cap,cur,rfl,_,_,hZ,_⟩
  ·simp[PR,run_underlying ht,sizeOf,typeInfo,hi,Tm,SL]
  ·simp[PR,run_underlying ht,sizeOf,typeInfo,hi,Tm,SL,hZ,storeCells]
theorem fx{α:Type}{e:zv α}{et:TypeId}{xs ys:List α}{v u:Value}{bytes:Nat}{zero:Value}(i:Nat)(hw:zG ops env ⟨d,.call ⟨.builtin .append,#[x,y],#[t,t]⟩,ty,pos,aft,g⟩=true)(hd:xr N.n d=true)
 (ht:P.underlying t=some (.slice et)) (ha:jJ P et e.agg e.n bytes zero) (hc:zero.cells.size=e.n) (hn:0<e.n)
 (hm:ms[i]? =some (mO e et v xs)) (hx:ev env x=v) (hy:ev env y=u) (hf:∀(S:Nat->Prop) (w:World),z7 S ms w->ze S Γ w->EK e S ys u w)
 (he:xs.length+ys.length<=9223372036854775807) (hb:(xs.length+ys.length)*bytes<=140737488355328)
 (k:∀v',TL P N we Se (ms.set i<|mO e et v'<|xs++ys) Γ ops rest Q<|put env d v'):TL P N we Se ms Γ ops (⟨d,.call ⟨.builtin .append,#[x,y],#[t,t]⟩,ty,pos,aft,g⟩::rest) Q env:=
 Ic hw hd (Zq i ht ha hc hn hm hx hy hf he hb) fun v' _=>k v'
theorem me{α:Type}{e:zv α}{et:TypeId}{xs ys:List α}{v u:Value}{bytes:Nat}{zero:Value}(i:Nat)(hw:zG ops env ⟨d,.call ⟨.builtin .append,#[x,y],#[t,t]⟩,ty,pos,aft,g⟩=true)(hd:xr N.n d=true)
 (ht:P.underlying t=some (.slice et)) (ha:jJ P et e.agg e.n bytes zero) (hc:zero.cells.size=e.n) (hn:0<e.n)
 (hm:ms[i]? =some (mO e et v xs)) (hx:ev env x=v) (hy:ev env y=u) (hf:∀(S:Nat->Prop) (w:World),ze S Γ w->(fV (eS e) ys u).p S w)
 (he:xs.length+ys.length<=9223372036854775807) (hb:(xs.length+ys.length)*bytes<=140737488355328)
 (k:∀v',TL P N we Se (ms.set i<|mO e et v'<|xs++ys) Γ ops rest Q<|put env d v'):TL P N we Se ms Γ ops (⟨d,.call ⟨.builtin .append,#[x,y],#[t,t]⟩,ty,pos,aft,g⟩::rest) Q env:=
 fx i hw hd ht ha hc hn hm hx hy (fun S w _ h=>EK.of<|hf S w h) he hb k
theorem Ff{α:Type}{e:zv α}{E b:Nat}{z:α}{w:World}(i:Nat)(h:St we Se ms Γ w)(hm:ms[i]? =some (mB e.c E b z)):
 St we Se (ms.eraseIdx i) (fP e z (.pointer<|some ⟨b,0,none⟩)::Γ) w:=
 h.freeze hm fun S S' hs hb hp=>Fo hs (hb b rfl) hp
theorem KN{α:Type}{e:zv α}{E:Nat}{v:Value}{xs:List α}{w:World}(i:Nat)(h:St we Se ms Γ w)(hm:ms[i]? =some (mO e E v xs)):
 St we Se (ms.eraseIdx i) (fV (eS e) xs v::Γ) w:=
 h.freeze hm fun S S' hs hb hp=>XD hs hb hp
theorem Bq{α:Type}{e:zv α}{E b:Nat}{xs:List α}{n:Nat}{w:World}(i:Nat)(h:St we Se ms Γ w)(hm:ms[i]? =some (mR e E b xs))(hn:n=xs.length)(ha:xs.length<=9223372036854775807):
 St we Se (ms.set i<|mO e E (.slice (some ⟨b,0,none⟩) n n) xs) Γ w:=
 h.conv hm rfl fun S ⟨cs,hg,he⟩=>by
  subst hn;have hl:cs.size=xs.length*e.n:=by have:=zX.len he;simpa using this
  refine⟨cs.toList,⟨by simpa using hl,.inr ⟨b,xs.length,cs,rfl,PF _,hg,O3 _,by unfold maxLen;lia,hl,?_⟩⟩,he⟩;rw[P3<|by simp[hl]]
end
end
section
theorem qt{a b:Nat}(h:a≠b):OW a b=false:=by grind [P7]
theorem QV{a b:Nat}(h:b<=a):RA a b=false:=by
 cases hb:RA a b
 ·rfl
 ·have:=PC hb;omega
structure Pr where
 p:(Nat->Prop)->Value->World->Prop
 keepS:∀{S:Nat->Prop}{v:Value}{w w':World},p S v w->zH S w w'->p S v w'
 sub:∀{S S':Nat->Prop}{v:Value}{w:World},p S v w->(∀k,k<w.heap.size->S k->S' k)->p S' v w
theorem Pr.keep(Φ:Pr){S:Nat->Prop}{v:Value}{w w':World}(h:Φ.p S v w)(x:jA w w'):Φ.p S v w':=Φ.keepS h x.to
def NN(v:Value):Pr where
 p _ u _:=u=v
 keepS h _:=h
 sub h _:=h
def YY(d:Option Tmp)(Φ:Pr)(K:List (Tmp×Pr)):List (Tmp×Pr):=match d with
 |some d=>(d,Φ)::K
 |none=>K
def qB(K:List (Tmp×Pr))(env0 env:yb)(S:Nat->Prop)(w:World)(t:Tmp):Prop:=match K.find? (fun x=>OW x.1 t)with
 |some x=>x.2.p S (env t) w
 |none=>env t=env0 t
def jE(K:List (Tmp×Pr))(env0 env:yb)(S:Nat->Prop)(w:World):List Tmp->Prop
 |[]=>True
 |t::ts=>qB K env0 env S w t/\jE K env0 env S w ts
def Ob(P:Program)(ops:Array Oper)(ms:List MF)(Γ:List FF)(env0:yb)(K:List (Tmp×Pr))(o:Oper)(Φ:Pr):Prop:=
 ∀(S:Nat->Prop) (w:World) (env:yb),Tl w S->z7 S ms w->ze S Γ w->jE K env0 env S w (o.looksAt ops)->
  (zG ops env o=true->xX P o env w (fun v w'=>jA w w'/\Φ.p S v w'))/\(zG ops env o=false->Φ.p S undef w)
def Mf(P:Program)(ops:Array Oper)(ms:List MF)(Γ:List FF)(env0:yb):List (Oper×Pr)->List (Tmp×Pr)->Prop
 |[],_=>True
 |(o,Φ)::r,K=>Ob P ops ms Γ env0 K o Φ/\Mf P ops ms Γ env0 r (YY o.dst Φ K)
def aY:List (Oper×Pr)->List (Tmp×Pr)->List (Tmp×Pr)
 |[],K=>K
 |(o,Φ)::r,K=>aY r<|YY o.dst Φ K
def jW(o:Oper)(i:Nat):Bool:=o.after.toList.any fun e=>Rf .any e && OW e.on i
def zt(l:List Oper)(i:Nat):Oper:=l.getD i default
def fG(l:List Oper)(m:Nat):Bool:=Tv m l.length && (P4 l.length).all fun j=>
 ((zt l j).after.toList.all fun e=> !Rf .any e||RA e.on j) &&
 (bif RA j m then(P4 m).all fun i=>OW i j||(match(zt l i).dst with
  |some t=> !((Pt l.toArray<|zt l j).contains t||(zt l j).dst==some t)||(bif RA i j then jW (zt l j) i else jW (zt l i) j)
  |none=>true)
  else(P4 j).all fun k=>jW (zt l j) k)
def xD(l:List Oper):Nat->Nat->Nat->Bool
 |0,i,k=>jW (zt l i) k
 |f+1,i,k=>jW (zt l i) k||(zt l i).after.toList.any fun e=>Rf .any e && xD l f e.on k
def jq(l:List Oper)(m:Nat):Bool:=Tv m l.length && (P4 l.length).all fun j=>
 ((zt l j).after.toList.all fun e=> !Rf .any e||RA e.on j) &&
 (bif RA j m then(P4 m).all fun i=>OW i j||(match(zt l i).dst with
  |some t=> !((Pt l.toArray<|zt l j).contains t||(zt l j).dst==some t)||(bif RA i j then jW (zt l j) i else jW (zt l i) j)
  |none=>true)
  else bif OW j m then(P4 m).all fun k=>xD l 16 m k else jW (zt l j) (j-1))
section
variable{l:List Oper}{m:Nat}
theorem vA{o:Oper}{i:Nat}(h:jW o i=true):∃e∈o.after,Rf .any e=true/\e.on=i:=by
 unfold jW at h;rw[TM]at h;simp_all
theorem fa(h:fG l m=true):m<=l.length/\
 (∀j,j<l.length->∀e∈(zt l j).after,Rf .any e=true->e.on<j)/\
 (∀j i t,j<m->i<m->i≠j->(zt l i).dst=some t->(t∈Pt l.toArray (zt l j)\/(zt l j).dst=some t)->(i<j->jW (zt l j) i=true)/\(j<i->jW (zt l i) j=true))/\
 (∀j,m<=j->j<l.length->∀k,k<j->jW (zt l j) k=true):=by
 unfold fG at h;rw[IR,Pe]at h;obtain⟨h0,h1⟩:=h;have ha:=PC h0;refine⟨ha,fun j hj e he hb=> ?_,fun j i t hj hi hc ht hl=> ?_,fun j hd hj k hk=> ?_⟩
 ·have:=h1 j<|PK.2 hj;rw[IR,Pe]at this;have:=this.1 e<|R8.2 he;rw[hb]at this;simpa using this
 ·have:=h1 j (PK.2<|by omega);rw[IR]at this;have h2:=this.2;rw[show RA j m=true by simpa using hj,cond_true,Pe]at h2;have h3:=h2 i<|PK.2 hi;rw[qt hc,Sa,ht]at h3;have h4:((Pt l.toArray<|zt l j).contains t||(zt l j).dst==some t)=true:=by
   rw[R2];rcases hl with hl|hl
   ·left;simpa using hl
   ·right;simp[hl]
  simp only[h4,SC,Sa]at h3;constructor
  ·intro hf;rwa[show RA i j=true by simpa using hf,cond_true]at h3
  ·intro hg;rwa[QV (by omega),cond_false]at h3
 ·have:=h1 j<|PK.2 hj;rw[IR]at this;have h2:=this.2;rw[QV hd,cond_false,Pe]at h2;exact h2 k<|PK.2 hk
theorem vP(h:jq l m=true):m<=l.length/\
 (∀j,j<l.length->∀e∈(zt l j).after,Rf .any e=true->e.on<j)/\
 (∀j i t,j<m->i<m->i≠j->(zt l i).dst=some t->(t∈Pt l.toArray (zt l j)\/(zt l j).dst=some t)->(i<j->jW (zt l j) i=true)/\(j<i->jW (zt l i) j=true))/\
 (∀j,m<j->j<l.length->jW (zt l j) (j-1)=true)/\(m<l.length->∀k,k<m->xD l 16 m k=true):=by
 unfold jq at h;rw[IR,Pe]at h;obtain⟨h0,h1⟩:=h;have ha:=PC h0;refine⟨ha,fun j hj e he hb=> ?_,fun j i t hj hi hc ht hl=> ?_,fun j hf hj=> ?_,fun hm k hk=> ?_⟩
 ·have:=h1 j<|PK.2 hj;rw[IR,Pe]at this;have:=this.1 e<|R8.2 he;rw[hb]at this;simpa using this
 ·have:=h1 j (PK.2<|by omega);rw[IR]at this;have h2:=this.2;rw[show RA j m=true by simpa using hj,cond_true,Pe]at h2;have h3:=h2 i<|PK.2 hi;rw[qt hc,Sa,ht]at h3;have h4:((Pt l.toArray<|zt l j).contains t||(zt l j).dst==some t)=true:=by
   rw[R2];rcases hl with hl|hl
   ·left;simpa using hl
   ·right;simp[hl]
  simp only[h4,SC,Sa]at h3;constructor
  ·intro hd;rwa[show RA i j=true by simpa using hd,cond_true]at h3
  ·intro hg;rwa[QV (by omega),cond_false]at h3
 ·have:=h1 j<|PK.2 hj;rw[IR]at this;have h2:=this.2;rw[QV (by omega),cond_false,qt (by omega),cond_false]at h2;exact h2
 ·have:=h1 m<|PK.2 hm;rw[IR]at this;have h2:=this.2;rw[QV<|O3 m,cond_false,Nat.beq_refl,cond_true,Pe]at h2;exact h2 k<|PK.2 hk
theorem ZF{listed:Array Bool}(ha:∀i,i<l.length->listed.getD i false=true->∀e∈(zt l i).after,Rf .any e=true->listed.getD e.on false=true)
 (h1:∀j,j<l.length->∀e∈(zt l j).after,Rf .any e=true->e.on<j):∀(f i k:Nat),i<l.length->(∀e∈(zt l i).after,Rf .any e=true->listed.getD e.on false=true)->xD l f i k=true->listed.getD k false=true
 |0,i,k,hi,hd,h=>by
  obtain⟨e,he,hb,hf⟩:=vA h;grind
 |f+1,i,k,hi,hd,h=>by
  unfold xD at h;rw[R2]at h;rcases h with h|h
  ·obtain⟨e,he,hb,hf⟩:=vA h;grind
  ·rw[TM]at h;obtain⟨e,he,hx⟩:=h;rw[IR]at hx;have hc:=R8.1 he;have hg:=h1 i hi e hc hx.1;exact ZF ha h1 f e.on k (by omega) (ha e.on (by omega)<|hd e hc hx.1) hx.2
theorem qp{i:Nat}(h:i<l.length):l.toArray[i]? =some (zt l i):=by
 simp[zt,h]
end
theorem tz{α:Type}{e:zv α}{S:Nat->Prop}{w:World}:(fV (eS e) [] (.slice none 0 0)).p S w:=yX.2 gq.nil
theorem getD_some{α:Type}{l:List α}{k:Nat}(z:α)(h:k<l.length):l[k]? =some (l.getD k z):=by grind
def zY(l:List Nat):Prop:=∀x∈l,x<18446744073709551616
theorem XF(t:Tmp):∀(r:List (Oper×Pr)) (K:List (Tmp×Pr)),
 (∃(i:Nat) (x:Oper×Pr),r[i]? =some x/\x.1.dst=some t/\(∀(i':Nat) (x':Oper×Pr),r[i']? =some x'->x'.1.dst=some t->i'<=i)/\(aY r K).find? (fun y=>OW y.1 t)=some (t,x.2))\/
 ((∀(i:Nat) (x:Oper×Pr),r[i]? =some x->x.1.dst≠some t)/\(aY r K).find? (fun y=>OW y.1 t)=K.find? (fun y=>OW y.1 t))
 |[],K=> .inr ⟨fun i x h=>by simp at h,rfl⟩
 |(o,Φ)::r,K=>by
  rcases XF t r (YY o.dst Φ K)with⟨i,x,h1,h2,h3,h4⟩|⟨h1,h2⟩
  ·refine .inl ⟨i+1,x,by simpa using h1,h2,fun i' x' ha hd=> ?_,h4⟩
   cases i' with
   |zero=>omega
   |succ i'=>have:=h3 i' x' (by simpa using ha) hd;omega
  ·by_cases hd:o.dst=some t
   ·refine .inl ⟨0,(o,Φ),rfl,hd,fun i' x' ha hc=> ?_,?_⟩
    ·grind
    ·show(aY r<|YY o.dst Φ K).find? _=_;rw[h2,hd];simp[YY]
   ·refine .inr ⟨fun i x hx=> ?_,?_⟩
    ·grind
    ·show(aY r<|YY o.dst Φ K).find? _=_;rw[h2]
     cases hb:o.dst with
     |none=>rfl
     |some d=>
      have:OW d t=false:=qt fun e=>hd (by rw[hb,e]);simp[YY,this]
theorem gl{P:Program}{ops:Array Oper}{ms:List MF}{Γ:List FF}{env0:yb}:∀(r:List (Oper×Pr)) (K:List (Tmp×Pr)) (i:Nat) (x:Oper×Pr),Mf P ops ms Γ env0 r K->r[i]? =some x->Ob P ops ms Γ env0 (aY (r.take i) K) x.1 x.2
 |[],_,_,_,_,h=>by simp at h
 |(o,Φ)::r,K,0,x,h,hx=>by simp at hx;subst hx;exact h.1
 |(o,Φ)::r,K,i+1,x,h,hx=>by
  have:=gl r (YY o.dst Φ K) i x h.2 (by simpa using hx);simpa[aY]using this
theorem uF{K:List (Tmp×Pr)}{env0 env:yb}{S:Nat->Prop}{w:World}:∀(ts:List Tmp),(∀t∈ts,qB K env0 env S w t)->jE K env0 env S w ts
 |[],_=>trivial
 |t::ts,h=>⟨h t<|Nm,uF ts fun u hu=>h u<|H1 _ hu⟩
theorem WI{listed:Array Bool}{i:Nat}(hi:i<listed.size)(hu:listed.getD i true=false):∀(r:List Nat),
 (r.countP fun k=> !(listed.setIfInBounds i true).getD k true)<=(r.countP fun k=> !listed.getD k true)/\
 (i∈r->(r.countP fun k=> !(listed.setIfInBounds i true).getD k true)<(r.countP fun k=> !listed.getD k true))
 |[]=>⟨O3 _,fun h=>by cases h⟩
 |k::r=>by
  have ih:=WI hi hu r;rw[List.countP_cons,List.countP_cons];by_cases hk:i=k
  ·subst hk;have e1:(listed.setIfInBounds i true).getD i true=true:=by simp[hi]
   grind
  ·simp_all
section
variable{P:Program}{N:Nd}{we:World}{Se:Nat->Prop}{ms:List MF}{Γ:List FF}{Q:Qs}{env0:yb}{l:List Oper}{m:Nat}
theorem HX(hc:fG l m=true){Q':Exit->Act->World->Prop}:∀(fuel j:Nat) (listed:Array Bool) (a:Act) (w:World),m<=j->j<=l.length->l.length-j<=fuel->listed.size=l.length->
 (∀k,k<l.length->listed.getD k true=decide (k<j))->wpListIn N.F 0 P l.toArray Q' (l.drop j) a w->wpAnyIn N.F 0 P .any l.toArray Q' fuel listed a w:=by
 obtain⟨h0,h1,h2,h3⟩:=fa hc;have hd:∀(j:Nat) (listed:Array Bool),m<=j->j<=l.length->listed.size=l.length->(∀k,k<l.length->listed.getD k true=decide (k<j))->∀i,i∈So .any l.toArray listed->i=j:=by
  intro j listed hn hp hm ha i hi;obtain⟨hu,o,ho,ht⟩:=mem_ready.1 hi;have hs:i<l.length:=by simpa using(Ph.1 ho).1
  rw[ha i hs]at hu;have hC:j<=i:=by simpa using hu
  rw[qp hs]at ho;cases ho;rcases Re j i with hg|hge
  ·obtain⟨e,he,hb,hy⟩:=vA<|h3 i (by omega) hs j hg;have hl:=ht e he hb;rw[hy]at hl;have hj:=ha j (by omega);have hz:j<listed.size:=by omega
   simp only[Px,RF hz,TN]at hl hj;rw[hl]at hj;simp at hj
  ·omega
 intro fuel
 induction fuel with
 |zero=>
  intro j listed a w hn hp hf hm ha hw;have:j=l.length:=by omega
  subst this;refine⟨?_,by simpa[wpListIn]using hw⟩
  cases hr:So .any l.toArray listed with
  |nil=>rfl
  |cons i r=>
   have hi:i∈So .any l.toArray listed:=by rw[hr];exact Nm
   have h4:=hd _ listed hn hp hm ha i hi;obtain⟨hu,o,ho,_⟩:=mem_ready.1 hi;have:=(Ph.1 ho).1;simp at this;omega
 |succ fuel ih=>
  intro j listed a w hn hp hf hm ha hw;rcases Re j l.length with hg|hge
  ·have hv:j∈So .any l.toArray listed:=by
    refine mem_ready.2 ⟨by rw[ha j hg];simp,zt l j,qp hg,fun e he hb=> ?_⟩;have:=h1 j hg e he hb;have hl:=ha e.on (by omega);have hA:e.on<listed.size:=by omega
    simp only[Px,RF hA,TN]at hl⊢;rw[hl];simpa using this
   refine⟨fun h=>(by rw[h]at hv;cases hv),fun i hi=> ?_⟩;have:=hd j listed hn hp hm ha i hi;subst this;rw[R0 hg]at hw;have hB:l[i]=zt l i:=by simp[zt,hg]
   unfold wpListIn at hw;unfold wpOpIn;rw[qp hg];simp only[<-hB];have next:∀a w,wpListIn N.F 0 P l.toArray Q' (l.drop<|i+1) a w->wpAnyIn N.F 0 P .any l.toArray Q' fuel (listed.setIfInBounds i true) a w:=fun a w h=>
    ih (i+1) _ a w (by omega) (by omega) (by omega) (by simpa using hm) (fun k hk=>by
     by_cases hx:i=k
     ·subst hx;have:i<listed.size:=by omega
      simp[this]
     ·rw[getD_set_ne true hx,ha k hk];simp only[decide_eq_decide];omega) h
   split
   ·rename_i hq;rw[iq hq]at hw;exact Oper.wpIn_mono next hw
   ·rename_i hq;rw[ir hq]at hw;exact⟨hw.1,next _ _ hw.2⟩
  ·have:j=l.length:=by omega
   subst this;refine⟨fun _=>by simpa[wpListIn]using hw,fun i hi=> ?_⟩;have h4:=hd _ listed hn hp hm ha i hi;obtain⟨hu,o,ho,_⟩:=mem_ready.1 hi;have:=(Ph.1 ho).1;simp at this;omega
theorem YL(hc:jq l m=true){Q':Exit->Act->World->Prop}:∀(fuel j:Nat) (listed:Array Bool) (a:Act) (w:World),m<=j->j<=l.length->l.length-j<=fuel->listed.size=l.length->
 (∀k,k<l.length->listed.getD k true=decide (k<j))->wpListIn N.F 0 P l.toArray Q' (l.drop j) a w->wpAnyIn N.F 0 P .any l.toArray Q' fuel listed a w:=by
 obtain⟨h0,h1,h2,h3,_⟩:=vP hc;have hd:∀(j:Nat) (listed:Array Bool),m<=j->j<=l.length->listed.size=l.length->(∀k,k<l.length->listed.getD k true=decide (k<j))->∀i,i∈So .any l.toArray listed->i=j:=by
  intro j listed hn hp hm ha i hi;obtain⟨hu,o,ho,ht⟩:=mem_ready.1 hi;have hs:i<l.length:=by simpa using(Ph.1 ho).1
  rw[ha i hs]at hu;have hC:j<=i:=by simpa using hu
  rw[qp hs]at ho;cases ho;rcases Re j i with hg|hge
  ·obtain⟨e,he,hb,hy⟩:=vA<|h3 i (by omega) hs;have hl:=ht e he hb;rw[hy]at hl;have hj:=ha (i-1) (by omega);have hz:i-1<listed.size:=by omega
   simp only[Px,RF hz,TN]at hl hj;rw[hl]at hj;simp at hj;omega
  ·omega
 intro fuel
 induction fuel with
 |zero=>
  intro j listed a w hn hp hf hm ha hw;have:j=l.length:=by omega
  subst this;refine⟨?_,by simpa[wpListIn]using hw⟩
  cases hr:So .any l.toArray listed with
  |nil=>rfl
  |cons i r=>
   have hi:i∈So .any l.toArray listed:=by rw[hr];exact Nm
   have h4:=hd _ listed hn hp hm ha i hi;obtain⟨hu,o,ho,_⟩:=mem_ready.1 hi;have:=(Ph.1 ho).1;simp at this;omega
 |succ fuel ih=>
  intro j listed a w hn hp hf hm ha hw;rcases Re j l.length with hg|hge
  ·have hv:j∈So .any l.toArray listed:=by
    refine mem_ready.2 ⟨by rw[ha j hg];simp,zt l j,qp hg,fun e he hb=> ?_⟩;have:=h1 j hg e he hb;have hl:=ha e.on (by omega);have hA:e.on<listed.size:=by omega
    simp only[Px,RF hA,TN]at hl⊢;rw[hl];simpa using this
   refine⟨fun h=>(by rw[h]at hv;cases hv),fun i hi=> ?_⟩;have:=hd j listed hn hp hm ha i hi;subst this;rw[R0 hg]at hw;have hB:l[i]=zt l i:=by simp[zt,hg]
   unfold wpListIn at hw;unfold wpOpIn;rw[qp hg];simp only[<-hB];have next:∀a w,wpListIn N.F 0 P l.toArray Q' (l.drop<|i+1) a w->wpAnyIn N.F 0 P .any l.toArray Q' fuel (listed.setIfInBounds i true) a w:=fun a w h=>
    ih (i+1) _ a w (by omega) (by omega) (by omega) (by simpa using hm) (fun k hk=>by
     by_cases hx:i=k
     ·subst hx;have:i<listed.size:=by omega
      simp[this]
     ·rw[getD_set_ne true hx,ha k hk];simp only[decide_eq_decide];omega) h
   split
   ·rename_i hq;rw[iq hq]at hw;exact Oper.wpIn_mono next hw
   ·rename_i hq;rw[ir hq]at hw;exact⟨hw.1,next _ _ hw.2⟩
  ·have:j=l.length:=by omega
   subst this;refine⟨fun _=>by simpa[wpListIn]using hw,fun i hi=> ?_⟩;have h4:=hd _ listed hn hp hm ha i hi;obtain⟨hu,o,ho,_⟩:=mem_ready.1 hi;have:=(Ph.1 ho).1;simp at this;omega
theorem fA{id:Nat}(m:Nat)(Φs:List Pr)(ts:List Tmp)(hm:P.follows .mixedOrders=true)(hc:jq l m=true)(hl:Φs.length=m)(hd:(l.all fun o=>xr N.n o.dst)=true)
 (hX:Mf P l.toArray ms Γ env0 ((l.take m).zip Φs) [])
 (fin:∀(S:Nat->Prop) (w:World) (env:yb),Tl w S->ze S Γ w->jE (aY ((l.take m).zip Φs) []) env0 env S w ts->
  ∃Γ' live,ze S Γ' w/\qH env live/\∀rest,TL P N we Se ms Γ' l.toArray (l.drop m) Q<|L live rest):
 T P N we Se ms Γ (.region id l.toArray true) Q env0:=by
 intro w0 hst a0 ha1 ha2 ha3;obtain⟨h0,h1,h2,h3,h3'⟩:=vP hc;obtain⟨s1,s2,s3,S,s4,s5,s6,s7,s8⟩:=hst;have mk:∀w' Δ,jA w0 w'->ze S Δ w'->St we Se ms Δ w':=fun w' Δ x hΔ=>
  ⟨s1.trans x,s2,s3,S,s4,fun k hk=>s5 k<|Pz x.size hk,s6,z7.keep x.to (fun m hm i hi=>x.block i (z7.lt s7 m hm i hi) trivial) s7,hΔ⟩
 have hpl:((l.take m).zip Φs).length=m:=by simp;omega
 have hC:∀i,i<m->∃Φ,((l.take m).zip Φs)[i]? =some (zt l i,Φ):=fun i hi=>by
  have hn:i<l.length:=by omega
  refine⟨Φs[i]'(by omega),?_⟩;rw[S6];refine⟨?_,by simp⟩;rw[Rk,iq hi];simp[zt,hn]
 have hp:∀i x,((l.take m).zip Φs)[i]? =some x->i<m/\x.1=zt l i:=fun i x hx=>by
  have hi:i<m:=by have:=(O4.1 hx).1;omega
  obtain⟨Φ,h⟩:=hC i hi;rw[h]at hx;cases hx;exact⟨hi,rfl⟩
 refine wpIn_region_any hm ?_
 have key:∀(fuel:Nat) (listed:Array Bool) (a:Act) (w:World),(P4 l.length).countP (fun k=> !listed.getD k true)<=fuel->listed.size=l.length->a.tmps.size=N.n->a.defers=N.ds->jA w0 w->
  (∀i,m<=i->i<l.length->listed.getD i true=false)->
  (∀i,i<l.length->listed.getD i false=true->∀e∈(zt l i).after,Rf .any e=true->listed.getD e.on false=true)->
  (∀t,((∀i,i<m->listed.getD i false=true->(zt l i).dst≠some t)/\zg a t=env0 t)\/
   ∃i Φ,i<m/\listed.getD i false=true/\((l.take m).zip Φs)[i]? =some (zt l i,Φ)/\(zt l i).dst=some t/\(∀i',i'<m->listed.getD i' false=true->(zt l i').dst=some t->i'<=i)/\Φ.p S (zg a t) w)->
  wpAnyIn N.F 0 P .any l.toArray (lY N Q) fuel listed a w:=by
  intro fuel
  induction fuel with
  |zero=>
   intro listed a w hM hL b1 b2 x hq hw ha;have hf:∀k,k<l.length->listed.getD k true=true:=fun k hk=>by
    have hz:(P4 l.length).countP (fun k=> !listed.getD k true)=0:=by omega
    rw[List.countP_eq_zero]at hz;have:=hz k<|PK.2 hk;simpa using this
   have hml:m=l.length:=by
    rcases Re m l.length with hD|hge
    ·have h5:=hq m (O3 _) hD;rw[hf m hD]at h5;cases h5
    ·omega
   have hI:=ze.keep x.to s8;obtain⟨Γ',live,f1,f2,f3⟩:=fin S w (zg a) (s2.at (s1.trans x) fun k hk=>s5 k<|Pz x.size hk) hI (uF ts fun t _=>hJ hC hp ha (fun i hi=>by
    have h6:=hf i (by omega);rwa[getD_eq (by omega:i<listed.size)]at h6))
   refine YL hc 0 m listed a w (O3 _) h0 (by omega) hL (fun k hk=>by rw[hf k hk];simp;omega) ?_;exact f3 (zg a) w (mk w Γ' x f1) a b1 b2 (qP f2).symm
  |succ fuel ih=>
   intro listed a w hM hL b1 b2 x hq hw ha;by_cases hf:∀k,k<m->listed.getD k true=true
   ·have hI:=ze.keep x.to s8;obtain⟨Γ',live,f1,f2,f3⟩:=fin S w (zg a) (s2.at (s1.trans x) fun k hk=>s5 k<|Pz x.size hk) hI (uF ts fun t _=>hJ hC hp ha (fun i hi=>by
     have h6:=hf i hi;rwa[getD_eq (by omega:i<listed.size)]at h6))
    have hY:∀k,k<l.length->listed.getD k true=decide (k<m):=fun k hk=>by
     by_cases hQ:k<m
     ·rw[hf k hQ];simp[hQ]
     ·rw[hq k (by omega) hk];simp[hQ]
    refine YL hc (fuel+1) m listed a w (O3 _) h0 (Pz ?_ hM) hL hY ?_
    ·rw[show(P4 l.length).countP (fun k=> !listed.getD k true)=(P4 l.length).countP (fun k=> !decide (k<m))from List.countP_congr fun k hk=>by rw[hY k<|PK.1 hk]];exact count_ge m l.length
    ·exact f3 (zg a) w (mk w Γ' x f1) a b1 b2 (qP f2).symm
   ·have hZ:∃k,k<m/\listed.getD k true=false:=by
     by_cases hh:∃k,k<m/\listed.getD k true=false
     ·exact hh
     ·exact absurd (fun k hk=>by
       cases hb:listed.getD k true
       ·exact absurd ⟨k,hk,hb⟩ hh
       ·rfl) hf
    refine⟨fun hr=> ?_,fun i hi=> ?_⟩
    ·exfalso;obtain⟨k,hk,hR,h4⟩:=first_un hZ;have:k∈So .any l.toArray listed:=mem_ready.2 ⟨hR,zt l k,qp (by omega),fun e he hb=>by
      have h5:=h1 k (by omega) e he hb;have h6:=h4 e.on h5;rwa[getD_eq (by omega:e.on<listed.size)]at h6⟩
     rw[hr]at this;cases this
    ·obtain⟨hu,o,ho,hA⟩:=mem_ready.1 hi;have hn:i<l.length:=by simpa using(Ph.1 ho).1
     rw[qp hn]at ho;cases ho;have hS:i<m:=by
      rcases Re i m with h|h
      ·exact h
      ·exfalso;by_cases h9:m=i
       ·subst h9;obtain⟨k,hk,hR⟩:=hZ;have h6:=ZF hw h1 16 m k hn hA<|h3' hn k hk;rw[<-getD_eq (by omega:k<listed.size),hR]at h6;cases h6
       ·obtain⟨e,he,hb,hK⟩:=vA<|h3 i (by omega) hn;have h6:=hA e he hb;rw[hK,<-getD_eq (by omega:i-1<listed.size),hq (i-1) (by omega)<|by omega]at h6;cases h6
     obtain⟨Φ,hΦ⟩:=hC i hS;have hob:=gl _ [] i _ hX hΦ;have hB:∀t,(t∈Pt l.toArray (zt l i)\/(zt l i).dst=some t)->∀j,j<m->(zt l j).dst=some t->j≠i->(listed.getD j false=true↔j<i):=by
      intro t ht j hj hF hT;have h7:=h2 i j t hS hj hT hF ht;constructor
      ·intro hg;rcases Re j i with h|h
       ·exact h
       ·exfalso;obtain⟨e,he,hb,hK⟩:=vA (h7.2<|by omega);have h8:=hw j (by omega) hg e he hb;rw[hK,<-getD_eq (by omega:i<listed.size),hu]at h8;cases h8
      ·intro hs;obtain⟨e,he,hb,hK⟩:=vA<|h7.1 hs;have h8:=hA e he hb;rwa[hK]at h8
     have h':listed.getD i false=false:=by rw[<-getD_eq (by omega:i<listed.size)];exact hu
     have hU:jE (aY (((l.take m).zip Φs).take i) []) env0 (zg a) S w (Pt l.toArray<|zt l i):=by
      refine uF _ fun t ht=> ?_;have tk:∀(j:Nat) (y:Oper×Pr),(((l.take m).zip Φs).take i)[j]? =some y->j<i/\((l.take m).zip Φs)[j]? =some y:=fun j y hy=>by
       rw[Rk]at hy;split at hy
       ·exact⟨by assumption,hy⟩
       ·cases hy
      unfold qB;rcases XF t (((l.take m).zip Φs).take i) []with⟨j,y,g1,g2,g3,g4⟩|⟨g1,g2⟩
      ·rw[g4];obtain⟨hs,hy⟩:=tk j y g1;obtain⟨hE,hV⟩:=hp j y hy;rw[hV]at g2;have hg:=(hB t (.inl ht) j hE g2<|by omega).2 hs;rcases ha t with⟨f1,_⟩|⟨k,Φk,k1,k2,k3,k4,k5,k6⟩
       ·exact absurd g2<|f1 j hE hg
       ·have hW:k=j:=by
         have a1:=k5 j hE hg g2;have hG:k<i:=(hB t (.inl ht) k k1 k4<|fun e=>by subst e;rw[h']at k2;cases k2).1 k2;have a2:=g3 k (zt l k,Φk) (by rw[Rk,iq hG];exact k3) k4;omega
        subst hW;rw[k3]at hy;cases hy;exact k6
      ·rw[g2];simp only[List.find?_nil];rcases ha t with⟨_,f2⟩|⟨k,Φk,k1,k2,k3,k4,k5,k6⟩
       ·exact f2
       ·exfalso;have hG:k<i:=(hB t (.inl ht) k k1 k4<|fun e=>by subst e;rw[h']at k2;cases k2).1 k2;exact g1 k (zt l k,Φk) (by rw[Rk,iq hG];exact k3) k4
     have hI:=ze.keep x.to s8;have hN:=hob S w (zg a) (s2.at (s1.trans x) fun k hk=>s5 k<|Pz x.size hk) (z7.keep x.to (fun m hm i hi=>x.block i (z7.lt s7 m hm i hi) trivial) s7) hI hU;have hdi:xr N.n (zt l i).dst=true:=by
      rw[Pe]at hd;refine hd _ ?_;have:zt l i=l[i]:=by simp[zt,hn]
      rw[this];exact Rm _
     have next:∀v w',jA w w'->Φ.p S v w'->wpAnyIn N.F 0 P .any l.toArray (lY N Q) fuel (listed.setIfInBounds i true) (a.put (zt l i).dst v) w':=by
      intro v w' x' hv;have hO:i<listed.size:=by omega
      refine ih _ _ w' ?_ (by simpa using hL) (by rw[kJ];exact b1) (by rw[qy];exact b2) (x.trans x') (fun k hmk hk=> ?_) (fun k hk hlk e he hb=> ?_)<|fun t=> ?_
      ·have:=(WI hO hu<|P4 l.length).2<|PK.2 hn;omega
      ·rw[getD_set_ne true<|by omega];exact hq k hmk hk
      ·by_cases hG:i=k
       ·subst hG;exact getD_set_true<|hA e he hb
       ·rw[getD_set_ne false hG]at hlk;exact getD_set_true<|hw k hk hlk e he hb
      ·rw[qE<|by rw[b1];exact uK hdi];by_cases hH:(zt l i).dst=some t
       ·right;refine⟨i,Φ,hS,by simp[hO],hΦ,hH,fun j hj hg hF=> ?_,?_⟩
        ·by_cases hs:i=j
         ·omega
         ·rw[getD_set_ne false hs]at hg;have:=(hB t (.inr hH) j hj hF<|by omega).1 hg;omega
        ·rw[hH];simpa[put,L]using hv
       ·have henv:put (zg a) (zt l i).dst v t=zg a t:=by
         cases hdd:(zt l i).dst with
         |none=>rfl
         |some dd=>
          have hT:¬t=dd:=fun e=>hH (by rw[hdd,e]);have:OW t dd=false:=qt hT;simp[put,L,this]
        rw[henv];rcases ha t with⟨f1,f2⟩|⟨k,Φk,k1,k2,k3,k4,k5,k6⟩
        ·refine .inl ⟨fun j hj hg=> ?_,f2⟩;by_cases hs:i=j
         ·subst hs;exact hH
         ·rw[getD_set_ne false hs]at hg;exact f1 j hj hg
        ·refine .inr ⟨k,Φk,k1,getD_set_true k2,k3,k4,fun j hj hg hF=> ?_,Φk.keep k6 x'⟩;by_cases hs:i=j
         ·subst hs;exact absurd hF hH
         ·rw[getD_set_ne false hs]at hg;exact k5 j hj hg hF
     unfold wpOpIn;rw[qp hn];simp only[jh];cases hP:zG l.toArray (zg a) (zt l i)
     ·simp only[Pd,if_false];exact⟨fun _ _=>trivial,next undef w (zH.refl _ _) (hN.2 hP)⟩
     ·simp only[if_true];exact(hN.1 hP).wp fun v w' hvw=>next v w' hvw.1 hvw.2
 refine key l.toArray.size _ a0 _ ?_ (by simp) ha1 ha2 (jA.drawn w0 _) (fun i h9 hi=>by simp[hi]) (fun i hi hD=> ?_)<|fun t=> .inl ⟨fun i hi hD=> ?_,by rw[ha3]⟩
 ·exact Pz (TC)<|by simp
 ·have:i<(RE l.toArray.size false).size:=by simpa using hi
  rw[<-getD_eq this]at hD;simp[hi]at hD
 ·have hn:i<l.length:=by omega
  have:i<(RE l.toArray.size false).size:=by simpa using hn
  rw[<-getD_eq this]at hD;simp[hn]at hD
 where
 getD_eq {listed:Array Bool}{i:Nat} (h:i<listed.size):listed.getD i true=listed.getD i false:=by simp[Px,RF h]
 first_un {m:Nat}{listed:Array Bool} (h:∃k,k<m/\listed.getD k true=false):∃k,k<m/\listed.getD k true=false/\∀j,j<k->listed.getD j true=true:=by
  obtain⟨k,hk,hu⟩:=h
  induction k using Nat.strongRecOn with
  |_ k ih=>
   by_cases hh:∃j,j<k/\listed.getD j true=false
   ·obtain⟨j,hj,hju⟩:=hh;exact ih j hj (by omega) hju
   ·refine⟨k,hk,hu,fun j hj=> ?_⟩;cases hb:listed.getD j true
    ·exact absurd ⟨j,hj,hb⟩ hh
    ·rfl
 count_ge (m:Nat):∀n,n-m<=(P4 n).countP (fun k=> !decide (k<m))
  |0=>by simp
  |n+1=>by
   have:=count_ge m n;rw[List.range_succ,List.countP_append];by_cases h:n<m
   ·omega
   ·simp[h];omega
 hJ {Φs:List Pr}{listed:Array Bool}{a:Act}{w:World}{S:Nat->Prop}{l:List Oper}{m:Nat}{env0:yb} (hC:∀i,i<m->∃Φ,((l.take m).zip Φs)[i]? =some (zt l i,Φ)) (hp:∀i x,((l.take m).zip Φs)[i]? =some x->i<m/\x.1=zt l i)
  (ha:∀t,((∀i,i<m->listed.getD i false=true->(zt l i).dst≠some t)/\zg a t=env0 t)\/
   ∃i Φ,i<m/\listed.getD i false=true/\((l.take m).zip Φs)[i]? =some (zt l i,Φ)/\(zt l i).dst=some t/\(∀i',i'<m->listed.getD i' false=true->(zt l i').dst=some t->i'<=i)/\Φ.p S (zg a t) w)
  (hf:∀i,i<m->listed.getD i false=true) {t:Tmp}:qB (aY ((l.take m).zip Φs) []) env0 (zg a) S w t:=by
  unfold qB;rcases XF t ((l.take m).zip Φs) []with⟨j,y,g1,g2,g3,g4⟩|⟨g1,g2⟩
  ·rw[g4];obtain⟨hE,hV⟩:=hp j y g1;rw[hV]at g2;rcases ha t with⟨f1,_⟩|⟨k,Φk,k1,k2,k3,k4,k5,k6⟩
   ·exact absurd g2<|f1 j hE<|hf j hE
   ·have hW:k=j:=by
     have a1:=k5 j hE (hf j hE) g2;have a2:=g3 k (zt l k,Φk) k3 k4;omega
    subst hW;rw[k3]at g1;cases g1;exact k6
  ·rw[g2];simp only[List.find?_nil];rcases ha t with⟨_,f2⟩|⟨k,Φk,k1,k2,k3,k4,k5,k6⟩
   ·exact f2
   ·exact absurd k4<|g1 k (zt l k,Φk) k3
end
end
section
theorem AJ{a b:Nat}:P0.wrap ((a:Int)+(b:Int))=(((a+b)%18446744073709551616:Nat):Int):=by
 rfl
theorem A6{a b:Nat}:P0.wrap ((a:Int)*(b:Int))=(((a*b)%18446744073709551616:Nat):Int):=by
 rfl
theorem Bx{a b:Nat}(h:b<=18446744073709551616):P0.wrap ((a:Int)-(b:Int))=(((a+18446744073709551616-b)%18446744073709551616:Nat):Int):=by
 rw[QY];lia
theorem FT{a:Nat}(h:a<18446744073709551616):P0.wrap (0-(a:Int))=(((18446744073709551616-a)%18446744073709551616:Nat):Int):=by
 rw[QY];lia
theorem mH{a b:Nat}(h:a<18446744073709551616):P0.wrap ((a:Int).tdiv (b:Int))=((a/b:Nat):Int):=by
 exact YF<|R4 (Nat.div_le_self _ _) h
theorem Hs{a b:Nat}:(a:Int).tmod (b:Int)=((a%b:Nat):Int):=(Int.ofNat_tmod a b).symm
section
variable{P:Program}{N:Nd}{we:World}{Se:Nat->Prop}{ms:List MF}{Γ:List FF}{Q:Qs}{env:yb}{ops:Array Oper}{rest:List Oper}
 {d:Option Tmp}{ty yt t:TypeId}{pos:String}{aft:Array Edge}{g:Option (Nat×Bool)}{x y:Operand}
theorem aV{et n cap:Nat}{ao:Option Addr}(hu:P.underlying t=some (.slice et))(hx:ev env x=.slice ao n cap)(w:World):
 (execOp (ev env) ⟨d,.call ⟨.builtin .len,#[x],#[t]⟩,ty,pos,aft,g⟩).run P w=.ok (.value (.int .i64 (n:Int))) w:=by
 simp[execOp,resolve,invoke,builtin,hx,Builtin.len_,goInt,run_underlying hu]
theorem VJ{α:Type}{e:zv α}{E et:Nat}{v:Value}{xs:List α}(i:Nat)(hm:ms[i]? =some (mO e E v xs))(hu:P.underlying t=some (.slice et))(hx:ev env x=v):
 ah P ⟨d,.call ⟨.builtin .len,#[x],#[t]⟩,ty,pos,aft,g⟩ env ms Γ (fun _:Unit=> .int .i64 (xs.length:Int)) (fun _=>[]) (fun _=>xs.length<=9223372036854775807):=by
 intro w S _ hM _;obtain⟨cs,h1,h2⟩:=z7.get hM hm;rcases h1.2 with⟨rfl,h0⟩|⟨g',cap,cur,rfl,hb,hg,hc,ha,_⟩
 ·refine xX.of_value (aV hu hx w) ⟨(),by rw[h0],by lia,zH.refl _ _,trivial⟩
 ·exact xX.of_value (aV hu hx w) ⟨(),rfl,by unfold maxLen at ha;lia,zH.refl _ _,trivial⟩
end
theorem EZ{P:Program}{env:yb}{ms:List MF}{Γ:List FF}{d:Option Tmp}{ty t:TypeId}{pos:String}{aft:Array Edge}{g:Option (Nat×Bool)}{α:Type}{e:zv α}{et:TypeId}{zs:List α}{len bytes:Nat}{zero:Value}{parts:List (Nat×Operand)}{vs:List (Nat×Value)}
 (ht:P.underlying t=some (.slice et)) (hb:jJ P et e.agg e.n bytes zero) (hn:0<e.n) (ha:zs.length=len) (hc:len*e.n<=16777216) (hv:parts.map (fun x=>(x.1,ev env x.2))=vs)
 (hd:∀(S:Nat->Prop) (w:World),ze S Γ w->uB (fun i=>some (i*e.n,e.n)) vs 0) (hp:∀(S:Nat->Prop) (w:World),ze S Γ w->zX e S zs (wM vs) w):
 ah P ⟨d,.buildSlice t len parts.toArray,ty,pos,aft,g⟩ env ms Γ (fun v:Value=>v) (fun v=>[fV (eS e) zs v]) (fun _=>True):=Y7 ht hb hn ha hc hv hd hp
end
section
theorem Bt{P:Program}{f:FuncId}{fn:Func}{e:Array Value->Sem Value}{args:Array Value}{w:World}{v:Value}(hf:P.funcs[f]? =some fn)(hn:(fn.name== "runtime.NumGoroutine")=false)(hb:fn.body=none)
 (h1:(SP fn).isNone=true) (h2:Tb fn=some e) (he:(e args).run P w=.ok v w):(callFunc f args).run P w=.ok (.value v) w:=by simp_all [callFunc]
section
variable{P:Program}{env:yb}{d:Option Tmp}{ty:TypeId}{pos:String}{aft:Array Edge}{g:Option (Nat×Bool)}
theorem C8{f:FuncId}{fn:Func}{e:Array Value->Sem Value}{aas:List Operand}{ts:Array TypeId}{args:List Value}{v:Value}(hf:P.funcs[f]? =some fn)(hn:(fn.name== "runtime.NumGoroutine")=false)(hb:fn.body=none)
 (h1:(SP fn).isNone=true) (h2:Tb fn=some e) (ha:aas.map (ev env)=args) (he:∀w,(e args.toArray).run P w=.ok v w) (w:World):
 (execOp (ev env) ⟨d,.call ⟨.value (.func f),aas.toArray,ts⟩,ty,pos,aft,g⟩).run P w=.ok (.value v) w:=by
 have:=Bt hf hn hb h1 h2<|he w;simp[execOp,resolve,ev,Rn,invoke,ha,this]
theorem ta(s:String)(x y c:Value):∃z:String,PN s #[x,y,c]=(do
 let c:=(<-asInt c).toNat
 if c>1 then unsupported (.noEntry z)
 pure ((<-asInt x).toNat,(<-asInt y).toNat,c)):=⟨_,rfl⟩
theorem Kc(s:String){x y c:Nat}(hc:c<=1)(w:World):(PN s #[.int .u64 (x:Int),.int .u64 (y:Int),.int .u64 (c:Int)]).run P w=.ok (x,y,c) w:=by
 have:¬c>1:=by lia
 obtain⟨z,hz⟩:=ta s (.int .u64 x) (.int .u64 y) (.int .u64 c);rw[hz];simp only[asInt,asIntOf,O5,Pg,O0,Ry,this,if_false]
theorem lQ{x y c:Nat}(hc:c<=1)(w:World):((do
 let(x,y,c)<-PN "Add64" #[.int .u64 (x:Int),.int .u64 (y:Int),.int .u64 (c:Int)]
 pure (Ra ((x+y+c)%Pj)<|(x+y+c)/Pj):Sem Value)).run P w=
  .ok (.tuple #[.int .u64 (((x+y+c)%18446744073709551616:Nat):Int),.int .u64 (((x+y+c)/18446744073709551616:Nat):Int)]) w:=by
 rw[O5,Kc _ hc];rfl
theorem lR{x y c:Nat}(hc:c<=1)(w:World):((do
 let(x,y,b)<-PN "Sub64" #[.int .u64 (x:Int),.int .u64 (y:Int),.int .u64 (c:Int)]
 pure (Ra ((x+Pj-y-b)%Pj) (if x<y+b then 1 else 0)):Sem Value)).run P w=
  .ok (.tuple #[.int .u64 (((x+18446744073709551616-y-c)%18446744073709551616:Nat):Int),.int .u64 ((if x<y+c then 1 else 0:Nat):Int)]) w:=by
 rw[O5,Kc _ hc];rfl
theorem BL{f:FuncId}{fn:Func}{a b c:Operand}{ts:Array TypeId}{x y z:Nat}(hf:P.funcs[f]? =some fn)(hn:(fn.name== "runtime.NumGoroutine")=false)(hb:fn.body=none)
 (h1:(SP fn).isNone=true) (h2:Tb fn=some (fun args=>do
  let(x,y,c)<-PN "Add64" args
  pure (Ra ((x+y+c)%Pj)<|(x+y+c)/Pj)))
 (ha:ev env a=.int .u64 (x:Int)) (hc:ev env b=.int .u64 (y:Int)) (hd:ev env c=.int .u64 (z:Int)) (hz:z<=1) (w:World):
 (execOp (ev env) ⟨d,.call ⟨.value (.func f),#[a,b,c],ts⟩,ty,pos,aft,g⟩).run P w=
  .ok (.value (.tuple #[.int .u64 (((x+y+z)%18446744073709551616:Nat):Int),.int .u64 (((x+y+z)/18446744073709551616:Nat):Int)])) w:=
 C8 hf hn hb h1 h2 (by simp[ha,hc,hd]) (fun w=>lQ hz w) w
theorem Ct{f:FuncId}{fn:Func}{a b c:Operand}{ts:Array TypeId}{x y z:Nat}(hf:P.funcs[f]? =some fn)(hn:(fn.name== "runtime.NumGoroutine")=false)(hb:fn.body=none)
 (h1:(SP fn).isNone=true) (h2:Tb fn=some (fun args=>do
  let(x,y,b)<-PN "Sub64" args
  pure (Ra ((x+Pj-y-b)%Pj) (if x<y+b then 1 else 0))))
 (ha:ev env a=.int .u64 (x:Int)) (hc:ev env b=.int .u64 (y:Int)) (hd:ev env c=.int .u64 (z:Int)) (hz:z<=1) (w:World):
 (execOp (ev env) ⟨d,.call ⟨.value (.func f),#[a,b,c],ts⟩,ty,pos,aft,g⟩).run P w=
  .ok (.value (.tuple #[.int .u64 (((x+18446744073709551616-y-z)%18446744073709551616:Nat):Int),.int .u64 ((if x<y+z then 1 else 0:Nat):Int)])) w:=
 C8 hf hn hb h1 h2 (by simp[ha,hc,hd]) (fun w=>lR hz w) w
end
def CD(P:Program)(w:World)(env:yb):ResultVar->Value->Prop
 |.tmp t,v=>env t=v
 |.cell a t,v=>∃ad,env a=.pointer (some ad)/\(loadVar t ad).run P w=.ok v w
def Zl(P:Program)(w:World)(env:yb):List ResultVar->List Value->Prop
 |[],[]=>True
 |r::rs,v::vs=>CD P w env r v/\Zl P w env rs vs
 |_,_=>False
theorem aX(P:Program)(w:World)(a:Act):∀(rs:List ResultVar) (vs:List Value),Zl P w (zg a) rs vs->(rs.mapM<|QZ a.tmps).run P w=Result.ok vs w
 |[],[],_=>by simp
 |r::rs,v::vs,⟨h1,h2⟩=>by
  have ih:=aX P w a rs vs h2;have h:(QZ a.tmps r).run P w=.ok v w:=by
   cases r with
   |tmp t=>simp only[CD]at h1;simp[QZ,<-h1,zg]
   |cell x t=>
    obtain⟨ad,e1,e2⟩:=h1;have e1':a.tmps.getD x undef=.pointer (some ad):=e1;simp only[QZ,e1',O5,asAddr,Pg,O0,e2]
  simp_all
 |[],_::_,h=>h.elim
 |_::_,[],h=>h.elim
def wQ:List Value->Value
 |[v]=>v
 |vs=> .tuple vs.toArray
theorem qz{P:Program}{fn:Func}{rs:List ResultVar}{vs:List Value}{w:World}{a:Act}(hr:fn.results=rs.toArray)(h:Zl P w (zg a) rs vs):(results fn a.tmps).run P w=.ok (wQ vs) w:=by
 have e:results fn a.tmps=(do let vs<-fn.results.mapM (QZ a.tmps);pure (if h:vs.size=1 then vs[0]else .tuple vs)):=by rfl
 rw[e,hr,Array.mapM_eq_mapM_toList];have:=aX P w a rs vs h;simp only[O5,Sem.run_map,this]
 match vs with
 |[]=>simp[wQ]
 |[v]=>simp[wQ]
 |v::u::r=>simp[wQ]
section
variable{P:Program}{we:World}{Se:Nat->Prop}{ms:List MF}{Γ:List FF}{env:yb}{U:Type}{val:U->Value}{facts:U->List FF}{ok:U->Prop}{fn:Func}
theorem oo{α:Type}{e:zv α}{E b:Nat}{z:α}{w:World}{bytes:Nat}{zero:Value}{R:Prop}{a:Tmp}(i:Nat)(hw:St we Se ms Γ w)(hm:ms[i]? =some (mB e.c E b z))(ha:env a=.pointer (some ⟨b,0,none⟩))
 (ht:jJ P E e.agg e.n bytes zero) (k:∀v,St we Se ms (fV e z v::Γ) w->CD P w env (.cell a E) v->R):R:=by
 obtain⟨h1,h2,h3,S,h4,h5,h6,h7,h8⟩:=hw;obtain⟨cs,hg,hp⟩:=z7.get h7 hm;have hb:=At.row hg;exact k (e.val cs.toList) ⟨h1,h2,h3,S,h4,h5,h6,h7,⟨cs.toList,rfl,hp⟩,h8⟩ ⟨_,ha,Yh ht hp hb⟩
end
def Ud{U:Type}(P:Program)(f:FuncId)(args:Array Value)(ms:List MF)(Γ:List FF)(val:U->Value)(own:U->List MF)(facts:U->List FF)(ok:U->Prop):Prop:=
 ∀we Se F G w,St we Se (ms++F) (Γ++G) w->Calls P f args w (fun e w'=>∃u,e=.returned (val u)/\ok u/\St we Se (own u++F) (facts u++G) w')
def dE{U:Type}(P:Program)(fn:Func)(we:World)(Se:Nat->Prop)(F:List MF)(G:List FF)(val:U->Value)(own:U->List MF)(facts:U->List FF)(ok:U->Prop):Qs
 |.ret,env,w|.normal,env,w=>∃u,(∀a:Act,zg a=env->(results fn a.tmps).run P w=.ok (val u) w)/\ok u/\St we Se (own u++F) (facts u++G) w
 |_,_,_=>False
theorem WQ{U:Type}{P:Program}{f:FuncId}{args:List Value}{ms:List MF}{Γ:List FF}{val:U->Value}{own:U->List MF}{facts:U->List FF}{ok:U->Prop}{fn:Func}{c:Code}
 (hf:P.funcs[f]? =some fn) (hb:fn.body=some c) (hn:Tv args.length fn.ntmps=true)
 (h:∀we Se F G rest,T P (Nd.of fn.ntmps) we Se (ms++F) (Γ++G) c (dE P fn we Se F G val own facts ok)<|L ((args.zipIdx 0).map fun x=>(x.2,x.1)) rest):Ud P f args.toArray ms Γ val own facts ok:=by
 intro we Se F G w ha;have hn:=PC hn;refine calls_of_wp hf hb<|(wpIn_wide (n:=0)).1 ?_;have hc:qH (zg ⟨args.toArray++RE (fn.ntmps-args.toArray.size) undef,[]⟩) ((args.zipIdx 0).map fun x=>(x.2,x.1)):=by
  refine jb args 0 _ fun j=> ?_;rw[kL];simp_all
 refine wpIn_mono (h we Se F G _ w ha _ (by simp;lia) rfl (qP hc).symm) ?_;intro e a' w' ⟨q1,q2,q3⟩;cases e<;>simp only[dE]at q3
 ·obtain⟨u,r1,r2,r3⟩:=q3;exact⟨q2,_,r1 a' rfl,u,rfl,r2,r3⟩
 ·obtain⟨u,r1,r2,r3⟩:=q3;exact⟨q2,_,r1 a' rfl,u,rfl,r2,r3⟩
section
variable{P:Program}{N:Nd}{we:World}{Se:Nat->Prop}{ms F:List MF}{Γ G:List FF}{Q:Qs}{env:yb}{U:Type}{val:U->Value}{own:U->List MF}{facts:U->List FF}{ok:U->Prop}{fn:Func}
 {ops:Array Oper}{rest:List Oper}{d:Option Tmp}{ty:TypeId}{pos:String}{aft:Array Edge}{g:Option (Nat×Bool)}
theorem HO{rs:List ResultVar}{vs:List Value}{w:World}(u:U)(hr:fn.results=rs.toArray)(h:Zl P w env rs vs)(hv:wQ vs=val u)(hb:ok u)(hw:St we Se (own u++F) (facts u++G) w):
 dE P fn we Se F G val own facts ok .ret env w:=
 ⟨u,fun a ha=>by rw[qz hr<|ha▸h,hv],hb,hw⟩
theorem Ud.frozen{f:FuncId}{args:Array Value}{Δ:U->List FF}(h:Ud P f args [] Γ val own facts ok)
 (fz:∀(u:U) (w':World) (we:World) (Se:Nat->Prop),St we Se (own u) (facts u) w'->St we Se [] (Δ u) w'):Fn P f args Γ val Δ ok:=by
 intro w Se ha hΓ;refine(h w Se [] [] w<|St.nil (by simpa using hΓ) ha).mono ?_;rintro e w' ⟨u,h1,h2,h3⟩;have:=(fz u w' w Se<|by simpa using h3).out<|fun S w h=>h;exact⟨u,h1,h2,this.1,this.2⟩
theorem Yp{f:FuncId}{aas:List Operand}{ts:Array TypeId}{args:List Value}{msc:List MF}{Γc:List FF}(hw:zG ops env ⟨d,.call ⟨.value (.func f),aas.toArray,ts⟩,ty,pos,aft,g⟩=true)(hd:xr N.n d=true)
 (hb:Y1 P f=true) (hf:Ud P f args.toArray msc Γc val own facts ok) (ha:aas.map (ev env)=args)
 (hs:∀(S:Nat->Prop) (w:World),ze S Γ w->ze S Γc w)
 (k:∀u,ok u->TL P N we Se (own u++F) (facts u++Γ) ops rest Q (put env d<|val u)):
 TL P N we Se (msc++F) Γ ops (⟨d,.call ⟨.value (.func f),aas.toArray,ts⟩,ty,pos,aft,g⟩::rest) Q env:=by
 refine jS hw hd fun w hc=> ?_;have hr:(execOp (ev env) ⟨d,.call ⟨.value (.func f),aas.toArray,ts⟩,ty,pos,aft,g⟩).run P w=.ok (.enter f args.toArray) w:=by simp[execOp,resolve,ev,Rn,invoke,xg hb,ha]
 unfold xX;rw[hr];refine(hf we Se F Γ w<|hc.weak fun S w h=>ze.append (hs S w h) h).mono ?_;rintro e w' ⟨u,h1,h2,h3⟩;exact⟨val u,h1,k u h2 w' h3⟩
end
theorem bG:∀{ms:List MF}{i:Nat}{m:MF},jV ms->ms[i]? =some m->jV (m::ms.eraseIdx i):=by
 intro ms i m h e;refine⟨fun k hk m' ha hc=> ?_,?_⟩
 ·rw[List.mem_eraseIdx_iff_getElem?]at ha;obtain⟨j,hj,he⟩:=ha;exact Yb h e k hk j m' hj he hc
 ·exact ug i h
theorem St.front{we:World}{Se:Nat->Prop}{ms:List MF}{Γ:List FF}{w:World}{m:MF}(i:Nat)(h:St we Se ms Γ w)(hi:ms[i]? =some m):St we Se (m::ms.eraseIdx i) Γ w:=by
 obtain⟨h1,h2,h3,S,h4,h5,h6,h7,h8⟩:=h;refine⟨h1,h2,bG h3 hi,S,h4,h5,fun m' hm'=> ?_,⟨z7.get h7 hi,Zk i h7⟩,h8⟩;rcases OY.1 hm' with rfl|hm'
 ·grind
 ·exact h6 m'<|R3 hm'
theorem nJ{m:Nat}(h:m<=9223372036854775807):RJ.wrap (m:Int)=(m:Int):=Df<|by lia
theorem bp{P:Program}{w:World}(t ti ty e:TypeId)(i:TypeInfo)(z:Value)(size bytes:Nat){ik:IntKind}(ht:P.underlying t=some (.slice e))(hf:P.underlying ti=some (.int ik))(hi:P.info? e=some i)(hz:i.zero=some z)
 (hw:i.size=size) (hJ:i.bytes=bytes) (hE:z.cells.size=size) (hK:∀u∈z.cells.toList,u.oneCell'=true) (hy:0<size)
 (v:Value) (n:Nat) (xs:List Value) (ha:w.ownsRow 0 e size v n xs) (m:Nat)
 (hF:n+m<=maxLen) (hc:(n+m)*bytes<=140737488355328):
 ∃v' w',(PR #[t,ti] ty #[v,.int .i64 (m:Int)]).run P w=.ok v' w'/\w'.ownsRow 0 e size v' (n+m) (xs++(Po z.cells m).toList)/\w.grownBy w' v.ownBlock/\
  ∀k,v'.ownBlock=some k->v.ownBlock=some k\/w.heap.size<=k:=by
 subst hw;subst hJ;have hI:n+m<=9223372036854775807:=by simp only[maxLen]at hF;lia
 have hG:(Po z.cells m).toList.length=m*i.size:=by simp[size_zeroCells,hE]
 have hd:(xs++(Po z.cells m).toList).length=(n+m)*i.size:=by rw[O1,ha.1,hG,RI]
 have hA:=nJ (m:=m) (by lia);have hl:¬((m:Int)<0):=by lia
 have hL:¬((m:Int)*(i.bytes:Int)>281474976710656):=by
  have h1:m*i.bytes<=(n+m)*i.bytes:=PQ _ (by lia);have:((m*i.bytes:Nat):Int)<=140737488355328:=by lia
  rw[Int.natCast_mul]at this;lia
 have hn:¬(281474976710656<(m:Int)*(i.bytes:Int)):=hL
 have grown:∀(old:Nat),old<n+m->∀(row:Option Nat),
  (w.drew.alloc (.cells (xs.toArray++Po z.cells m++Po z.cells (grownCap w (n+m) old e-(n+m))) e)).ownsRow 0 e i.size
   (.slice (some ⟨w.heap.size,0,none⟩) (n+m)<|grownCap w (n+m) old e) (n+m) (xs++(Po z.cells m).toList)/\
  w.grownBy (w.drew.alloc (.cells (xs.toArray++Po z.cells m++Po z.cells (grownCap w (n+m) old e-(n+m))) e)) row:=by
  intro old ho row;have hM:=grownCap_ge w (n+m) old e;have hB:grownCap w (n+m) old e<=maxLen:=grownCap_le_maxLen w (n+m) old e hF;refine⟨⟨hd,.inr ⟨w.heap.size,_,_,rfl,PF _,heap_alloc_new w.drew _,hM,hB,?_,?_⟩⟩,⟨rfl,rfl,rfl,by simp,fun k hk _=>RowKit.Below.heap_alloc w.drew _ k hk⟩⟩
  ·simp only[Array.size_append,Tw,size_zeroCells,hE,ha.1,<-RI];congr 1;lia
  ·simp only[Tc,O2];rw[<-O2,<-hd];exact List.take_left
 rcases ha.2 with⟨rfl,rfl⟩|⟨g,cap,cur,rfl,hN,hg,hO,hB,hP,hC⟩
 ·have hx:xs=[]:=Pn (by simpa using ha.1);subst hx;by_cases hm:m=0
  ·subst hm;refine⟨.slice none 0 0,w,?_,by simpa[Po]using World.ownsRow_nil w 0 e i.size,⟨rfl,rfl,rfl,O3 _,fun _ _ _=>rfl⟩,fun k hk=> .inl hk⟩;have e0:RJ.wrap 0=0:=by decide
   simp[PR,run_underlying ht,run_underlying hf,sizeOf,typeInfo,hi,asInt,asIntOf,e0]
  ·have hp:¬(9223372036854775807<(m:Int)):=by lia
   have he:=growslice_fits (old:=0) (need:=0+m) (bytes:=i.bytes) (by lia) hc;have hq:¬(281474976710656<Builtin.nextslicecap m 0*i.bytes):=by simp only[Pk]at he;lia
   have hs:=grown 0 (by lia)<|Ss (.slice none 0 0);refine⟨_,_,?_,hs.1,hs.2,fun k hk=> .inr<|by cases hk;exact O3 _⟩;simp[PR,run_underlying ht,run_underlying hf,sizeOf,typeInfo,zeroValue,hi,hz,asInt,asIntOf,hA,hm,hp,hq,hl,hn,Tn,run_firstCells_none,newRow,grownCap];intro h0;have:0<m*i.size:=Nat.mul_pos (by lia) hy;lia
 ·by_cases hb:n+m<=cap
  ·have he:n*i.size+(Po z.cells m).toList.length<=cur.size:=by rw[hG,hP,<-RI];exact PQ _ hb
   have h1:∀u∈(Po z.cells m).toList,u.oneCell'=true:=by
    intro u hu;simp only[Po,Array.toList_map,O8]at hu;obtain⟨j,hj,rfl⟩:=hu;have hH:j%z.cells.size<z.cells.size:=RN _ (by lia);rw[getElem!_pos z.cells _ hH];exact hK _<|R8.2<|Array.getElem_mem hH
   have hv:=run_storeCells_at P g (n*i.size) e (Po z.cells m).toList 0 cur w hg (by simpa using he) h1;simp only[Sl]at hv
   have hr:(PR #[t,ti] ty #[.slice (some ⟨g,0,none⟩) n cap,.int .i64 (m:Int)]).run P w=
    .ok (.slice (some ⟨g,0,none⟩) (n+m) cap) (w.setRow g (cur.toList.take (n*i.size)++(Po z.cells m).toList++cur.toList.drop (n*i.size+(Po z.cells m).toList.length)).toArray):=by
    by_cases hm:m=0
    ·subst hm;have e0:RJ.wrap 0=0:=by decide
     have ez:(Po z.cells 0)= #[]:=by simp[Po]
     rw[ez]at hv⊢;simp[PR,run_underlying ht,run_underlying hf,sizeOf,typeInfo,hi,asInt,asIntOf,e0,hO,Addr.add_lit,hv]
    ·have hQ:¬(m=0\/i.size=0):=by lia
     simp[PR,run_underlying ht,run_underlying hf,sizeOf,typeInfo,zeroValue,hi,hz,asInt,asIntOf,hA,hl,hn,hb,hQ,Addr.add_lit,hv];intro h0;have:0<m*i.size:=Nat.mul_pos (by lia) hy;lia
   refine⟨_,_,hr,⟨hd,.inr ⟨g,cap,_,rfl,hN,setRow_heap w g cur _ e _ hg,hb,hB,?_,?_⟩⟩,⟨rfl,rfl,rfl,by simp,fun k _ hk=>setRow_other w g k _<|fun e=>hk<|by simp[Ss,e]⟩,fun k hk=> .inl hk⟩
   ·simp only[Tw,O1,PG,List.length_drop,SA]at he⊢;lia
   ·rw[hC,<-hd];exact List.take_left
  ·have hD:∀j u,xs[j]? =some u->w.cell? ((⟨g,0,none⟩:Addr).add j)=some u:=ha.cells (g:=g) rfl;have hp:¬(9223372036854775807<(n:Int)+(m:Int)):=by lia
   have hq:¬(281474976710656<Builtin.nextslicecap (n+m) cap*i.bytes):=by have:=growslice_fits (old:=cap) (need:=n+m) (bytes:=i.bytes) (by lia) hc;lia
   have hs:=grown cap (by lia)<|Ss (.slice (some ⟨g,0,none⟩) n cap);have hR:=run_firstCells_some (P:=P) w.drew i.size n ⟨g,0,none⟩ n cap xs ha.1 (by simpa using hD);refine⟨_,_,?_,hs.1,hs.2,fun k hk=> .inr<|by cases hk;exact O3 _⟩;by_cases hm:m=0
   ·subst hm;lia
   simp[PR,run_underlying ht,run_underlying hf,sizeOf,typeInfo,zeroValue,hi,hz,asInt,asIntOf,hA,hm,hp,hq,hl,hn,hb,Tn,hR,newRow,grownCap];intro h0;have:0<m*i.size:=Nat.mul_pos (by lia) hy;lia
theorem XV{z:Array Value}{m:Nat}(hm:z.size=m)(n:Nat):(Po z n).toList=(Pv n z.toList).flatten:=by
 apply Sx;intro j;by_cases hj:j<n*m
 ·have ha:0<m:=Nat.pos_of_ne_zero fun h0=>by rw[h0]at hj;simp at hj
  have e1:(Po z n).toList[j]? =z.toList[j%m]? :=by
   have:=RN j ha;simp[Po,hm,hj,this]
  rw[e1,gf.flatten_get z.toList m (by simpa using hm) ha n j hj];all_goals exact 0
 ·rw[P8 (by simp[size_zeroCells,hm];lia),P8<|by simp[hm];lia]
section
variable{P:Program}{N:Nd}{we:World}{Se:Nat->Prop}{ms ms':List MF}{Γ Γ':List FF}{Q:Qs}{env:yb}{ops:Array Oper}{rest:List Oper}
 {d:Option Tmp}{ty yt t ti:TypeId}{pos:String}{aft:Array Edge}{g:Option (Nat×Bool)}{x y:Operand}
theorem dX{α:Type}{e:zv α}{et:TypeId}{xs:List α}{z:α}{n:Nat}{v:Value}{bytes:Nat}{zero:Value}{ik:IntKind}(i:Nat)(ht:P.underlying t=some (.slice et))(hu:P.underlying ti=some (.int ik))(hv:jJ P et e.agg e.n bytes zero)(hd:zero.cells.size=e.n)(hn:0<e.n)
 (hm:ms[i]? =some (mO e et v xs)) (hx:ev env x=v) (hy:ev env y=.int .i64 (n:Int)) (hz:∀(S:Nat->Prop) (w:World),e.p S z zero.cells.toList w)
 (hF:xs.length+n<=9223372036854775807) (hb:(xs.length+n)*bytes<=140737488355328):OG P ⟨d,.call ⟨.builtin .append,#[x,y],#[t,ti]⟩,ty,pos,aft,g⟩ env we Se ms Γ (fun v'=>v') (fun v'=>(ms.set i<|mO e et v'<|xs++Pv n z)) (fun _=>Γ) (fun _=>True):=by
 intro w hf;obtain⟨S,_,⟨cs,ho,he⟩,h8,_⟩:=hf.mut hm;obtain⟨i',hi,i1,i2,i3⟩:=hv.info;obtain⟨v',w',hr,hl,hg,hw⟩:=bp (P:=P) t ti ty et i' zero e.n bytes ht hu hi i3 i1 i2 hd (e.one<|hz S w) hn v xs.length cs ho n (by unfold maxLen;lia) hb;refine xX.of_value (w':=w') (v:=v') ?_ ⟨v',rfl,trivial,hf.grow hm ⟨hg.os,hg.os,hg.output,hg.size,fun j hj hs=>hg.block j hj<|fun e=>hs e.symm⟩ hw ?_⟩
 ·simp only[execOp,resolve,invoke,builtin,R6,PA,RR,hx,hy,O5,hr,Pg,O0]
 ·intro S hS ⟨cs2,hp,hA⟩ hΓ;have hB:cs2=cs:=by
   rcases ho.2 with⟨rfl,h0⟩|⟨g,cap,cur,rfl,_,hC,_,_,_,hD⟩
   ·have a1:=ho.1;have a2:=hp.1;rw[h0]at a1 a2;have c1:cs=[]:=Pn (by simpa using a1);have c2:cs2=[]:=Pn (by simpa using a2);rw[c1,c2]
   ·rcases hp.2 with⟨hc,_⟩|⟨g',cap',cur',hE,_,ha,_,_,_,hq⟩
    ·cases hc
    ·cases hE;rw[hC]at ha;cases ha;rw[<-hD,<-hq]
  subst hB;have kk:zH S w w':=⟨hg.os,hg.os,hg.output,hg.size,fun k hk hs=>hg.block k hk<|fun e=>hS k hs e.symm⟩;rw[XV hd]at hl;exact⟨_,by rw[O1,Sp];exact hl,(hA.keep kk).append<|zX.replicate (hz _ _) n⟩
end
theorem ze.left{S:Nat->Prop}{w:World}:∀{Γ Δ:List FF},ze S (Γ++Δ) w->ze S Γ w
 |[],_,_=>trivial
 |_::_,_,h=>⟨h.1,ze.left h.2⟩
theorem ze.right{S:Nat->Prop}{w:World}:∀{Γ Δ:List FF},ze S (Γ++Δ) w->ze S Δ w
 |[],_,h=>h
 |_::_,_,h=>ze.right h.2
theorem Fn.ok_mono{U:Type}{P:Program}{f:FuncId}{args:Array Value}{Γ:List FF}{val:U->Value}{facts:U->List FF}{ok ok':U->Prop}(h:Fn P f args Γ val facts ok)(hk:∀u,ok u->ok' u):Fn P f args Γ val facts ok':=
 fun w Se h1 h2=>(h w Se h1 h2).mono fun e w' ⟨u,a,b,c⟩=>⟨u,a,hk u b,c⟩
end
section
def rowT{α:Type}(e:zv α)(cap:Nat):X1 (List α)where
 p S xs cs w:=∃c post,cs=c++post/\zX e S xs c w/\cs.length=cap*e.n
 keep:=fun⟨c,post,h1,h2,h3⟩ k=>⟨c,post,h1,h2.keep k,h3⟩
 sub:=fun⟨c,post,h1,h2,h3⟩ k=>⟨c,post,h1,h2.sub k,h3⟩
theorem vj.rowT{α:Type}(e:zv α)(cap:Nat)(xs:List α)(i:Nat)(x:α)(hx:xs[i]? =some x):vj (rowT e cap) xs (i*e.n) e x (fun y=>xs.set i y):=by
 rintro S w cs ⟨c0,post0,rfl,he,hl⟩;obtain⟨pre,c,post,rfl,h2,h3,h4⟩:=vj.row e xs i x hx S w c0 he;refine⟨pre,c,post++post0,by simp,h2,h3,fun w' y c' kk h'=>⟨pre++c'++post,post0,by simp,h4 w' y c' kk h',?_⟩⟩;have e1:=e.len h3;have e2:=e.len h';simp_all
theorem vj.rowT0{α:Type}(e:zv α)(cap:Nat)(xs:List α)(i:Nat)(x:α)(hx:xs[i]? =some x):vj (Go.Proofs.YtbaoeefdjpaomaaGreatDoor.rowT e cap) xs (0+i*e.n) e x (fun y=>xs.set i y):=by
 rw[Pk];exact vj.rowT e cap xs i x hx
section
variable{we:World}{Se:Nat->Prop}{ms:List MF}{Γ:List FF}{w:World}{α:Type}{e:zv α}{E:TypeId}{xs:List α}
theorem xy{i:Nat}{m:MF}(h:St we Se ms Γ w)(hi:ms[i]? =some m){p:Prop}(hp:∀S:Nat->Prop,m.p S w->p):p:=by grind [St.muts]
theorem St.openO{v:Value}(i:Nat)(h:St we Se ms Γ w)(hm:ms[i]? =some (mO e E v xs))(hf:0<xs.length):
 ∃g cap,v=.slice (some ⟨g,0,none⟩) xs.length cap/\xs.length<=cap/\cap<=9223372036854775807/\St we Se (ms.set i<|mB (rowT e cap) E g xs) Γ w:=by
 have:∃g cap,v=.slice (some ⟨g,0,none⟩) xs.length cap/\xs.length<=cap/\cap<=9223372036854775807:=xy h hm fun S ⟨cs,h1,h2⟩=>by
  rcases h1.2 with⟨rfl,h0⟩|⟨g,cap,cur,rfl,he,hg,ha,hb,hc,hd⟩
  ·lia
  ·exact⟨g,cap,rfl,ha,hb⟩
 obtain⟨g,cap,rfl,h1,h2⟩:=this;refine⟨g,cap,rfl,h1,h2,h.conv hm rfl fun S ⟨cs,h1,h2⟩=> ?_⟩;rcases h1.2 with⟨h0,_⟩|⟨g',cap',cur,hv,he,hg,ha,hb,hc,hd⟩
 ·cases h0
 ·cases hv;refine⟨cur,hg,cs,cur.toList.drop<|xs.length*e.n,?_,h2,by simpa using hc⟩;rw[<-hd,RL]
theorem St.closeO{g cap:Nat}(i n:Nat)(h:St we Se ms Γ w)(hm:ms[i]? =some (mB (rowT e cap) E g xs))(hn:n<=xs.length)(hc:n<=cap)(ha:cap<=9223372036854775807):
 St we Se (ms.set i<|mO e E (.slice (some ⟨g,0,none⟩) n cap)<|xs.take n) Γ w:=by
 refine h.conv hm rfl fun S ⟨cs,hg,c,post,h1,h2,h3⟩=>⟨c.take<|n*e.n,?_,h2.take n⟩;have hl:(xs.take n).length=n:=by simp;lia
 have hb:=h2.len;have hd:n*e.n<=xs.length*e.n:=PQ _ hn;rw[hl];refine⟨by simp;lia,.inr ⟨g,cap,cs,rfl,PF _,hg,hc,by unfold maxLen;lia,by simpa using h3,?_⟩⟩;grind
theorem St.closeF{g cap:Nat}(i:Nat)(h:St we Se ms Γ w)(hm:ms[i]? =some (mB (rowT e cap) E g xs))(hc:xs.length<=cap)(ha:cap<=9223372036854775807):
 St we Se (ms.set i<|mO e E (.slice (some ⟨g,0,none⟩) xs.length cap) xs) Γ w:=by
 have:=h.closeO i xs.length hm (O3 _) hc ha;simp_all
theorem St.rowRT{b n:Nat}(i:Nat)(h:St we Se ms Γ w)(hm:ms[i]? =some (mR e E b xs))(hn:n=xs.length):St we Se (ms.set i<|mB (rowT e n) E b xs) Γ w:=
 h.conv hm rfl fun S ⟨cs,hg,he⟩=>⟨cs,hg,cs.toList,[],by simp,he,by rw[hn];exact zX.len he⟩
end
section
variable{P:Program}{N:Nd}{we:World}{Se:Nat->Prop}{ms:List MF}{Γ:List FF}{Q:Qs}{env:yb}{ops:Array Oper}{rest:List Oper}
 {d:Option Tmp}{ty yt t t':TypeId}{pos:String}{aft:Array Edge}{g:Option (Nat×Bool)}{x y:Operand}
theorem di{et:TypeId}{ag:Bool}{sz bytes:Nat}{zero:Value}{b o n cap l h:Nat}{lo hi:Option Value}{w:World}(ht:P.underlying t=some (.slice et))(hb:jJ P et ag sz bytes zero)
 (hl:lo=some (.int .i64 (l:Int))\/(lo=none/\l=0)) (hh:hi=some (.int .i64 (h:Int))\/(hi=none/\h=n)) (hd:l<=h) (he:h<=cap) (hf:l<cap\/l=0):
 (RH t (.slice (some ⟨b,o,none⟩) n cap) lo hi none).run P w=.ok (.slice (some ⟨b,o+l*sz,none⟩) (h-l)<|cap-l) w:=by
 have b1:(0:Int)<=(l:Int)/\(l:Int)<=(h:Int):=by lia
 have b2:(0:Int)<=(h:Int)/\(h:Int)<=(cap:Int):=by lia
 have ha:(RH t (.slice (some ⟨b,o,none⟩) n cap) lo hi none).run P w=.ok (.slice (if cap=l then some ⟨b,o,none⟩else(some (⟨b,o,none⟩:Addr)).map (·.add (l*sz))) (h-l)<|cap-l) w:=by
  unfold RH;simp only[O5,run_underlying ht,O0];unfold TW;simp only[O5,run_underlying ht,O0];unfold Sw
  rcases hl with rfl|⟨rfl,rfl⟩<;>rcases hh with rfl|⟨rfl,rfl⟩<;>
   simp only[SE,asIntOf,O5,Pg,O0,iq b1,iq b2,xh hb,Ry]
 rw[ha];by_cases hc:cap=l
 ·simp_all
 ·simp[hc,xH]
theorem bW{et:TypeId}{ag:Bool}{sz bytes:Nat}{zero:Value}{b o n cap h:Nat}{hi:Operand}(hx:ev env x=.slice (some ⟨b,o,none⟩) n cap)(ht:P.underlying t=some (.slice et))(ha:jJ P et ag sz bytes zero)
 (hh:ev env hi=.int .i64 (h:Int)) (hb:h<=cap) (w:World):(execOp (ev env) ⟨d,.slice t x none (some hi) none,ty,pos,aft,g⟩).run P w=.ok (.value (.slice (some ⟨b,o,none⟩) h cap)) w:=by
 have:=di (b:=b) (o:=o) (n:=n) (w:=w) ht ha (.inr ⟨rfl,rfl⟩) (.inl rfl) (PF _) hb (.inr rfl);simp[execOp,hx,hh,this]
end
section
variable{P:Program}{env:yb}{d:Option Tmp}{ty t:TypeId}{pos:String}{aft:Array Edge}{g:Option (Nat×Bool)}{x y c:Operand}{w:World}{S:Nat->Prop}{v:Value}
theorem Nv{f:Go.Fn}{xs:List Operand}{vs:List Value}(h:xs.map (ev env)=vs)(w:World):(execOp (ev env) ⟨d,.makeFunc f #[] xs.toArray,ty,pos,aft,g⟩).run P w=.ok (.value (.func f #[] vs.toArray)) w:=
 Yq (by simp[pv,h]) w
end
section
variable{P:Program}{N:Nd}{we:World}{Se:Nat->Prop}{ms:List MF}{Γ:List FF}{Q:Qs}{env:yb}{ops:Array Oper}{rest:List Oper}
 {d:Option Tmp}{ty yt t t':TypeId}{pos:String}{aft:Array Edge}{g:Option (Nat×Bool)}{x y:Operand}
theorem Jv(w:World)(dT sT ty elem:TypeId)(g o dLen dCap:Nat)(a:Addr)(sLen sCap:Nat)(cur:Array Value)(t:TypeId)(cs:List Value){n m:Nat}
 (hu:P.underlying dT=some (.slice elem)) (hs:(P.info? elem).map (·.size)=some n) (hm:Nat.min sLen dLen=m)
 (hg:w.heap[g]? =some (.cells cur t (0,0))) (hn:cs.length=m*n)
 (ha:∀j v,cs[j]? =some v->w.cell? (a.add j)=some v) (hb:o+cs.length<=cur.size) (h1:∀v∈cs,v.oneCell'=true):
 (TU #[dT,sT] ty #[.slice (some ⟨g,o,none⟩) dLen dCap,.slice (some a) sLen sCap]).run P w=
  .ok (goInt m) (w.setRow g (cur.toList.take o++cs++cur.toList.drop (o+cs.length)).toArray):=by
 have hl:=run_loadCells_list (P:=P) w a cs ha;have hc:=run_storeCells_at P g o t cs 0 cur w hg (by simpa using hb) h1
 cases hq:P.info? elem with
 |none=>simp[hq]at hs
 |some i=>
  have hi:i.size=n:=by simpa[hq]using hs
  simp[TU,run_underlying hu,Tm,SL,sizeOf,typeInfo,hq,hi,hm,<-hn,hl,hc]
theorem kQ(w:World)(dT sT ty elem:TypeId)(d a:Option Addr)(dLen dCap sLen sCap:Nat)(hu:P.underlying dT=some (.slice elem)){n:Nat}(hs:(P.info? elem).map (·.size)=some n)(hn:Nat.min sLen dLen=0):
 (TU #[dT,sT] ty #[.slice d dLen dCap,.slice a sLen sCap]).run P w=.ok (goInt 0) w:=by
 cases hq:P.info? elem with
 |none=>simp[hq]at hs
 |some i=>
  have hl:=fun x=>by simpa using run_loadCells_list (P:=P) w x [] (by simp)
  cases d<;>cases a<;>simp[TU,run_underlying hu,Tm,SL,sizeOf,typeInfo,hq,hn,storeCells,hl]
theorem bC{α:Type}{e:zv α}{et E b l dLen dCap cap bytes:Nat}{zero u:Value}{xs ys:List α}(i:Nat)(ht:P.underlying t=some (.slice et))(hH:jJ P et e.agg e.n bytes zero)(hm:ms[i]? =some (mB (rowT e cap) E b xs))(hx:ev env x=.slice (some ⟨b,0+l*e.n,none⟩) dLen dCap)(hy:ev env y=u)
 (hl:l+dLen<=xs.length) (hf:∀(S:Nat->Prop) (w:World),ze S Γ w->(fV (eS e) ys u).p S w):OG P ⟨d,.call ⟨.builtin .copy,#[x,y],#[t,t']⟩,ty,pos,aft,g⟩ env we Se ms Γ (fun n:Int=>(.int .i64 n)) (fun n=>(ms.set i<|mB (rowT e cap) E b<|xs.take l++ys.take (min ys.length dLen)++xs.drop (l+min ys.length dLen))) (fun _=>Γ) (fun _=>True):=by
 intro w hg;obtain⟨S0,⟨cs0,hn,c0,post0,hs,hw,hI⟩,hQ,hJ⟩:=hg.muts hm;obtain⟨ao,scap,hu,h1,h2,h3⟩:=yX.1<|hf S0 w hJ;obtain⟨ti,hi,i1,i2,i3⟩:=hH.info;have hz:(P.info? et).map (·.size)=some e.n:=by rw[hi];simp[i1]
 have hA:∀v w',(TU #[t,t'] ty #[.slice (some ⟨b,0+l*e.n,none⟩) dLen dCap,u]).run P w=.ok v w'->
  (execOp (ev env) ⟨d,.call ⟨.builtin .copy,#[x,y],#[t,t']⟩,ty,pos,aft,g⟩).run P w=.ok (.value v) w':=fun v w' hr=>by
  simp only[execOp,resolve,invoke,builtin,R6,PA,RR,hx,hy,O5,hr,Pg,O0]
 obtain⟨m,hd⟩:∃m,min ys.length dLen=m:=⟨_,rfl⟩;have hB:Nat.min ys.length dLen=m:=hd;have hR:m<=dLen:=by rw[<-hd];exact Nat.min_le_right _ _
 have hb:m<=ys.length:=by rw[<-hd];exact Nat.min_le_left _ _
 have e1:(l+m)*e.n=l*e.n+m*e.n:=RI _ _ _;have e2:l*e.n+m*e.n<=xs.length*e.n:=by rw[<-e1];exact PQ _<|by lia
 have e3:m*e.n<=ys.length*e.n:=PQ _ hb;have hT:c0.length=xs.length*e.n:=hw.len;rw[hd];by_cases h0:m=0
 ·have hr:=kQ (P:=P) w t t' ty et (some ⟨b,0+l*e.n,none⟩) ao dLen dCap ys.length scap ht hz<|hB.trans h0;rw[<-hu]at hr;refine xX.of_value (hA _ _ hr) ⟨_,rfl,trivial,?_⟩;rw[h0];simp only[Sl,List.take_zero,Ps,RL];have:ms.set i (mB (rowT e cap) E b xs)=ms:=by
   obtain⟨hU,hK⟩:=O4.1 hm;rw[<-hK,RP]
  rw[this];exact hg
 ·rcases h3 with h3|⟨sb,so,cs,rfl,hV,ha,ho⟩
  ·rw[h3]at hb;simp at hb;lia
  ·have hL:cs.length=ys.length*e.n:=ho.len;have hC:(cs.take<|m*e.n).length=m*e.n:=by rw[PG,hL];lia
   have e4:cs0.toList.length=c0.length+post0.length:=by rw[hs,O1]
   have hD:0+l*e.n+(cs.take<|m*e.n).length<=cs0.size:=by
    simp only[SA]at e4;lia
   have hr:=Jv (P:=P) w t t' ty et b (0+l*e.n) dLen dCap ⟨sb,so,none⟩ ys.length scap cs0 E (cs.take<|m*e.n) ht hz hB hn hC
    (fun j v hv=>by rw[xH];exact(ha.take _).2 j v hv) hD (fun v hv=>ho.one v<|List.mem_of_mem_take hv)
   rw[<-hu]at hr;refine xX.of_value (hA _ _ hr) ⟨_,rfl,trivial,hg.write hm rfl rfl (kf w b _) ?_⟩;rintro S hS ⟨cs1,hE,c1,post1,hF,hc,hp⟩ h8;rw[hn]at hE;cases hE;obtain⟨ao2,scap2,hG,_,_,hq⟩:=yX.1<|hf S w h8;rw[hu]at hG;cases hG;rcases hq with hq|⟨NP,so2,cs2,hM,hW,hN,he⟩
   ·rw[hq]at hb;simp at hb;lia
   ·cases hM;have hO:cs2=cs:=by
     have hP:cs2.length=cs.length:=by rw[he.len,ho.len]
     apply Sx;intro j;by_cases hj:j<cs.length
     ·have e1:=ha.2 j cs[j] (by simp[hj]);have e2:=hN.2 j cs2[j] (by simp[hP,hj]);rw[e1]at e2;rw[Pb hj,Pb (by lia:j<cs2.length),e2]
     ·rw[P8 (l:=cs) (by lia),P8 (l:=cs2)<|by lia]
    subst hO;have hX:c1.length=xs.length*e.n:=hc.len;have kk:zH S w (w.setRow b (cs0.toList.take (0+l*e.n)++cs2.take (m*e.n)++cs0.toList.drop (0+l*e.n+(cs2.take<|m*e.n).length)).toArray):=(kf w b _).weak fun k _ hk=>hS k hk;refine⟨_,setRow_heap w b cs0 _ E (0,0) hn,c1.take (l*e.n)++cs2.take (m*e.n)++c1.drop ((l+m)*e.n),post1,?_,?_,?_⟩
    ·rw[hC,Pk,e1,hF,List.take_append_of_le_length (by lia),List.drop_append_of_le_length<|by lia];simp[O2]
    ·exact(((hc.keep kk).take l).append<|(he.keep kk).take m).append<|(hc.keep kk).drop<|l+m
    ·rw[<-hp];simp only[O1,PG,List.length_drop];lia
end
end
section
section
variable{P:Program}{env:yb}{d:Option Tmp}{ty t:TypeId}{pos:String}{aft:Array Edge}{g:Option (Nat×Bool)}{x y c:Operand}{w:World}{S:Nat->Prop}{v:Value}{o:Oper}
theorem AH(hc:ev env c=.bool true)(h:ev env x=v)(w:World):(execOp (ev env) ⟨d,.pick c x y,ty,pos,aft,g⟩).run P w=.ok (.value v) w:=Yq (by simp[pv,hc,h]) w
theorem Az(hc:ev env c=.bool false)(h:ev env y=v)(w:World):(execOp (ev env) ⟨d,.pick c x y,ty,pos,aft,g⟩).run P w=.ok (.value v) w:=Yq (by simp[pv,hc,h]) w
end
end
section
section
variable{P:Program}{N:Nd}{we:World}{Se:Nat->Prop}{ms:List MF}{Γ:List FF}{Q:Qs}{env0:yb}{l:List Oper}
theorem ZX{env:yb}{d:Option Tmp}{v:Value}{t:Tmp}(h:d≠some t):put env d v t=env t:=by
 cases d with
 |none=>rfl
 |some dd=>
  have ha:¬t=dd:=fun e=>h (by rw[e]);have:OW t dd=false:=qt ha;simp[put,L,this]
theorem Vf{env:yb}{v:Value}{t:Tmp}:put env (some t) v t=v:=by simp[put,L]
end
end
section
section
variable{P:Program}{N:Nd}{we:World}{Se:Nat->Prop}{ms F:List MF}{Γ:List FF}{env:yb}{U:Type}{val:U->Value}{own:U->List MF}{facts:U->List FF}{ok:U->Prop}{fn:Func}
 {ops:Array Oper}{rest:List Oper}{d:Option Tmp}{t ty yt:TypeId}{pos:String}{aft:Array Edge}{g:Option (Nat×Bool)}{x y:Operand}
theorem lz{α:Type}{e:zv α}{et:TypeId}{xs ys:List α}{v u:Value}{bytes:Nat}{zero:Value}(i:Nat)
 (ht:P.underlying t=some (.slice et)) (ha:jJ P et e.agg e.n bytes zero) (hc:zero.cells.size=e.n) (hn:0<e.n)
 (hm:ms[i]? =some (mO e et v xs)) (hx:ev env x=v) (hy:ev env y=u) (hf:∀(S:Nat->Prop) (w:World),ze S Γ w->(fV (eS e) ys u).p S w)
 (hd:xs.length+ys.length<=9223372036854775807) (hb:(xs.length+ys.length)*bytes<=140737488355328):
 OG P ⟨d,.call ⟨.builtin .append,#[x,y],#[t,t]⟩,ty,pos,aft,g⟩ env we Se ms Γ (fun v'=>v') (fun v'=>ms.set i<|mO e et v'<|xs++ys) (fun _=>Γ) (fun _=>True):=
 Zq i ht ha hc hn hm hx hy (fun S w _ h=>EK.of<|hf S w h) hd hb
end
end
section
abbrev kV(x:Int):Prop:= -9223372036854775808<=x/\x<=9223372036854775807
abbrev Zg(x:Nat):Prop:=x<18446744073709551616
section
variable{α β:Type}
def ck(p:Prop)[Decidable p](k:Option α):Option α:=if p then k else none
def zb(e:Int)(k:Int->Option α):Option α:=if kV e then k e else none
def zy(i:Int)(n:Nat)(k:Nat->Option α):Option α:=if 0<=i/\i<(n:Int)then k i.toNat else none
def lK(i:Int)(k:Nat->Option α):Option α:=if 0<=i then k i.toNat else none
def nm(e:β)(k:β->Option α):Option α:=k e
def bd(x:Option β)(k:β->Option α):Option α:=match x with
 |some v=>k v
 |none=>none
def zn(f:(β->Option α)->β->Option α):Nat->β->Option α
 |0,_=>none
 |k+1,s=>f (zn f k) s
theorem wK{p:Prop}[Decidable p]{k:Option α}{r:α}(h:ck p k=some r):p/\k=some r:=by grind [ck]
theorem kO{e:Int}{k:Int->Option α}{r:α}(h:zb e k=some r):∃x,x=e/\kV x/\k x=some r:=by grind [zb]
theorem Dx{i:Int}{n:Nat}{k:Nat->Option α}{r:α}(h:zy i n k=some r):∃j:Nat,i=(j:Int)/\j<n/\k j=some r:=by grind [zy]
theorem gN{i:Int}{k:Nat->Option α}{r:α}(h:lK i k=some r):∃j:Nat,i=(j:Int)/\k j=some r:=by grind [lK]
theorem yI{e:β}{k:β->Option α}{r:α}(h:nm e k=some r):∃x,x=e/\k x=some r:=⟨e,rfl,h⟩
theorem ZP{x:Option β}{k:β->Option α}{r:α}(h:bd x k=some r):∃v,x=some v/\k v=some r:=by
 cases x with
 |none=>cases h
 |some v=>exact⟨v,rfl,h⟩
theorem GB{c:Prop}[Decidable c]{x y:Option α}{r:α}(hc:c)(h:(if c then x else y)=some r):x=some r:=by rwa[iq hc]at h
theorem Gu{c:Prop}[Decidable c]{x y:Option α}{r:α}(hc:¬c)(h:(if c then x else y)=some r):y=some r:=by rwa[ir hc]at h
theorem BD{f:(β->Option α)->β->Option α}{s:β}{r:α}(h:zn f 0 s=some r):False:=by cases h
theorem AV{f:(β->Option α)->β->Option α}{k:Nat}{s:β}{r:α}(h:zn f (k+1) s=some r):f (zn f k) s=some r:=h
end
section
variable{α β:Type}
theorem vE{p:Prop}[Decidable p]{k:Option α}(h:p):ck p k=k:=iq h
theorem Vu{p:Prop}[Decidable p]{k:Option α}(h:p:=by lia):ck p k=k:=if_pos h
theorem wm{e:Int}{k:Int->Option α}(h:kV e):zb e k=k e:=iq h
theorem xJ{e:Int}{k:Int->Option α}(h1: -9223372036854775808<=e:=by lia)(h2:e<=9223372036854775807:=by lia):zb e k=k e:=if_pos ⟨h1,h2⟩
theorem LU{i:Int}{n:Nat}{k:Nat->Option α}(h:0<=i/\i<(n:Int)):zy i n k=k i.toNat:=iq h
theorem xd{i n:Nat}{k:Nat->Option α}(h:i<n):zy (i:Int) n k=k i:=by rw[LU ⟨by lia,by lia⟩];rfl
theorem ye{i n:Nat}{k:Nat->Option α}(h:i<n:=by lia):zy (i:Int) n k=k i:=xd h
theorem cL{i:Nat}{k:Nat->Option α}:lK (i:Int) k=k i:=by skip;rfl
theorem zP{e:β}{k:β->Option α}:nm e k=k e:=rfl
theorem zq{x:Option β}{v:β}{k:β->Option α}(h:x=some v):bd x k=k v:=by rw[h];rfl
theorem yf{f:(β->Option α)->β->Option α}{k:Nat}{s:β}:zn f (k+1) s=f (zn f k) s:=rfl
end
theorem JY{n:Nat}(h:n<=9223372036854775807):kV (n:Int):=⟨by lia,by lia⟩
theorem Hq(x:Nat):Zg (x%18446744073709551616):=RN _<|by decide
theorem B7{x e:Nat}(h:x=e)(he:Zg e):Zg x:=h▸he
theorem pw{x e:Int}(h:x=e)(he:kV e):kV x:=h▸he
theorem jy{x e:Nat}(h:x=e%18446744073709551616):Zg x:=h▸Hq e
theorem DX{a b x:Int}(ha:kV a)(h:x=a.tmod b):kV x:=by
 have h1:=Int.natAbs_tmod a b;have h2:=Nat.mod_le a.natAbs b.natAbs;rcases Int.le_total 0 a with h0|h0
 ·lia
 ·have:a.tmod b<=0:=by
   have:=Int.tmod_nonneg b (a:= -a) (by lia);simp_all
  lia
theorem Gy{a b x:Nat}(ha:Zg a)(h:x=a%b):Zg x:=by
 have:=Nat.mod_le a b;lia
theorem VQ{a b x:Nat}(ha:Zg a)(h:x=a/b):Zg x:=by
 have:=Nat.div_le_self a b;lia
theorem Ly{a b:Int}(ha:kV a)(hb:kV b):kV (max a b):=by unfold kV at*;lia
theorem LO{a b:Int}(ha:kV a)(hb:kV b):kV (min a b):=by unfold kV at*;lia
theorem Iu{α:Type}{l:List α}{k:Nat}{y z:α}(h:k<l.length)(hy:y=l.getD k z):l[k]? =some y:=by rw[hy];exact getD_some z h
def Ak(x:Nat):Int:=if x<9223372036854775808 then(x:Int)else(x:Int)-18446744073709551616
def Jx(x:Int):Nat:=(x%18446744073709551616).toNat
theorem nZ{x:Nat}(h:Zg x):kV (Ak x):=by unfold Ak Zg at*;split<;>constructor<;>lia
theorem QO(x:Int):Zg (Jx x):=by unfold Jx Zg;lia
theorem QC{x:Nat}(h:Zg x):RJ.wrap (x:Int)=Ak x:=by
 unfold Ak;split
 ·exact Df ⟨by lia,by lia⟩
 ·rename_i h2;have h3:RJ.wrap x=RJ.wrap (x-18446744073709551616):=by simp[IntKind.wrap,IntKind.bits]
  rw[h3];exact Df ⟨by lia,by lia⟩
theorem tj(x:Int):P0.wrap x=((Jx x:Nat):Int):=by rw[QY];unfold Jx;lia
theorem oj{x c:Int}(h:c=x)(hb:kV c):RJ.wrap x=c:=by subst h;exact Df hb
theorem YZ{k:IntKind}{x:Int}{c n:Nat}(h:c=n)(hb:k.wrap x=(n:Int)):k.wrap x=(c:Int):=by rw[hb,h]
def Al(P:Program)(o:Oper)(env:yb)(w:World)(K:List PanicEntry->World->Prop):Prop:=(∀c,o.op≠ .defer c)/\
 match(execOp (ev env) o).run P w with
 |.ok (.enter f args) w'=>Calls P f args w' (fun e w''=>∃ch,e=.panicked ch/\K ch w'')
 |.halt (.panic v) w'=>K [{v,recovered:=false}] w'
 |_=>False
theorem Al.wp{P:Program}{o:Oper}{a:Act}{w:World}{K:List PanicEntry->World->Prop}{K':Act->World->Prop}{Q:Exit->Act->World->Prop}{N:Nd}
 (h:Al P o (zg a) w K) (hk:∀ch w',K ch w'->Q (.panic ch) a w'):o.wpIn N.F 0 P a w K' Q:=by
 obtain⟨hd,h⟩:=h;refine⟨fun _ _=>trivial,?_⟩;rw[uj];rw[Oper.semAt_eq _ _ _ hd];generalize(execOp (ev<|zg a) o).run P w=r at*
 cases r with
 |ok n w'=>
  cases n<;>simp only at h
  case enter f args=>exact⟨fun e=>by simp[Rq]at e,CallsIn.mono (callsIn_wide.2 h) fun e w'' ⟨ch,he,hv⟩=>by subst he;exact hk _ _ hv⟩
 |halt x w'=>
  cases x<;>simp only at h
  case panic v=>exact hk _ _ h
theorem Al.mono{P:Program}{o:Oper}{env:yb}{w:World}{K K':List PanicEntry->World->Prop}(h:Al P o env w K)(hk:∀ch w',K ch w'->K' ch w'):Al P o env w K':=by
 refine⟨h.1,?_⟩;have h:=h.2;generalize(execOp (ev env) o).run P w=r at*
 cases r with
 |ok n w'=>
  cases n<;>simp only at h⊢
  case enter f args=>exact h.mono fun e w'' ⟨v,he,hv⟩=>⟨v,he,hk _ _ hv⟩
 |halt x w'=>
  grind
theorem AU{P:Program}{env:yb}{w:World}{N:Nd}{ops:Array Oper}{o:Oper}{rest:List Oper}{Q:Qs}(hw:zG ops env o=true)(h:Al P o env w (fun ch w'=>Q (.panic ch) env w')):Aq P N ops (o::rest) Q env w:=by
 intro a h1 h2 h3;subst h3;unfold wpListIn;rw[iq<|by rw[jh];exact hw];exact h.wp fun ch w' hk=>⟨h1,h2,hk⟩
abbrev PX:=TypeId×Int
def XU(q:PX):List PanicEntry:=[{v:=.iface q.1 (.agg #[.int .i64 q.2]),recovered:=false}]
inductive Tg
 |n
 |x (i:Nat)
 |r
 |p (q:PX)
def Mz:Tg->Exit->Bool
 |.n,.normal=>true
 |.x i,.exit j=>OW i j
 |.r,.ret=>true
 |_,_=>false
def AB:Tg->Exit
 |.n=> .normal
 |.x i=> .exit i
 |.r=> .ret
 |.p q=> .panic<|XU q
theorem Eb{t:Tg}{e:Exit}(h:Mz t e=true):e=AB t:=by
 cases t<;>cases e<;>first|rfl|cases h|skip
 rename_i i j;rw[P7 (show OW i j=true from h)];rfl
def XQ:List (Tg×(yb->World->Prop))->Qs
 |[],_,_,_=>False
 |(t,J)::r,e,env,w=>bif Mz t e then J env w else XQ r e env w
def XK(Q:Qs):List (Tg×(yb->World->Prop))->Prop
 |[]=>True
 |(t,J)::r=>(∀env w,J env w->Q (AB t) env w)/\XK Q r
theorem CX{Q:Qs}:∀{l:List (Tg×(yb->World->Prop))},XK Q l->∀e env w,XQ l e env w->Q e env w
 |[],_,_,_,_,h=>h.elim
 |(t,J)::r,k,e,env,w,h=>by
  unfold XQ at h;cases ht:Mz t e
  ·rw[ht]at h;exact CX k.2 e env w h
  ·rw[ht]at h;rw[Eb ht];exact k.1 env w h
inductive JQ(we:World)(Se:Nat->Prop){G:Type}(inv:G->nT)(ok:G->Prop)(env:yb)(w:World):Prop
 |mk (g:G) (h1:ok g) (h2:qH env (inv g).live) (h3:St we Se (inv g).ms (inv g).Γ w):JQ we Se inv ok env w
section
variable{P:Program}{N:Nd}{we:World}{Se:Nat->Prop}{ms:List MF}{Γ:List FF}{Q:Qs}{env:yb}
theorem NT(l:List (Tg×(yb->World->Prop))){c:Code}(h:T P N we Se ms Γ c (XQ l) env)(k:XK Q l):T P N we Se ms Γ c Q env:=
 fun w hw a h1 h2 h3=>wpIn_mono (h w hw a h1 h2 h3) fun e a' w' ⟨q1,q2,q3⟩=>⟨q1,q2,CX k e _ _ q3⟩
theorem gA{G:Type}{inv:G->nT}{ok:G->Prop}(g:G)(h1:ok g)(h2:qH env (inv g).live)(hs:∀w,St we Se ms Γ w->St we Se (inv g).ms (inv g).Γ w):
 ∀w,St we Se ms Γ w->JQ we Se inv ok env w:=fun w hw=>⟨g,h1,h2,hs w hw⟩
theorem Hv{G:Type}{inv:G->nT}{ok:G->Prop}{R:yb->World->Prop}(k:∀g,ok g->∀rest w,St we Se (inv g).ms (inv g).Γ w->R (L (inv g).live rest) w):
 ∀env w,JQ we Se inv ok env w->R env w:=fun env w ⟨g,h1,h2,h3⟩=>by
 have:=k g h1 env w h3;rwa[qP h2]at this
end
end
section
section
variable{P:Program}{N:Nd}{we:World}{Se:Nat->Prop}{ms F:List MF}{Γ:List FF}{Q:Qs}{env:yb}{ops:Array Oper}{rest:List Oper}{o:Oper}
 {d:Option Tmp}{ty yt t ti t':TypeId}{pos:String}{aft:Array Edge}{g:Option (Nat×Bool)}{x y:Operand}
theorem NG{k:IntKind}{c z:Int}(h:∀w,(execOp (ev env) o).run P w=.ok (.value (.int k c)) w)(hz:z=c):∀w,(execOp (ev env) o).run P w=.ok (.value (.int k z)) w:=by
 simp_all
theorem nU{c z:Bool}(h:∀w,(execOp (ev env) o).run P w=.ok (.value (.bool c)) w)(hz:z=c):∀w,(execOp (ev env) o).run P w=.ok (.value (.bool z)) w:=by
 simp_all
theorem XT{a:Nat}{b:Int}:(a:Int).fdiv (2^(min b.toNat P0.bits))=((a/2^(min b.toNat 64):Nat):Int):=by
 have:P0.bits=64:=rfl;grind
theorem gw{a:Nat}{b:Int}:P0.wrap ((a:Int)*2^(min b.toNat P0.bits))=((a*2^(min b.toNat 64)%18446744073709551616:Nat):Int):=by
 rfl
theorem pO{a x:Int}{k:Nat}(ha:kV a)(h:x=a.fdiv (2^k)):kV x:=by
 have hp:(0:Int)<2^k:=Int.pow_pos (by decide);rw[Int.fdiv_eq_ediv_of_nonneg _<|by lia]at h;have h3:=Int.natAbs_ediv_le_natAbs a<|2^k;rcases(show a<0\/0<=a by lia)with h0|h0
 ·have:=Int.ediv_neg_of_neg_of_pos h0 hp;lia
 ·lia
def E9(a b:Int):Int:=Ak<|Jx a &&& Jx b
def Nn(a b:Int):Int:=Ak (Jx a|||Jx b)
theorem X9{a b:Nat}(ha:Zg a):Zg (a &&& b):=R4 Nat.and_le_left ha
theorem VO{a b:Nat}(ha:Zg a)(hb:Zg b):Zg (a|||b):=Nat.or_lt_two_pow (n:=64) ha hb
theorem fw{a:Nat}(ha:Zg a):((a:Int)%2^P0.bits).toNat=a:=by
 have:2^P0.bits=18446744073709551616:=rfl;grind
theorem B9{a b:Nat}(ha:Zg a)(hb:Zg b):P0.wrap (((((a:Int)%2^P0.bits).toNat &&& ((b:Int)%2^P0.bits).toNat:Nat)):Int)=((a &&& b:Nat):Int):=by grind [fw,YF,X9]
theorem GP{a b:Nat}(ha:Zg a)(hb:Zg b):P0.wrap (((((a:Int)%2^P0.bits).toNat|||((b:Int)%2^P0.bits).toNat:Nat)):Int)=((a|||b:Nat):Int):=by grind [fw,YF,VO]
theorem dt{a b:Nat}(ha:Zg a)(hb:Zg b):Zg (a^^^b):=Nat.xor_lt_two_pow (n:=64) ha hb
theorem Ch{a b:Nat}(ha:Zg a)(hb:Zg b):P0.wrap (((((a:Int)%2^P0.bits).toNat^^^((b:Int)%2^P0.bits).toNat:Nat)):Int)=((a^^^b:Nat):Int):=by grind [fw,YF,dt]
theorem AF{a b:Int}:RJ.wrap (((a%2^RJ.bits).toNat &&& (b%2^RJ.bits).toNat:Nat):Int)=E9 a b:=QC<|X9<|QO a
theorem EU{a b:Int}:RJ.wrap (((a%2^RJ.bits).toNat|||(b%2^RJ.bits).toNat:Nat):Int)=Nn a b:=QC<|VO (QO a)<|QO b
theorem Gf(a b:Int):kV (E9 a b):=nZ<|X9<|QO a
theorem Lg(a b:Int):kV (Nn a b):=nZ<|VO (QO a)<|QO b
theorem Hn{b:Nat}(h:b≠0):(b:Int)≠0:=by lia
theorem oJ{B n:Nat}(hB:0<B)(h:B*n<=281474976710656):n<=9223372036854775807:=by
 have:=Nat.le_mul_of_pos_left n hB;lia
theorem ca{α:Type}{e:zv α}{et:TypeId}{z:α}{xs:List α}{n bytes:Nat}{zero:Value}{yy:Operand}{kl kc:IntKind}(ht:P.underlying t=some (.slice et))(ha:jJ P et e.agg e.n bytes zero)(hx:ev env x=.int kl (n:Int))(hy:ev env yy=.int kc (n:Int))(hB:0<bytes)(hb:bytes*n<=281474976710656)
 (hz:∀(S:Nat->Prop) (w:World),e.p S z zero.cells.toList w) (hc:xs=Pv n z):OG P ⟨d,.makeSlice t x yy,ty,pos,aft,g⟩ env we Se ms Γ (fun b=>(.slice (some ⟨b,0,none⟩) n n)) (fun b=>(mB (rowT e n) et b xs::ms)) (fun _=>Γ) (fun _=>True):=by
 subst hc;intro w hd;refine(gf ht ha hx hy hb (oJ hB hb) hz w hd).mono ?_;rintro v w' ⟨b,h1,h2,h3⟩;exact⟨b,h1,h2,h3.rowRT 0 rfl<|by simp⟩
end
end
section
theorem Iy{α:Type}{a x:α}(h:some a=some x):a=x:=P9 h
theorem lP{x:Int}{c n:Nat}(h:c=n)(hb:x=(n:Int)):x=(c:Int):=by rw[hb,h]
theorem Cu{x y z q:Nat}(hx:Zg x)(hy:Zg y)(hz:z<=1)(h:q=(x+y+z)/18446744073709551616):Zg q:=by unfold Zg at*;lia
theorem Cd{x y z q:Nat}(_:Zg x)(_:Zg y)(_:z<=1)(h:q=if x<y+z then 1 else 0):Zg q:=by unfold Zg;split at h<;>lia
theorem NI{P:Program}{env:yb}{o:Oper}{k k':IntKind}{a b x y:Nat}(h:∀w,(execOp (ev env) o).run P w=.ok (.value (.tuple #[.int k (a:Int),.int k' (b:Int)])) w)(hx:x=a)(hy:y=b):
 ∀w,(execOp (ev env) o).run P w=.ok (.value (.tuple #[.int k (x:Int),.int k' (y:Int)])) w:=by subst hx;subst hy;exact h
def JG(we:World)(Se:Nat->Prop)(i:nT)(R:yb->World->Prop)(rest:yb):Prop:=∀w,St we Se i.ms i.Γ w->R (L i.live rest) w
theorem tX{we:World}{Se:Nat->Prop}{G:Type}{inv:G->nT}{ok:G->Prop}{R:yb->World->Prop}(k:∀g,ok g->∀rest,JG we Se (inv g) R rest):
 ∀env w,JQ we Se inv ok env w->R env w:=Hv k
theorem Dz{we:World}{Se:Nat->Prop}{i:nT}{R:yb->World->Prop}{rest:yb}{ms':List MF}{Γ':List FF}{live':List (Nat×Value)}(h:i=⟨ms',Γ',live'⟩)(k:∀w,St we Se ms' Γ' w->R (L live' rest) w):JG we Se i R rest:=by
 subst h;exact k
theorem dQ{F:Fence}{n:Nat}{P:Program}{a:Act}{w:World}{Q:Exit->Act->World->Prop}{c:Code}(h:c.wpIn F n P (Exit.noGoto Q) a w):(Code.scope c).wpIn F n P Q a w:=by
 intro b k cs hc hb hr;have s1:∀{cs:List Frame}{k:List Item},step P (lone (b.atR a (.code (.scope c)::k)) cs w)=.next (lone (b.atR a (.code c::.inScope c::k)) cs w):=step_lone_go (by simp[stepG,stepG.exec,Frame.atR]);have s2:∀{a:Act}{w:World}{cs:List Frame}{k:List Item},step P (lone (b.atR a (.inScope c::k)) cs w)=.next (lone (b.atR a k) cs w):=step_lone_go (by simp[stepG,stepG.exec,Frame.atR]);have h0:(lone (b.atR a (.code (.scope c)::k)) cs w).fenced P F:=fenced_calm hb hr rfl;obtain⟨e,a₁,w₁,hq,ha⟩:=h b (.inScope c::k) cs hc hb hr
 cases e with
 |normal=>exact⟨.normal,a₁,w₁,hq,.head h0 s1<|StepsIn.trans ha (.one (fenced_calm hb hr rfl) s2)⟩
 |exit id=>exact⟨.exit id,a₁,w₁,hq,fun k' hk=> .head h0 s1 (ha.1 k'<|by simp[exitTo,hk]),fun hd hk=>let⟨k₁,h1,h2⟩:=ha.2 hd (by simp[exitTo,hk]);⟨k₁,h1,.head h0 s1 h2⟩⟩
 |goto l=>exact hq.elim
 |ret=>exact⟨_,a₁,w₁,hq,.of_steps (.one h0 s1) ha⟩
 |panic ch=>exact⟨_,a₁,w₁,hq,.of_steps (.one h0 s1) ha⟩
 |outgrown=>exact⟨_,a₁,w₁,hq,.of_steps (.one h0 s1) ha⟩
section
variable{P:Program}{N:Nd}{we:World}{Se:Nat->Prop}{ms:List MF}{Γ:List FF}{Q:Qs}{env:yb}{ops:Array Oper}{d:Option Tmp}{ty t:TypeId}{pos:String}{aft:Array Edge}{g:Option (Nat×Bool)}
def L5(P:Program)(t:TypeId):Option (Array<|Nat×Nat):=match P.underlying t with
 |some (.struct fs)=>(fs.toList.mapM fun f=>(P.info? f.type).map fun i=>(f.offset,i.size)).map (·.toArray)
 |_=>none
theorem bN(w:World):∀(l:List Field) (r:List (Nat×Nat)),(l.mapM fun f=>(P.info? f.type).map fun i=>(f.offset,i.size))=some r->(l.mapM (fun f=>do pure (f.offset,<-sizeOf f.type)):Sem (List<|Nat×Nat)).run P w=.ok r w
 |[],r,h=>by simp at h;subst h;simp
 |f::l,r,h=>by
  rw[List.mapM_cons]at h
  cases hi:P.info? f.type with
  |none=>rw[hi]at h;simp at h
  |some i=>
   cases hl:(l.mapM fun f=>(P.info? f.type).map fun i=>(f.offset,i.size))with
   |none=>rw[hl]at h;simp at h
   |some q=>
    have ih:=bN w l q hl;have hs:(sizeOf f.type).run P w=.ok i.size w:=by simp[sizeOf,typeInfo,hi]
    simp_all
theorem AX{pl:Array (Nat×Nat)}(h:L5 P t=some pl):∃fs,P.underlying t=some (.struct fs)/\∀w,(fs.mapM (fun f=>do pure (f.offset,<-sizeOf f.type)):Sem (Array<|Nat×Nat)).run P w=.ok pl w:=by
 unfold L5 at h;split at h
 ·next fs hu=>
  refine⟨fs,hu,fun w=> ?_⟩
  cases hl:(fs.toList.mapM fun f=>(P.info? f.type).map fun i=>(f.offset,i.size))with
  |none=>rw[hl]at h;cases h
  |some q=>
   have:=bN w fs.toList q hl;rw[Array.mapM_eq_mapM_toList];simp_all
 ·cases h
theorem NX(n:Nat):xac.wrap (n:Int)=((n%256:Nat):Int):=by
 rfl
theorem Ux{x e:Nat}(h:x=e%256):x<256:=h▸RN _ (by decide)
theorem ND{x:Nat}(h:x<256):kV (x:Int):=⟨by lia,by lia⟩
theorem om{x y:Operand}{s:ByteArray}{k:IntKind}{j z:Nat}(ht:P.underlying t=some .string)(hx:ev env x=.string s)(hs:s=Lib.len8tab)(hy:ev env y=.int k (j:Int))(hj:j<256)(hz:z=Ti j)(w:World):
 (execOp (ev env) ⟨d,.index t x y,ty,pos,aft,g⟩).run P w=.ok (.value (.int .u8 (z:Int))) w:=by
 subst hs;subst hz;have h:=Lib.run_index_len8tab w t k j ht (by lia) (by lia);rw[Lib.len8_of _ (by lia)<|by lia]at h;simp[execOp,hx,hy,h]
theorem JV{j z:Nat}(hj:j<256)(hz:z=Ti j):z<256:=by
 have:=Lib.bitLen_le8' j (by lia) (by lia);grind
theorem mi{place:Nat->Option (Nat×Nat)}{i off:Nat}{v:Value}{pre c post:List Value}{r:List (Nat×Value)}(hp:place i=some (off,v.cells.size))(ho:pre.length=off)(hc:c.length=v.cells.size):
 Sf place (pre++c++post).toArray ((i,v)::r)=Sf place (pre++v.cells.toList++post).toArray r:=by
 subst ho;have ha:v.cells.zipIdx.foldl (fun cs (x:Value×Nat)=>cs.setIfInBounds (pre.length+x.2) x.1) (pre++c++post).toArray=(pre++v.cells.toList++post).toArray:=by
  apply Array.ext';rw[<-Array.foldl_toList,Array.toList_zipIdx,WK pre.length v.cells.toList 0 _<|by simp;lia];simp_all
 conv=>lhs;unfold Sf
 grind
theorem J1{α:Type}{e:zv α}{z0 z:α}{bytes:Nat}{zero:Value}{parts:List (Nat×Operand)}{vs:List (Nat×Value)}{pl:Array (Nat×Nat)}(ht:jJ P t true e.n bytes zero)(hc:e.agg=true)
 (hz:∀(S:Nat->Prop) (w:World),e.p S z0 zero.cells.toList w) (hd:∃fs,P.underlying t=some (.struct fs)/\∀w,(fs.mapM (fun f=>do pure (f.offset,<-sizeOf f.type)):Sem (Array<|Nat×Nat)).run P w=.ok pl w)
 (hv:parts.map (fun x=>(x.1,ev env x.2))=vs) (q:List Value->Prop) (hH:∀(S:Nat->Prop) (w:World),ze S Γ w->∀cs,cs=zero.cells.toList->e.p S z0 cs w->∃out,Sf (pl[·]?) cs.toArray vs=some out.toArray/\e.p S z out w/\q out):
 ah P ⟨d,.build t parts.toArray,ty,pos,aft,g⟩ env ms Γ (fun v:Value=>v) (fun v=>[fV e z v]) (fun v=>q v.cells.toList):=by
 intro w S _ _ hΓ;obtain⟨out,h1,h2,h3⟩:=hH S w hΓ _ rfl<|hz S w;refine xX.of_value (w':=w) (v:=.agg out.toArray) ?_ ⟨_,rfl,by simpa[Value.cells]using h3,zH.refl _ _,⟨⟨out,by simp[zv.val,hc],h2⟩,trivial⟩⟩;obtain⟨fs,hu,ha⟩:=hd;have he:parts.toArray.map (fun x=>(x.1,ev env x.2))=vs.toArray:=by rw[<-hv];simp
 simp only[execOp,O5];have hb:(Instr.build t<|parts.toArray.map fun x=>(x.1,ev env x.2)).run P w=.ok (.agg out.toArray) w:=by
  rw[he];unfold Instr.build;simp only[O5,vt ht,O0,run_underlying hu,ha,h1,Pg]
 rw[hb];rfl
end
end
section
def Jr(D:Nat->Bool)(i:Nat):Nat->Bool:=fun k=>D k||OW k i
theorem Wz(D:Nat->Bool)(i:Nat):Jr D i i=true:=by simp[Jr]
theorem KH{D:Nat->Bool}{i k:Nat}(h:k≠i):Jr D i k=D k:=by simp[Jr,qt h]
theorem Br{D:Nat->Bool}{i k:Nat}(h:D k=true):Jr D i k=true:=by simp[Jr,h]
section
variable{P:Program}{N:Nd}{we:World}{Se:Nat->Prop}{ms:List MF}{Γ:List FF}{Q:Qs}{env0:yb}{l:List Oper}{m:Nat}
theorem GJ{id:Nat}(m:Nat)(I:(Nat->Bool)->yb->World->Prop)(hm:P.follows .mixedOrders=true)(hc:jq l m=true)(hd:(l.all fun o=>xr N.n o.dst)=true)
 (hN:∀w,St we Se ms Γ w->I (fun _=>false) env0 w)
 (step:∀(D:Nat->Bool) (i:Nat) (env:yb) (w:World),i<m->D i=false->(∀j,D j=true->j<m)->(∀e∈(zt l i).after,Rf .any e=true->D e.on=true)->
  (∀j,D j=true->∀e∈(zt l j).after,Rf .any e=true->D e.on=true)->I D env w->
  (zG l.toArray env (zt l i)=true->xX P (zt l i) env w (fun v w'=>I (Jr D i) (put env (zt l i).dst v) w')\/Al P (zt l i) env w (fun ch w'=>Q (.panic ch) env w'))/\
  (zG l.toArray env (zt l i)=false->I (Jr D i) (put env (zt l i).dst undef) w))
 (fin:∀(D:Nat->Bool) (env:yb) (w:World),(∀j,j<m->D j=true)->(∀j,D j=true->j<m)->I D env w->Aq P N l.toArray (l.drop m) Q env w):
 T P N we Se ms Γ (.region id l.toArray true) Q env0:=by
 intro w0 hO a0 hP hQ hR;obtain⟨h0,h1,h2,h3,hS⟩:=vP hc;refine wpIn_region_any hm ?_;have gE:∀{listed:Array Bool}{i:Nat},i<listed.size->listed.getD i true=listed.getD i false:=fun{listed i} h=>by simp_all
 have gO:∀{listed:Array Bool}{i:Nat},listed.getD i false=true->i<listed.size:=fun{listed i} h=>by
  rcases Re i listed.size with hp|hge
  ·exact hp
  ·simp[Px,Array.getElem?_eq_none hge]at h
 have key:∀(fuel:Nat) (listed:Array Bool) (a:Act) (w:World),(P4 l.length).countP (fun k=> !listed.getD k true)<=fuel->listed.size=l.length->a.tmps.size=N.n->a.defers=N.ds->
  (∀i,m<=i->i<l.length->listed.getD i true=false)->
  (∀i,i<l.length->listed.getD i false=true->∀e∈(zt l i).after,Rf .any e=true->listed.getD e.on false=true)->
  I (fun i=>listed.getD i false) (zg a) w->wpAnyIn N.F 0 P .any l.toArray (lY N Q) fuel listed a w:=by
  intro fuel
  induction fuel with
  |zero=>
   intro listed a w hy hx b1 b2 ha hl hI;have hg:∀k,k<l.length->listed.getD k true=true:=fun k hk=>by
    have hz:(P4 l.length).countP (fun k=> !listed.getD k true)=0:=by lia
    rw[List.countP_eq_zero]at hz;have:=hz k<|PK.2 hk;simpa using this
   have hY:m=l.length:=by
    rcases Re m l.length with hp|hge
    ·have h5:=ha m (O3 _) hp;rw[hg m hp]at h5;cases h5
    ·lia
   refine YL hc 0 m listed a w (O3 _) h0 (by lia) hx (fun k hk=>by rw[hg k hk];simp;lia) ?_;exact fin _ _ w (fun j hj=>by rw[<-gE<|by lia];exact hg j<|by lia) (fun j hj=>by have:=gO hj;lia) hI a b1 b2 rfl
  |succ fuel ih=>
   intro listed a w hy hx b1 b2 ha hl hI;by_cases hg:∀k,k<m->listed.getD k true=true
   ·have hF:∀k,k<l.length->listed.getD k true=decide (k<m):=fun k hk=>by
     by_cases hC:k<m
     ·rw[hg k hC];simp[hC]
     ·rw[ha k (by lia) hk];simp[hC]
    refine YL hc (fuel+1) m listed a w (O3 _) h0 (Pz ?_ hy) hx hF ?_
    ·rw[show(P4 l.length).countP (fun k=> !listed.getD k true)=(P4 l.length).countP (fun k=> !decide (k<m))from List.countP_congr fun k hk=>by rw[hF k<|PK.1 hk]];exact fA.count_ge m [] m l.length
    ·refine fin _ _ w (fun j hj=>by rw[<-gE<|by lia];exact hg j hj) (fun j hj=> ?_) hI a b1 b2 rfl;rcases Re j m with h|h
     ·exact h
     ·have hD:=gO hj;rw[<-gE hD,ha j h<|by lia]at hj;cases hj
   ·have hG:∃k,k<m/\listed.getD k true=false:=by
     by_cases hh:∃k,k<m/\listed.getD k true=false
     ·exact hh
     ·exact absurd (fun k hk=>by
       cases hb:listed.getD k true
       ·exact absurd ⟨k,hk,hb⟩ hh
       ·rfl) hg
    refine⟨fun hr=> ?_,fun i hi=> ?_⟩
    ·exfalso;obtain⟨k,hk,hE,hH⟩:=fA.first_un m [] hG;have:k∈So .any l.toArray listed:=mem_ready.2 ⟨hE,zt l k,qp (by lia),fun e he hb=>by
      have h5:=h1 k (by lia) e he hb;have h6:=hH e.on h5;rwa[gE (by lia:e.on<listed.size)]at h6⟩
     rw[hr]at this;cases this
    ·obtain⟨hu,o,ho,hn⟩:=mem_ready.1 hi;have hq:i<l.length:=by simpa using(Ph.1 ho).1
     rw[qp hq]at ho;cases ho;have hT:i<m:=by
      rcases Re i m with h|h
      ·exact h
      ·exfalso;by_cases hJ:m=i
       ·subst hJ;obtain⟨k,hk,hE⟩:=hG;have h6:=ZF hl h1 16 m k hq hn<|hS hq k hk;rw[<-gE (by lia:k<listed.size),hE]at h6;cases h6
       ·obtain⟨e,he,hb,hU⟩:=vA<|h3 i (by lia) hq;have h6:=hn e he hb;rw[hU,<-gE (by lia:i-1<listed.size),ha (i-1) (by lia)<|by lia]at h6;cases h6
     have hw:i<listed.size:=by lia
     have hV:xr N.n (zt l i).dst=true:=by
      rw[Pe]at hd;refine hd _ ?_;have:zt l i=l[i]:=by simp[zt,hq]
      rw[this];exact Rm _
     have hA:∀j,(fun i=>listed.getD i false) j=true->j<m:=fun j hj=>by
      rcases Re j m with h|h
      ·exact h
      ·have hD:=gO hj;have hK:listed.getD j false=true:=hj;rw[<-gE hD,ha j h<|by lia]at hK;cases hK
     have hs:=step (fun i=>listed.getD i false) i (zg a) w hT (by rw[<-gE hw];exact hu) hA hn (fun j hj=>hl j (by have:=hA j hj;lia) hj) hI;have hL:(fun k=>(listed.setIfInBounds i true).getD k false)=Jr (fun i=>listed.getD i false) i:=by
      funext k;by_cases ht:i=k
      ·subst ht;rw[Wz];simp[hw]
      ·rw[getD_set_ne false ht,KH<|fun e=>ht e.symm]
     have next:∀v w',I (Jr (fun i=>listed.getD i false) i) (put (zg a) (zt l i).dst v) w'->wpAnyIn N.F 0 P .any l.toArray (lY N Q) fuel (listed.setIfInBounds i true) (a.put (zt l i).dst v) w':=by
      intro v w' hv;refine ih _ _ w' ?_ (by simpa using hx) (by rw[kJ];exact b1) (by rw[qy];exact b2) (fun k hW hk=> ?_) (fun k hk hM e he hb=> ?_) ?_
      ·have:=(WI hw hu<|P4 l.length).2<|PK.2 hq;lia
      ·rw[getD_set_ne true<|by lia];exact ha k hW hk
      ·by_cases ht:i=k
       ·subst ht;exact getD_set_true<|hn e he hb
       ·rw[getD_set_ne false ht]at hM;exact getD_set_true<|hl k hk hM e he hb
      ·rw[qE (by rw[b1];exact uK hV),hL];exact hv
     unfold wpOpIn;rw[qp hq];simp only[jh];cases hB:zG l.toArray (zg a) (zt l i)
     ·simp only[Pd,if_false];exact⟨fun _ _=>trivial,next undef w (hs.2 hB)⟩
     ·simp only[if_true];rcases hs.1 hB with h|h
      ·exact h.wp fun v w' hX=>next v w' hX
      ·exact h.wp fun ch w' hk=>⟨b1,b2,hk⟩
 refine key l.toArray.size _ a0 _ ?_ (by simp) hP hQ (fun i hJ hi=>by simp[hi]) (fun i hi hp=> ?_) ?_
 ·exact Pz (TC)<|by simp
 ·have:=gO hp;rw[<-gE this]at hp;simp[hi]at hp
 ·have hf:(fun i=>(RE l.toArray.size false).getD i false)=fun _=>false:=by
   funext i;simp only[Px,Array.getElem?_replicate];split<;>rfl
  rw[hf,hR];exact hN _<|hO.ext<|jA.drawn w0 _
end
end
section
theorem qo{S:Nat->Prop}{w:World}:∀{ms:List MF},z7 S ms w↔∀m∈ms,m.p S w
 |[]=>⟨fun _ m h=>absurd h UV,fun _=>trivial⟩
 |m::r=>by
  have ih:=qo (S:=S) (w:=w) (ms:=r);constructor
  ·intro h x hx;rcases OY.1 hx with rfl|hx
   ·exact h.1
   ·exact ih.1 h.2 x hx
  ·intro h;exact⟨h m<|Nm,ih.2 fun x hx=>h x<|H1 _ hx⟩
theorem QN:∀{ms:List MF},jV ms↔ms.Pairwise (fun m m'=>∀k,m.blk k->¬m'.blk k)
 |[]=>⟨fun _=>List.Pairwise.nil,fun _=>trivial⟩
 |m::r=>by
  rw[List.pairwise_cons];have ih:=QN (ms:=r);exact⟨fun h=>⟨fun m' ha k hk=>h.1 k hk m' ha,ih.1 h.2⟩,fun h=>⟨fun k hk m' ha=>h.1 m' ha k hk,ih.2 h.2⟩⟩
theorem St.perm{we:World}{Se:Nat->Prop}{ms ms':List MF}{Γ:List FF}{w:World}(h:St we Se ms Γ w)(hp:ms.Perm ms'):St we Se ms' Γ w:=by
 obtain⟨h1,h2,h3,S,h4,h5,h6,h7,h8⟩:=h;refine⟨h1,h2,QN.2<|(hp.pairwise_iff fun{x y} ha k hk hc=>ha k hc hk).1<|QN.1 h3,S,h4,h5,fun m hm=>h6 m<|hp.mem_iff.2 hm,qo.2 fun m hm=>qo.1 h7 m<|hp.mem_iff.2 hm,h8⟩
def pJ:Value->Option Nat
 |.pointer (some ⟨b,_,_⟩)=>some b
 |_=>none
def mP{α:Type}(e:X1 α)(E:TypeId)(v:Value)(z:α):MF where
 blk k:=pJ v=some k
 p S w:=∃b,v=.pointer (some ⟨b,0,none⟩)/\(mB e E b z).p S w
 keep:=fun⟨b,h1,h2⟩ k hb=>⟨b,h1,(mB e E b z).keep h2 k fun i hi=>hb i<|by rw[h1];exact hi⟩
 sub:=fun⟨b,h1,h2⟩ k=>⟨b,h1,(mB e E b z).sub h2 k⟩
 lt:=fun⟨b,h1,h2⟩ k hk=>(mB e E b z).lt h2 k<|by rw[h1]at hk;exact hk
theorem St.openP{α:Type}{e:X1 α}{E:TypeId}{v:Value}{z:α}{we:World}{Se:Nat->Prop}{ms:List MF}{Γ:List FF}{w:World}(i:Nat)(h:St we Se ms Γ w)(hm:ms[i]? =some (mP e E v z)):
 ∃b,v=.pointer (some ⟨b,0,none⟩)/\St we Se (ms.set i<|mB e E b z) Γ w:=by
 obtain⟨S,hp,_⟩:=h.muts hm;obtain⟨b,hv,_⟩:=hp;subst hv;exact⟨b,rfl,h.conv hm rfl fun S ⟨b',h1,h2⟩=>by cases h1;exact h2⟩
theorem St.toP{α:Type}{e:X1 α}{E:TypeId}{b:Nat}{z:α}{we:World}{Se:Nat->Prop}{ms:List MF}{Γ:List FF}{w:World}(i:Nat)(h:St we Se ms Γ w)(hm:ms[i]? =some (mB e E b z)):
 St we Se (ms.set i<|mP e E (.pointer<|some ⟨b,0,none⟩) z) Γ w:=h.conv hm rfl fun S h=>⟨b,rfl,h⟩
theorem fL{K:List (Tmp×Pr)}{env0 env:yb}{S:Nat->Prop}{w w':World}{t:Tmp}(h:qB K env0 env S w t)(k:zH S w w'):qB K env0 env S w' t:=by grind [qB,Pr.keepS]
theorem mM{K:List (Tmp×Pr)}{env0 env:yb}{S S':Nat->Prop}{w:World}{t:Tmp}(h:qB K env0 env S w t)(k:∀k,k<w.heap.size->S k->S' k):qB K env0 env S' w t:=by grind [qB,Pr.sub]
def Kz(K:List (Tmp×Pr))(env0 env:yb)(ts:List Tmp):FF where
 p S w:=jE K env0 env S w ts
 keep:=fun{S w w'} h k=>by
  induction ts with
  |nil=>trivial
  |cons t ts ih=>exact⟨fL h.1 k,ih h.2⟩
 sub:=fun{S S' w} h k=>by
  induction ts with
  |nil=>trivial
  |cons t ts ih=>exact⟨mM h.1 k,ih h.2⟩
structure LX where
 a:Option Nat
 t:Tmp
 w:Option Nat
 mf:Bool->Value->MF
def LX.done(r:LX)(D:Nat->Bool):Bool:=match r.w with
 |some i=>D i
 |none=>false
def LX.here(r:LX)(D:Nat->Bool):Bool:=match r.a with
 |some i=>D i
 |none=>true
def av(rs:List LX)(D:Nat->Bool)(env:yb):List MF:=rs.filterMap fun r=>bif r.here D then some (r.mf (r.done D)<|env r.t)else none
def Ot(l:List Oper)(i j:Nat):Bool:=match(zt l i).dst with
 |some t=>(zt l j).dst==some t
 |none=>false
section
variable{P:Program}{N:Nd}{we:World}{Se:Nat->Prop}{ms:List MF}{Γ:List FF}{Q:Qs}{env0:yb}{l:List Oper}{m:Nat}
def Vt(L:List (Oper×Pr))(D:Nat->Bool)(env:yb):FF where
 p S w:=∀i x t,D i=true->L[i]? =some x->x.1.dst=some t->x.2.p S (env t) w
 keep:=fun h k i x t h1 h2 h3=>x.2.keepS (h i x t h1 h2 h3) k
 sub:=fun h k i x t h1 h2 h3=>x.2.sub (h i x t h1 h2 h3) k
end
section
variable{P:Program}{N:Nd}{we:World}{Se:Nat->Prop}{ms:List MF}{Γ:List FF}{env:yb}{d:Option Tmp}{ty t:TypeId}{pos:String}{aft:Array Edge}{g:Option (Nat×Bool)}
theorem tJ{α:Type}{e:zv α}{et:TypeId}{zs:List α}{len bytes:Nat}{zero:Value}{parts:List (Nat×Operand)}{vs:List (Nat×Value)}(ht:P.underlying t=some (.slice et))(hd:jJ P et e.agg e.n bytes zero)
 (hn:0<e.n) (hc:zs.length=len) (hq:len*e.n<=16777216) (hv:parts.map (fun x=>(x.1,ev env x.2))=vs)
 (hg:∀(S:Nat->Prop) (w:World),ze S Γ w->uB (fun i=>some (i*e.n,e.n)) vs 0) (hp:∀(S:Nat->Prop) (w:World),ze S Γ w->zX e S zs (wM vs) w):
 OG P ⟨d,.buildSlice t len parts.toArray,ty,pos,aft,g⟩ env we Se ms Γ (fun v:Value=>v) (fun v=>mO e et v zs::ms) (fun _=>Γ) (fun _=>True):=by
 intro w he;obtain⟨S0,hr,hΓ⟩:=he.ex;have hi:=hp S0 w hΓ;have hl:(wM vs).length=len*e.n:=by rw[hi.len,hc]
 have hu:len<=9223372036854775807:=by have:len<=len*e.n:=SB _ hn;lia
 refine xX.of_value (w':=w.alloc (.cells (wM vs).toArray et)) (v:=.slice (some ⟨w.heap.size,0,none⟩) len len) ?_ ⟨_,rfl,trivial,?_⟩
 ·have hj:parts.toArray.map (fun x=>(x.1,ev env x.2))=vs.toArray:=by rw[<-hv];simp
  have ha:Sf (fun i=>some (i*e.n,e.n)) ((Ta<|len*e.n).map (zero.cells[·%zero.cells.size]!)) vs=some (wM vs).toArray:=by
   have:=XY vs [] ((Ta<|len*e.n).map (zero.cells[·%zero.cells.size]!)).toList (hg S0 w hΓ) (by simp[hl]);rw[P1,RB,P1,RY (by simp[hl]),Ps]at this;lia
  have hb:(TJ t len<|parts.toArray.map fun x=>(x.1,ev env x.2)).run P w=.ok (.slice (some ⟨w.heap.size,0,none⟩) len len) (w.alloc (.cells (wM vs).toArray et)):=by
   rw[hj];unfold TJ;simp only[O5,run_underlying ht,O0,xh hd,ir (show¬len*e.n>2^24 by lia),newRow];by_cases h0:len*e.n=0
   ·have hw:wM vs=[]:=Pn (by rw[hl,h0]);have ho:Sf (fun i=>some (i*e.n,e.n)) ((Ta 0).map ((#[]:Array Value)[·%(#[]:Array Value).size]!)) vs=some (wM vs).toArray:=by
     have hm:∀f:Nat->Value,(Ta 0).map f= #[]:=fun f=>by simp
     rw[<-ha,h0,hm,hm]
    simp only[h0,if_true];simp only[ho,O5,run_newObj_alloc,O0,Pg]
   ·simp only[ir h0,O5,vt hd,O0,Pg,ha,run_newObj_alloc]
  simp only[execOp,O5,hb,O0,Pg]
 ·have hf:St we Se (mR e et w.heap.size zs::ms) Γ (w.alloc (.cells (wM vs).toArray et)):=by
   refine he.fresh (jA.alloc w _) rfl (by simp) ?_;intro S hS hΓ;refine⟨_,heap_alloc_new w _,?_⟩;exact((hp S w hΓ).sub fun k hk hs=>⟨hs,Nat.ne_of_lt hk⟩).keep (jA.alloc w _).to
  exact Bq (n:=len) 0 hf rfl hc.symm<|by lia
end
theorem DV{P:Program}{env:yb}{d:Option Tmp}{ty t:TypeId}{pos:String}{aft:Array Edge}{g:Option (Nat×Bool)}{x:Operand}{b:Bool}(h:ev env x=.bool b)(w:World):
 (execOp (ev env) ⟨d,.unOp .not t x,ty,pos,aft,g⟩).run P w=.ok (.value (.bool !b)) w:=Yq (by show(match ev env x with|SG t=>some (SG !t)|_=>none)=_;rw[h]) w
abbrev iv(x:Int):Value:=.int .i64 x
abbrev uv(x:Nat):Value:=.int .u64 (x:Int)
def LB(N:Nat)(ops:Array Oper):List Oper->yb->List (Nat×Value)->Option (List<|Nat×Value)
 |[],_,acc=>some acc
 |o::r,env,acc=>match o.dst with
  |some d=>bif xr N (some d)then(bif zG ops (L acc env) o then(match pv o (L acc env)with
   |some v=>LB N ops r env ((d,v)::acc)
   |none=>none)else(match o.guard with
   |some (j,want)=>bif gd ops (L acc env) j==some (!want)then LB N ops r env ((d,undef)::acc)else none
   |none=>none))else none
  |none=>none
theorem K3{N:Nat}{ops:Array Oper}:∀(l:List Oper) (env:yb) (acc added:List (Nat×Value)),LB N ops l env acc=some added->KA N ops l (L acc env)=some (L added env)
 |[],env,acc,added,h=>by cases h;rfl
 |o::r,env,acc,added,h=>by
  unfold LB at h;unfold KA
  cases hd:o.dst with
  |none=>rw[hd]at h;cases h
  |some d=>
   rw[hd]at h;simp only at h;cases ho:xr N (some d)
   ·simp_all
   ·rw[ho]at h;simp only[cond_true]at h⊢;cases hw:zG ops (L acc env) o
    ·rw[hw]at h;simp only[cond_false]at h⊢;split at h
     ·next j want hg=>
      cases hb:(gd ops (L acc env) j==some (!want))
      ·simp_all
      ·rw[hb]at h;simp only[hg,hb,cond_true]at h⊢;exact K3 r env _ added h
     ·cases h
    ·rw[hw]at h;simp only[cond_true]at h⊢
     cases hp:pv o (L acc env)with
     |none=>rw[hp]at h;cases h
     |some v=>rw[hp]at h;exact K3 r env _ added h
theorem xe{P:Program}{N:Nd}{we:World}{Se:Nat->Prop}{ms:List MF}{Γ:List FF}{Q:Qs}{ops:Array Oper}(n:Nat)(added:List (Nat×Value)){l:List Oper}{env:yb}
 (h:LB N.n ops (l.take n) env []=some added) (k:TL P N we Se ms Γ ops (l.drop n) Q (L added env)):TL P N we Se ms Γ ops l Q env:=by
 rw[<-RL n l];exact Xl _ _ _ _ (K3 _ env [] added h) k
def CY{α:Type}(xs ys:List α):List α:=TB (min ys.length xs.length) ys++TX (min ys.length xs.length) xs
def Q2{α:Type}(lo n:Nat)(xs ys:List α):List α:=TB lo xs++TB (min ys.length n) ys++TX (lo+min ys.length n) xs
end
section
set_option maxRecDepth 100000
theorem z2(S:Nat->Prop)(w:World):(eI).p S 0 (Value.cells (.int .i64 0)).toList w:=⟨rfl,by decide,by decide⟩
theorem Ou:jJ Tryz.prog 3 false 1 8 (.int .i64 0):=jJ.of<|by kernel_rfl
theorem z3(S:Nat->Prop)(w:World):(eI).p S 0 (Value.cells (.int .i64 0)).toList w:=⟨rfl,by decide,by decide⟩
theorem LY:jJ Tryz.prog 5 false 1 1 (.int .u8 0):=jJ.of<|by kernel_rfl
end
section
open Go.ChangeShapes Go.WideShapes Go.ChangeAt Go.RowKit
variable{W W':World}
theorem dF(hx:jA W W')(may:MemPlace->Prop):W.keptBut W' may:=by
 refine⟨hx.os,hx.output,fun i hi=> ?_⟩;rw[hx.block i hi trivial]
 cases h:W.heap[i]? with
 |none=>rfl
 |some o=>cases o<;>simp
theorem Af{H:Type}{enc:TypeId×Value->H}{P:Program}{f:Func}{s:ChangeSpec}{apart fresh ha:Bool}{args:Array Value}{v:Value}{ds gs:List (DataW H)}{before pa pv:List MemPlace}(hW:DataW.Whole enc P f.params.toList s.vars apart W args.toList ds gs before)(he:∀(b:Nat) (sp:Nat->Bool) (hd:Bool),SV enc P W' b sp hd f.resultTypes.toList (v.resultList f.resultTypes.size) (s.fn H<|ds++gs).results [])(hb:∀sp:Nat->Bool,(∀p∈before,sp p.block=true)->SV enc P W' 0 sp true f.params.toList args.toList (s.fn H<|ds++gs).args pa)(hc:∀sp:Nat->Bool,(∀p∈before,sp p.block=true)->DataW.TrodVars enc P W' sp s.vars (s.fn H<|ds++gs).vars pv)(hf:before=pa++pv)(hx:jA W W'):s.post enc P f apart fresh ha false W args v W':=
 ⟨ds,gs,before,[],pa,pv,hW,he _ _ _,hb _ (fun p hp=>by simpa using hW.lt p hp),hc _ (fun p hp=>by simpa using hW.lt p hp),dF hx _,fun h=>by cases h⟩
end
section
theorem VR{S:Nat->Prop}{w:World}:∀{A B:List MF},z7 S (A++B) w↔z7 S A w/\z7 S B w
 |[],_=>⟨fun h=>⟨trivial,h⟩,fun h=>h.2⟩
 |a::A,B=>by
  have ih:=VR (S:=S) (w:=w) (A:=A) (B:=B);exact⟨fun h=>⟨⟨h.1,(ih.1 h.2).1⟩,(ih.1 h.2).2⟩,fun h=>⟨h.1.1,ih.2 ⟨h.1.2,h.2⟩⟩⟩
theorem WZ:∀{A B:List MF},jV (A++B)↔jV A/\jV B/\∀m∈A,∀k,m.blk k->∀m'∈B,¬m'.blk k
 |[],B=>⟨fun h=>⟨trivial,h,fun m hm=>absurd hm UV⟩,fun h=>h.2.1⟩
 |a::A,B=>by
  have ih:=WZ (A:=A) (B:=B);constructor
  ·intro h;obtain⟨h1,h2,h3⟩:=ih.1 h.2;refine⟨⟨fun k hk m' hm'=>h.1 k hk m'<|OX.2 (.inl hm'),h1⟩,h2,fun m hm k hk m' hm'=> ?_⟩;rcases OY.1 hm with rfl|hm
   ·exact h.1 k hk m'<|OX.2 (.inr hm')
   ·grind
  ·rintro⟨⟨h1,h2⟩,h3,h4⟩;refine⟨fun k hk m' hm'=> ?_,ih.2 ⟨h2,h3,fun m hm=>h4 m<|H1 _ hm⟩⟩;rcases OX.1 hm' with hm'|hm'
   ·simp_all
   ·simp_all
def Qu(G:List MF):MF where
 blk k:=∃m∈G,m.blk k
 p S w:=z7 S G w/\jV G
 keep:=fun h k hb=>⟨z7.keep k (fun m hm i hi=>hb i ⟨m,hm,hi⟩) h.1,h.2⟩
 sub:=fun h k=>⟨z7.sub k h.1,h.2⟩
 lt:=fun h k ⟨m,hm,hk⟩=>z7.lt h.1 m hm k hk
theorem St.grp{we:World}{Se:Nat->Prop}{G ms:List MF}{Γ:List FF}{w:World}:St we Se (Qu G::ms) Γ w↔St we Se (G++ms) Γ w:=by
 constructor
 ·rintro⟨h1,h2,h3,S,h4,h5,h6,h7,h8⟩;refine⟨h1,h2,WZ.2 ⟨h7.1.2,h3.2,fun m hm k hk m' ha=>h3.1 k ⟨m,hm,hk⟩ m' ha⟩,S,h4,h5,fun m hm k hk=> ?_,VR.2 ⟨h7.1.1,h7.2⟩,h8⟩;rcases OX.1 hm with hm|hm
  ·exact h6 (Qu G) (Nm) k ⟨m,hm,hk⟩
  ·grind
 ·rintro⟨h1,h2,h3,S,h4,h5,h6,h7,h8⟩;obtain⟨a1,a2,a3⟩:=WZ.1 h3;obtain⟨m1,m2⟩:=VR.1 h7;refine⟨h1,h2,⟨fun k hk m' ha=>by obtain⟨m,hm,hk⟩:=hk;exact a3 m hm k hk m' ha,a2⟩,S,h4,h5,fun m hm k hk=> ?_,⟨⟨m1,a1⟩,m2⟩,h8⟩;rcases OY.1 hm with rfl|hm
  ·obtain⟨m,hm,hk⟩:=hk;grind
  ·grind
def qs(hv:List Value):zv Nat where
 n:=1
 agg:=false
 n1 _:=rfl
 p _ r cs _:=∃u,hv[r]? =some u/\u.oneCell'=true/\cs=[u]
 len:=by rintro _ _ _ _ ⟨u,_,_,rfl⟩;rfl
 one:=by rintro _ _ _ _ ⟨u,_,hu,rfl⟩ c hc;rw[OZ]at hc;subst hc;exact hu
 keep h _:=h
 sub h _:=h
theorem gp{hv:List Value}{r:Nat}{u:Value}{S:Nat->Prop}{w:World}(h:hv[r]? =some u)(h1:u.oneCell'=true):(fV (qs hv) r u).p S w:=⟨[u],rfl,u,h,h1,rfl⟩
theorem ll{hv:List Value}{r:Nat}{v:Value}{S:Nat->Prop}{w:World}(h:(fV (qs hv) r v).p S w):hv[r]? =some v:=by
 obtain⟨cs,rfl,u,h1,_,rfl⟩:=h;exact h1
theorem bg{hv ha:List Value}{S:Nat->Prop}{w:World}:∀{ix:List Nat}{cs:List Value},zX (qs hv) S ix cs w->zX (qs<|hv++ha) S ix cs w
 |[],_,h=>h
 |r::ix,cs,⟨c,q,h1,⟨u,h2,h3,h4⟩,h5⟩=>⟨c,q,h1,⟨u,by rw[Py (O4.1 h2).1];exact h2,h3,h4⟩,bg h5⟩
theorem ia{hv ha:List Value}{E:TypeId}{v:Value}{ix:List Nat}{S:Nat->Prop}{w:World}(h:(mO (qs hv) E v ix).p S w):(mO (qs<|hv++ha) E v ix).p S w:=by
 obtain⟨cs,h1,h2⟩:=h;exact⟨cs,h1,bg h2⟩
def xB{α:Type}(e:zv α)(E:TypeId):List Value->List (List α)->List MF
 |u::hv,xs::xss=>mO e E u xs::xB e E hv xss
 |_,_=>[]
theorem kv{α:Type}{e:zv α}{E:TypeId}:∀{hv:List Value}{xss:List (List α)}{r:Nat}{u:Value}{xs:List α},hv[r]? =some u->xss[r]? =some xs->(xB e E hv xss)[r]? =some (mO e E u xs)
 |u'::hv,xs'::xss,0,u,xs,h1,h2=>by
  simp only[PE,O6]at h1 h2;subst h1;subst h2;rfl
 |u'::hv,xs'::xss,r+1,u,xs,h1,h2=>kv (hv:=hv) (by simpa using h1)<|by simpa using h2
 |[],_,r,_,_,h1,_=>by simp at h1
 |_::_,[],r,_,_,_,h2=>by simp at h2
theorem Kl{α:Type}{e:zv α}{E:TypeId}:∀{hv:List Value}{xss:List (List α)}{r:Nat}{u:Value}{ys:List α},hv[r]? =some u->(xB e E hv xss).set r (mO e E u ys)=xB e E hv (xss.set r ys)
 |u'::hv,xs'::xss,0,u,ys,h1=>by
  simp only[PE,O6]at h1;subst h1;rfl
 |u'::hv,xs'::xss,r+1,u,ys,h1=>by
  show mO e E u' xs'::(xB e E hv xss).set r (mO e E u ys)=mO e E u' xs'::xB e E hv (xss.set r ys);rw[Kl<|by simpa using h1]
 |[],_,r,_,_,h1=>by simp at h1
 |u'::hv,[],r,u,ys,h1=>by cases r<;>rfl
theorem Qy{α:Type}{e:zv α}{E:TypeId}{u:Value}{xs:List α}:∀{hv:List Value}{xss:List (List α)},hv.length=xss.length->xB e E (hv++[u]) (xss++[xs])=xB e E hv xss++[mO e E u xs]
 |[],[],_=>rfl
 |u'::hv,xs'::xss,h=>by
  show mO e E u' xs'::xB e E (hv++[u]) (xss++[xs])=_;rw[Qy<|by simpa using h];rfl
 |[],_::_,h=>by cases h
 |_::_,[],h=>by cases h
def CM{α:Type}(e:zv α)(E E1:TypeId)(v:Value)(hv:List Value)(xss:List (List α))(ix:List Nat):MF:=Qu (mO (qs hv) E v ix::xB e E1 hv xss)
section
variable{α:Type}{e:zv α}{E E1:TypeId}{v:Value}{hv:List Value}{xss:List (List α)}{ix:List Nat}{we:World}{Se:Nat->Prop}{ms:List MF}{Γ:List FF}{w:World}
theorem CN{r:Nat}{u:Value}{xs:List α}(h1:hv[r]? =some u)(h2:xss[r]? =some xs)(ms:List MF):((mO (qs hv) E v ix::xB e E1 hv xss)++ms)[r+1]? =some (mO e E1 u xs):=by grind [kv,Py]
theorem aB{r:Nat}{u:Value}{ys:List α}(h1:hv[r]? =some u)(h2:r<xss.length)(hl:hv.length=xss.length)(ms:List MF):((mO (qs hv) E v ix::xB e E1 hv xss)++ms).set (r+1) (mO e E1 u ys)=(mO (qs hv) E v ix::xB e E1 hv (xss.set r ys))++ms:=by
 have h3:=Pb h2;have h:=kv (e:=e) (E:=E1) h1 h3;have h4:=(O4.1 h).1;rw[TS _ _ (by simpa using h4),List.set_cons_succ,Kl h1]
theorem St.adopt{u:Value}{ys:List α}(hl:hv.length=xss.length)(h:St we Se (CM e E E1 v hv xss ix::mO e E1 u ys::ms) Γ w):St we Se (CM e E E1 v (hv++[u]) (xss++[ys]) ix::ms) Γ w:=by
 have h1:=St.grp.1 h;have h2:St we Se ((mO (qs hv) E v ix::xB e E1 (hv++[u]) (xss++[ys]))++ms) Γ w:=by
  rw[Qy hl];simp_all
 have h3:=h2.conv (i:=0) (m':=mO (qs<|hv++[u]) E v ix) rfl rfl fun S hp=>ia hp;exact St.grp.2 h3
theorem oz{S S':Nat->Prop}(hs:∀k,S k->S' k)(hb:∀m∈xB e E1 hv xss,∀k,m.blk k->S' k)(h:z7 S (xB e E1 hv xss) w){r:Nat}{u:Value}{xs:List α}(h1:hv[r]? =some u)(h2:xss[r]? =some xs):(fV (eS e) xs u).p S' w:=
 XD hs (fun k hk=>hb _ (Pq<|kv h1 h2) k hk) (z7.get h<|kv h1 h2)
theorem W5{S S':Nat->Prop}(hl:hv.length=xss.length)(hs:∀k,S k->S' k)(hb:∀m∈xB e E1 hv xss,∀k,m.blk k->S' k)(h:z7 S (xB e E1 hv xss) w):∀{ix:List Nat}{cs:List Value},zX (qs hv) S ix cs w->zX (eS e) S' (ix.map fun r=>xss.getD r []) cs w
 |[],_,h=>h
 |r::ix,cs,⟨c,q,h1,⟨u,h2,h3,h4⟩,h5⟩=>by
  have h6:=(O4.1 h2).1;have h7:xss[r]? =some (xss.getD r []):=by simp_all
  exact⟨c,q,h1,⟨u,h4,yX.1<|oz hs hb h h2 h7⟩,W5 hl hs hb h h5⟩
theorem St.mat_frz(hl:hv.length=xss.length)(h:St we Se (CM e E E1 v hv xss ix::ms) Γ w):St we Se ms (fV (eS<|eS e) (ix.map fun r=>xss.getD r []) v::Γ) w:=by
 refine h.freeze (i:=0) rfl fun S S' hs hb hp=> ?_;obtain⟨⟨⟨cs,h1,h2⟩,h3⟩,_⟩:=hp;have ha:=fun m hm k hk=>hb k ⟨m,H1 _ hm,hk⟩;have h4:(mO (eS e) E v<|ix.map fun r=>xss.getD r []).p S' w:=⟨cs,by rw[Rp];exact h1,W5 hl hs ha h3 h2⟩;exact XD (fun k hk=>hk) (fun k hk=>hb k ⟨_,Nm,hk⟩) h4
end
def nb(p:Prop):MF where
 blk _:=False
 p _ _:=p
 keep h _ _:=h
 sub h _:=h
 lt _ _ hk:=hk.elim
def zN:Value->Value
 |.tuple us=>us.toList.headD undef
 |_=>undef
def yL:Value->List Value
 |.tuple us=>us.toList.tail
 |_=>[]
def Zr(v:Value)(hv:List Value):Value:=.tuple (v::hv).toArray
def Js{α:Type}(e:zv α)(E E1:TypeId)(u:Value)(xss:List (List α))(ix:List Nat):MF:=Qu (nb ((yL u).length=xss.length)::mO (qs<|yL u) E (zN u) ix::xB e E1 (yL u) xss)
def NZ{α:Type}(e:zv α)(E E0:TypeId)(u:Value)(xs:List α):MF:=Qu [nb<|(yL u).length=1,mP (qs<|yL u).c E0 (zN u) 0,mO e E ((yL u).headD undef) xs]
def OC(E0:TypeId)(u:Value):MF:=Qu [nb<|(yL u).length=1,mP (qs<|yL u).c E0 (zN u) 0]
end
section
def oP{α:Type}(e:zv α)(S:Nat->Prop):Option α->List Value->World->Prop
 |none,cs,_=>cs=[.pointer none]
 |some y,cs,w=>∃v,cs=[v]/\(fP e y v).p S w
def eO{α:Type}(e:zv α):zv (Option α)where
 n:=1
 agg:=false
 n1 _:=rfl
 p S x cs w:=oP e S x cs w
 len:=by
  intro S x cs w h
  cases x with
  |none=>rw[show cs=_ from h];rfl
  |some y=>obtain⟨v,rfl,_⟩:=h;rfl
 one:=by
  intro S x cs w h c hc
  cases x with
  |none=>rw[show cs=_ from h]at hc;rw[OZ.1 hc];rfl
  |some y=>obtain⟨v,rfl,b,o,cs',rfl,_⟩:=h;rw[OZ.1 hc];rfl
 keep:=by
  intro S x cs w w' h k
  cases x with
  |none=>exact h
  |some y=>obtain⟨v,h1,h2⟩:=h;exact⟨v,h1,(fP e y v).keep h2 k⟩
 sub:=by
  intro S S' x cs w h k
  cases x with
  |none=>exact h
  |some y=>obtain⟨v,h1,h2⟩:=h;exact⟨v,h1,(fP e y v).sub h2 k⟩
section
variable{α:Type}{e:zv α}{S:Nat->Prop}{w:World}{v:Value}
theorem HG(h:(fV (eO e) none v).p S w):v=.pointer none:=by
 obtain⟨cs,rfl,h⟩:=h;rw[show cs=_ from h];rfl
theorem Ld:(fV (eO e) none (.pointer none)).p S w:=⟨[.pointer none],rfl,rfl⟩
theorem su{y:α}(h:(fV (eO e) (some y) v).p S w):(fP e y v).p S w:=by
 obtain⟨cs,rfl,v,rfl,h⟩:=h;exact h
theorem LK{y:α}(h:(fP e y v).p S w):(fV (eO e) (some y) v).p S w:=⟨[v],rfl,v,rfl,h⟩
theorem Gr{x:Option α}(h:(fV (eO e) x v).p S w):∃p,v=.pointer p/\p.isNone=x.isNone:=by
 cases x with
 |none=>exact⟨_,HG h,rfl⟩
 |some y=>obtain⟨b,o,cs,h1,_⟩:=su h;exact⟨_,h1,rfl⟩
end
def eW{α:Type}(e:zv α):zv α where
 n:=e.n
 agg:=true
 n1 h:=by cases h
 p:=e.p
 len:=e.len
 one:=e.one
 keep:=e.keep
 sub:=e.sub
theorem vj.wrap{α:Type}(e:zv α)(x:α):vj (eW e).c x 0 e x id:=fun S w cs h=>vj.self e x S w cs h
def uJ{α:Type}(e:zv α)(off:Nat)(nl:α->α)(hv:List Value):X1 (α×Nat)where
 p S z cs w:=∃u,hv[z.2]? =some u/\u.oneCell'=true/\cs[off]? =some u/\e.p S (nl z.1) (cs.set off (.slice none 0 0)) w
 keep:=fun⟨u,h1,h2,h3,h4⟩ k=>⟨u,h1,h2,h3,e.keep h4 k⟩
 sub:=fun⟨u,h1,h2,h3,h4⟩ k=>⟨u,h1,h2,h3,e.sub h4 k⟩
def MN{α β:Type}(q:Prop)(e:zv α)(E off:Nat)(nl:α->α)(s:zv β)(E1:TypeId)(u:Value)(z:α)(xs:List β):MF:=Qu [nb<|(yL u).length=1/\q,mP (uJ e off nl<|yL u) E (zN u) (z,0),mO s E1 ((yL u).headD undef) xs]
def NW{α:Type}(q:Prop)(e:zv α)(E off:Nat)(nl:α->α)(u:Value)(z:α):MF:=Qu [nb<|(yL u).length=1/\q,mP (uJ e off nl<|yL u) E (zN u) (z,0)]
def GH(n:Nat)(ag:Bool)(hn:ag=false->n=1):zv (Option<|List Value)where
 n:=n
 agg:=ag
 n1:=hn
 p _ x cs _:=cs.length=n/\(∀c∈cs,c.oneCell'=true)/\∀l,x=some l->cs=l
 len h:=h.1
 one h:=h.2.1
 keep h _:=h
 sub h _:=h
section
variable{α β γ:Type}{e:zv α}{s:zv β}{g:zv γ}{off o:Nat}{nl:α->α}{hv hv':List Value}{S:Nat->Prop}{w:World}{cs:List Value}
theorem Fu{z:α×Nat}(h:(uJ e off nl hv).p S z cs w):(GH e.n e.agg e.n1).p S none cs w:=by
 obtain⟨u,h1,h2,h3,h4⟩:=h;have hl:=e.len h4;rw[Ri]at hl;refine⟨hl,fun c hc=> ?_,fun l hl=>by cases hl⟩;obtain⟨k,hk⟩:=TD.1 hc;by_cases e1:k=off
 ·simp_all
 ·refine e.one h4 c<|TD.2 ⟨k,?_⟩;grind
theorem E8{x:α}{v:Value}(h:(fV e x v).p S w):(fV (GH e.n e.agg e.n1) (some v.cells.toList) v).p S w:=by
 obtain⟨cs,rfl,h2⟩:=h;refine⟨cs,rfl,e.len h2,e.one h2,fun l hl=> ?_⟩;cases hl;exact(e.val_cells h2).symm
theorem Aw{z:α×Nat}(h:(uJ e off nl hv).p S z cs w):(uJ e off nl<|hv++hv').p S z cs w:=by
 obtain⟨u,h1,h2⟩:=h;exact⟨u,by rw[Py (O4.1 h1).1];exact h1,h2⟩
theorem HQ{z:α}{r r':Nat}(he:hv[r]? =hv'[r']?)(h:(uJ e off nl hv).p S (z,r) cs w):(uJ e off nl hv').p S (z,r') cs w:=by
 obtain⟨u,h1,h2⟩:=h;exact⟨u,he▸h1,h2⟩
theorem vj.hole{z:α}{r:Nat}:vj (uJ e off nl hv) (z,r) off (qs hv) r (fun r'=>(z,r')):=by
 rintro S w cs ⟨u,h1,h2,h3,h4⟩;obtain⟨ha,h5⟩:=O4.1 h3;refine⟨cs.take off,[u],cs.drop<|off+1,?_,by rw[PG];lia,⟨u,h1,h2,rfl⟩,?_⟩
 ·rw[<-h5];simp
 ·rintro w' r' c' k ⟨u',h6,h7,rfl⟩;have hl:(cs.take off).length=off:=by rw[PG];lia
  refine⟨u',h6,h7,?_,?_⟩
  ·simp_all
  ·have e1:(cs.take off++[u']++cs.drop (off+1)).set off (.slice none 0 0)=cs.set off (.slice none 0 0):=by
    have e2:cs.set off (.slice none 0 0)=cs.take off++ .slice none 0 0::cs.drop (off+1):=by rw[Sn,iq ha]
    simp_all
   rw[e1];exact e.keep h4 k
theorem vj.other{z:α}{r:Nat}{y:γ}{up:γ->α}(h:vj e.c (nl z) o g y fun y=>nl<|up y)(hd:o+g.n<=off\/off+1<=o):vj (uJ e off nl hv) (z,r) o g y (fun y=>(up y,r)):=by
 rintro S w cs ⟨u,h1,h2,h3,h4⟩;obtain⟨pre,c,post,h5,h6,h7,h8⟩:=h S w _ h4;obtain⟨hb,h9⟩:=O4.1 h3;have hi:=g.len h7;have hc:cs=(cs.set off (.slice none 0 0)).set off u:=by rw[List.set_set,<-h9,RP]
 rcases hd with hd|hd
 ·have hj:off-(pre++c).length<post.length:=by
   have:(cs.set off (.slice none 0 0)).length=cs.length:=Ri;rw[h5,O1]at this;rw[O1]at this⊢;lia
  have he:(pre++c).length<=off:=by rw[O1];lia
  refine⟨pre,c,post.set (off-(pre++c).length) u,?_,h6,h7,?_⟩
  ·rw[hc,h5,TE _ _ he]
  ·intro w' y' c' k h';have ha:=h8 w' y' c' k h';have hf:=g.len h';have hg:(pre++c').length=(pre++c).length:=by rw[O1,O1,hi,hf]
   refine⟨u,h1,h2,?_,?_⟩
   ·rw[PW (by lia),hg,SI hj]
   ·have:(pre++c'++post.set (off-(pre++c).length) u).set off (.slice none 0 0)=pre++c'++post:=by
     rw[TE _ _ (by lia),hg,List.set_set];have hp:post[off-(pre++c).length]? =some (.slice none 0 0):=by
      have:=congrArg (fun l:List Value=>l[off]?) h5;simp only[SI hb]at this;rw[PW he]at this;exact this.symm
     obtain⟨_,hp⟩:=O4.1 hp;rw[<-hp,RP]
    rw[this];exact ha
 ·have ho:off<pre.length:=by lia
  refine⟨pre.set off u,c,post,?_,by rw[Ri];exact h6,h7,?_⟩
  ·rw[hc,h5,O2,TS _ _ ho,O2]
  ·intro w' y' c' k h';have ha:=h8 w' y' c' k h';refine⟨u,h1,h2,?_,?_⟩
   ·rw[O2,Py (by rw[Ri];exact ho),SI ho]
   ·have:(pre.set off u++c'++post).set off (.slice none 0 0)=pre++c'++post:=by
     rw[O2,TS _ _ (by rw[Ri];exact ho),List.set_set];have hp:pre[off]? =some (.slice none 0 0):=by
      have:=congrArg (fun l:List Value=>l[off]?) h5;simp only[SI hb]at this;rw[O2,Py ho]at this;exact this.symm
     obtain⟨_,hp⟩:=O4.1 hp;rw[<-hp,RP,O2]
    rw[this];exact ha
end
end
inductive Tr
 |nil
 |mk (op:Nat) (num:List Nat) (nam:Nat) (n:Int) (l r:Tr)
abbrev B4:=Nat×List Nat×Nat×Int×Tr×Tr
def Tr.un(y:B4):Tr:=.mk y.1 y.2.1 y.2.2.1 y.2.2.2.1 y.2.2.2.2.1 y.2.2.2.2.2
def Tr.opt:Tr->Option B4
 |.nil=>none
 |.mk a m c i l r=>some (a,m,c,i,l,r)
def Tr.isNil:Tr->Bool
 |.nil=>true
 |.mk .. =>false
section
variable{x:Nat}{v:Value}{S:Nat->Prop}{w:World}{y:B4}
def ZN:zv Nat where
 n:=1
 agg:=false
 n1 _:=rfl
 p _ x cs _:=cs=[.int .u8 (x:Int)]/\x<256
 len h:=by simp[h.1]
 one h:=by intro c hc;rw[h.1]at hc;simp at hc;subst hc;rfl
 keep h _:=h
 sub h _:=h
def zL(s:ByteArray):List Nat:=s.data.toList.map R7
def mF:zv (List Nat)where
 n:=1
 agg:=false
 n1 _:=rfl
 p _ x cs _:=∃s:ByteArray,cs=[.string s]/\zL s=x/\s.size<=9223372036854775807
 len:=by rintro _ _ _ _ ⟨s,rfl,_⟩;rfl
 one:=by rintro _ _ _ _ ⟨s,rfl,_⟩ c hc;simp at hc;subst hc;rfl
 keep h _:=h
 sub h _:=h
theorem nV(h:(fV ZN x v).p S w):v=.int .u8 (x:Int)/\x<256:=by
 obtain⟨cs,rfl,rfl,h⟩:=h;exact⟨rfl,h⟩
theorem JN(h:x<256):(fV ZN x (.int .u8 (x:Int))).p S w:=⟨_,rfl,rfl,h⟩
theorem YA{x:List Nat}(h:(fV mF x v).p S w):∃s:ByteArray,v=.string s/\zL s=x/\s.size<=9223372036854775807:=by
 obtain⟨cs,rfl,s,rfl,h1,h2⟩:=h;exact⟨s,rfl,h1,h2⟩
theorem J3{s:ByteArray}{x:List Nat}(h:zL s=x)(h2:s.size<=9223372036854775807):(fV mF x (.string s)).p S w:=⟨_,rfl,s,rfl,h,h2⟩
theorem yN(s:ByteArray):(zL s).length=s.size:=by simp_all [zL]
def Ib:zv Bool where
 n:=1
 agg:=false
 n1 _:=rfl
 p _ x cs _:=(x=false/\cs=[.nilIface])\/(x=true/\∃T v,cs=[.iface T v])
 len:=by rintro _ _ _ _ (⟨_,rfl⟩|⟨_,_,_,rfl⟩)<;>rfl
 one:=by rintro _ _ _ _ (⟨_,rfl⟩|⟨_,_,_,rfl⟩) c hc<;>(rw[OZ.1 hc];rfl)
 keep h _:=h
 sub h _:=h
theorem HI{x:Bool}(h:(fV Ib x v).p S w):(x=false/\v=.nilIface)\/(x=true/\∃T u,v=.iface T u):=by
 obtain⟨cs,rfl,⟨rfl,rfl⟩|⟨rfl,T,u,rfl⟩⟩:=h
 ·exact .inl ⟨rfl,rfl⟩
 ·exact .inr ⟨rfl,T,u,rfl⟩
theorem DI:(fV Ib false .nilIface).p S w:=⟨[.nilIface],rfl,.inl ⟨rfl,rfl⟩⟩
def Fk(S:Nat->Prop):Tr->List Value->World->Prop
 |.nil,cs,_=>cs=[.pointer none]
 |.mk a m c i l r,cs,w=>∃b o c1 c2 c3 c4 c5 c6,cs=[.pointer<|some ⟨b,o,none⟩]/\S b/\At w b o (c1++(c2++(c3++(c4++(c5++c6)))))/\
  ZN.p S a c1 w/\(eS eU).p S m c2 w/\ZN.p S c c3 w/\eI.p S i c4 w/\Fk S l c5 w/\Fk S r c6 w
theorem Qb{S:Nat->Prop}{w w':World}(k:zH S w w'):∀{x:Tr}{cs:List Value},Fk S x cs w->Fk S x cs w'
 |.nil,_,h=>h
 |.mk ..,_,⟨b,o,c1,c2,c3,c4,c5,c6,h,hb,ha,h1,h2,h3,h4,h5,h6⟩=>
  ⟨b,o,c1,c2,c3,c4,c5,c6,h,hb,ha.keep hb k,ZN.keep h1 k,(eS eU).keep h2 k,ZN.keep h3 k,eI.keep h4 k,Qb k h5,Qb k h6⟩
theorem ab{S S':Nat->Prop}{w:World}(k:∀k,k<w.heap.size->S k->S' k):∀{x:Tr}{cs:List Value},Fk S x cs w->Fk S' x cs w
 |.nil,_,h=>h
 |.mk ..,_,⟨b,o,c1,c2,c3,c4,c5,c6,h,hb,ha,h1,h2,h3,h4,h5,h6⟩=>
  ⟨b,o,c1,c2,c3,c4,c5,c6,h,k b ha.1 hb,ha,ZN.sub h1 k,(eS eU).sub h2 k,ZN.sub h3 k,eI.sub h4 k,ab k h5,ab k h6⟩
def Jt:zv Tr where
 n:=1
 agg:=false
 n1 _:=rfl
 p:=Fk
 len:=by
  intro S x cs w h
  cases x with
  |nil=>rw[show cs=_ from h];rfl
  |mk=>obtain⟨b,o,c1,c2,c3,c4,c5,c6,rfl,_⟩:=h;rfl
 one:=by
  intro S x cs w h c hc
  cases x with
  |nil=>rw[show cs=_ from h]at hc;rw[OZ.1 hc];rfl
  |mk=>obtain⟨b,o,c1,c2,c3,c4,c5,c6,rfl,_⟩:=h;rw[OZ.1 hc];rfl
 keep h k:=Qb k h
 sub h k:=ab k h
abbrev Aj:zv B4:=eP ZN<|eP (eS eU)<|eP ZN<|eP eI<|eP Jt Jt
theorem CU(h:(fV Jt .nil v).p S w):v=.pointer none:=by
 obtain⟨cs,rfl,h⟩:=h;rw[show cs=_ from h];rfl
theorem H6:(fV Jt .nil (.pointer none)).p S w:=⟨[.pointer none],rfl,rfl⟩
theorem ri{x:Tr}(hx:x.opt=some y)(h:(fV Jt x v).p S w):(fP Aj y v).p S w:=by
 cases x with
 |nil=>cases hx
 |mk a m c i l r=>
  cases hx;obtain⟨cs,rfl,b,o,c1,c2,c3,c4,c5,c6,rfl,hb,ha,h1,h2,h3,h4,h5,h6⟩:=h;exact⟨b,o,_,rfl,hb,ha,c1,_,rfl,h1,c2,_,rfl,h2,c3,_,rfl,h3,c4,_,rfl,h4,c5,_,rfl,h5,h6⟩
theorem Ll(h:(fP Aj y v).p S w):(fV Jt (Tr.un y) v).p S w:=by
 obtain⟨b,o,_,rfl,hb,ha,c1,_,rfl,h1,c2,_,rfl,h2,c3,_,rfl,h3,c4,_,rfl,h4,c5,c6,rfl,h5,h6⟩:=h;exact⟨[_],rfl,b,o,c1,c2,c3,c4,c5,c6,rfl,hb,ha,h1,h2,h3,h4,h5,h6⟩
theorem HZ{x:Tr}(h:(fV Jt x v).p S w):∃p,v=.pointer p/\p.isNone=x.isNil:=by
 cases x with
 |nil=>exact⟨_,CU h,rfl⟩
 |mk=>obtain⟨cs,rfl,b,o,c1,c2,c3,c4,c5,c6,rfl,_⟩:=h;exact⟨_,rfl,rfl⟩
inductive Ty
 |i
 |u
 |b
 |l (t:Ty)
 |p (s t:Ty)
 |a (k:Nat) (t:Ty)
 |ch
 |tx
 |po (t:Ty)
 |w1 (t:Ty)
 |tr
 |er
def Ty.D:Ty->Type
 |.i=>Int
 |.u=>Nat
 |.b=>Bool
 |.l t=>List t.D
 |.p s t=>s.D×t.D
 |.a _ t=>List t.D
 |.ch=>Nat
 |.tx=>List Nat
 |.po t=>Option t.D
 |.w1 t=>t.D
 |.tr=>Tr
 |.er=>Bool
def Ty.rep:(t:Ty)->zv t.D
 |.i=>eI
 |.u=>eU
 |.b=>bQ
 |.l t=>eS t.rep
 |.p s t=>eP s.rep t.rep
 |.a k t=>eA k t.rep
 |.ch=>ZN
 |.tx=>mF
 |.po t=>eO t.rep
 |.w1 t=>eW t.rep
 |.tr=>Jt
 |.er=>Ib
def Ty.z:(t:Ty)->t.D
 |.i=>(0:Int)
 |.u=>(0:Nat)
 |.b=>false
 |.l t=>([]:List t.D)
 |.p s t=>(s.z,t.z)
 |.a k t=>Pv k t.z
 |.ch=>(0:Nat)
 |.tx=>([]:List Nat)
 |.po t=>(none:Option t.D)
 |.w1 t=>t.z
 |.tr=>Tr.nil
 |.er=>false
abbrev DZ:Ty:=.p .ch (.p (.l .u) (.p .ch (.p .i (.p .tr .tr))))
def Ty.n:Ty->Nat
 |.p s t=>s.n+t.n
 |.a k t=>k*t.n
 |.w1 t=>t.n
 |_=>1
theorem Ty.n_rep:∀t:Ty,t.rep.n=t.n
 |.i=>rfl
 |.u=>rfl
 |.b=>rfl
 |.l _=>rfl
 |.ch=>rfl
 |.tx=>rfl
 |.p s t=>by show s.rep.n+t.rep.n=_;rw[Ty.n_rep s,Ty.n_rep t];rfl
 |.a k t=>by show k*t.rep.n=_;rw[Ty.n_rep t];rfl
 |.po _=>rfl
 |.w1 t=>Ty.n_rep t
 |.tr=>rfl
 |.er=>rfl
def Ty.same:(s t:Ty)->Option (PLift<|s=t)
 |.i,.i=>some ⟨rfl⟩
 |.u,.u=>some ⟨rfl⟩
 |.b,.b=>some ⟨rfl⟩
 |.ch,.ch=>some ⟨rfl⟩
 |.tx,.tx=>some ⟨rfl⟩
 |.tr,.tr=>some ⟨rfl⟩
 |.er,.er=>some ⟨rfl⟩
 |.l s,.l t=>match Ty.same s t with
  |some ⟨h⟩=>some ⟨congrArg Ty.l h⟩
  |none=>none
 |.p s t,.p s' t'=>match Ty.same s s',Ty.same t t' with
  |some ⟨h⟩,some ⟨h'⟩=>some ⟨h▸h'▸rfl⟩
  |_,_=>none
 |.a k s,.a k' t=>if hk:k=k' then(match Ty.same s t with
  |some ⟨h⟩=>some ⟨hk▸h▸rfl⟩
  |none=>none)else none
 |.po s,.po t=>match Ty.same s t with
  |some ⟨h⟩=>some ⟨congrArg Ty.po h⟩
  |none=>none
 |.w1 s,.w1 t=>match Ty.same s t with
  |some ⟨h⟩=>some ⟨congrArg Ty.w1 h⟩
  |none=>none
 |_,_=>none
def Ty.cast{R:Type}(s t:Ty)(x:s.D)(k:t.D->Option R):Option R:=match Ty.same s t with
 |some ⟨h⟩=>k<|h▸x
 |none=>none
def Xi:List Ty->Type
 |[]=>Unit
 |t::r=>t.D×Xi r
def Km:List Ty->Type
 |[]=>Unit
 |[t]=>t.D
 |t::s::r=>t.D×Km (s::r)
structure Fl(α:Type)where
 off:Nat
 f:Ty
 get:α->f.D
 set:f.D->α->α
def Fl.self(t:Ty):Fl t.D:=⟨0,t,id,fun y _=>y⟩
def qv{α:Type}(f:Option (Fl α)):Nat:=match f with
 |some f=>f.off
 |none=>0
def vn{α:Type}(s:Ty)(f:Option (Fl α))(xs:List s.D)(z:α):α:=match f with
 |some ⟨_,.l s',_,st⟩=>(match Ty.same s s' with
  |some ⟨h⟩=>st (h▸xs) z
  |none=>z)
 |_=>z
def Fl.comp{α:Type}(a:Fl α)(c:Fl a.f.D):Fl α:=⟨a.off+c.off,c.f,fun z=>c.get<|a.get z,fun y z=>a.set (c.set y<|a.get z) z⟩
def yq:(k:Nat)->(t:Ty)->(i:Nat)->Option (Fl t.D)
 |0,.w1 t,0=>some ⟨0,t,fun z=>z,fun y _=>y⟩
 |0,_,_=>none
 |1,t,i=>bif OW i 0 then some (Fl.self t)else none
 |k+2,.p s t,0=>some ⟨0,s,fun z=>z.1,fun y z=>(y,z.2)⟩
 |k+2,.p s t,i+1=>match yq (k+1) t i with
  |some f=>some ⟨s.n+f.off,f.f,fun z=>f.get z.2,fun y z=>(z.1,f.set y z.2)⟩
  |none=>none
 |_,_,_=>none
structure PD where
 t:Ty
 x:t.D
def lk(PP:Program)(l:Nat){α X Y:Type}(e:zv α)(E:TypeId)(mX:X->Value->MF)(mY:Y->Value->MF)(g:List α->X->Option (List α×(X⊕Y))):Prop:=
 ∀ys x ys' r,g ys x=some (ys',r)->∀(v u:Value) we Se F G w,St we Se (mX x u::mO e E v ys::F) G w->
  YieldAt Rq 0 PP l #[v] w fun q w'=>q=.returned (.bool r.isLeft)/\∃u',St we Se (Sum.elim (fun x=>mX x u') (fun y=>mY y u') r::mO e E v ys'::F) G w'
def Gm:Value->Nat
 |.int _ x=>x.toNat
 |_=>0
inductive Dv
 |d (t:Ty) (x:t.D)
 |q (t:Ty) (x:t.D)
 |kb (b:Bool)
 |un
 |nil
 |ow (o:Nat)
 |ep (o:Nat) (t:Ty) (j:Nat) (f:Fl t.D)
 |sv (o:Nat) (t:Ty) (lo n:Nat)
 |vs (o:Nat) (t:Ty)
 |vp (o:Nat) (t:Ty) (f:Fl t.D)
 |fn (f:FuncId) (c:List PD)
 |fp (dom cod:List Ty) (g:Xi dom->Option (Km cod))
 |pin (v:Value)
 |mw (o:Nat)
 |mv (o lo n:Nat)
 |hp (o j:Nat)
 |rw(o r:Nat)
 |rp (o:Nat) (t:Ty) (r j:Nat) (f:Fl t.D)
 |yd (o:Nat)
 |np
 |vf (o:Nat) (t:Ty) (n i:Nat)
 |bm (f:FuncId) (o:Nat) (t:Ty)
 |dz (t:Ty) (x:t.D) (n i:Nat)
 |ifc (q:PX)
 |ni
inductive Od
 |own (t:Ty) (E:TypeId) (xs:List t.D)
 |var (t:Ty) (E:TypeId) (z:t.D)
 |mat (t:Ty) (E E1:TypeId) (xss:List (List t.D)) (ix:List Nat)
 |bo (t:Ty) (E E0:TypeId) (xs:List t.D)
 |ho (E0:TypeId)
 |vr (t:Ty) (E:TypeId) (s:Ty) (E1:TypeId) (n i:Nat) (z:t.D) (xs:List s.D)
 |vh (t:Ty) (E:TypeId) (s:Ty) (E1:TypeId) (n i:Nat) (z:t.D)
 |hid (t:Ty) (E:TypeId) (X Y:Type) (mX:X->Value->MF) (mY:Y->Value->MF) (g:List t.D->X->Option (List t.D×(X⊕Y))) (x:X)
 |hiy (Y:Type) (mY:Y->Value->MF) (y:Y)
structure Sg where
 nx:Nat
 rg:List (Nat×Nat×Dv)
 ob:List (Nat×Od)
def Y3:List (Nat×Nat×Dv)->Nat->Nat->Option Dv
 |[],_,_=>none
 |(t',i',d)::r,t,i=>bif OW t' t && OW i' i then some d else Y3 r t i
def yE:List (Nat×Od)->Nat->Option Od
 |[],_=>none
 |(o',x)::r,o=>bif OW o' o then some x else yE r o
def get(cx σ:Sg)(t i:Nat):Option Dv:=match Y3 σ.rg t i with
 |some d=>some d
 |none=>Y3 cx.rg t i
def qS(cx σ:Sg)(o:Nat):Option Od:=match yE σ.ob o with
 |some d=>some d
 |none=>yE cx.ob o
def ZG(l:List Nat)(t:Nat):Bool:=l.any<|OW t
def qk(rg:List (Nat×Nat×Dv))(t:Nat):Bool:=rg.all fun e=> !OW e.1 t
def Fj(rg:List (Nat×Nat×Dv))(t:Nat):List (Nat×Nat×Dv):=rg.filter fun e=> !OW e.1 t
def zD:List (Nat×Od)->Nat->List (Nat×Od)
 |[],_=>[]
 |(o',y)::r,o=>bif OW o' o then r else(o',y)::zD r o
def ve:List (Nat×Od)->Nat->Od->List (Nat×Od)
 |[],_,_=>[]
 |(o',y)::r,o,x=>bif OW o' o then(o',x)::r else(o',y)::ve r o x
def xK(rg:List (Nat×Nat×Dv))(d:Option Tmp)(l:List (Nat×Dv)):List (Nat×Nat×Dv):=match d with
 |some t=>l.map (fun e=>(t,e.1,e.2))++Fj rg t
 |none=>rg
def yJ(cx:Sg)(d:Option Tmp):Bool:=match d with
 |some t=>qk cx.rg t
 |none=>true
def Sg.put(σ:Sg)(d:Option Tmp)(l:List (Nat×Dv)):Sg:=⟨σ.nx,xK σ.rg d l,σ.ob⟩
def cv:Value->Option Dv
 |.int .i64 x=>if kV x then some (.d .i x)else none
 |.int .u64 x=>if 0<=x/\x<18446744073709551616 then some (.d .u x.toNat)else none
 |.bool b=>some (.kb b)
 |.int .u8 x=>if 0<=x/\x<256 then some (.d .ch x.toNat)else none
 |.string s=>if s.size<=9223372036854775807 then some (.d .tx<|zL s)else none
 |.slice none 0 0=>some .nil
 |.pointer none=>some .np
 |.nilIface=>some .ni
 |.nilFunc=>some (.pin .nilFunc)
 |_=>none
def yx(cx σ:Sg):Operand->Option Dv
 |.tmp t=>get cx σ t 0
 |.const v=>cv v
 |.func f=>some (.fn f [])
 |.global _=>none
inductive TK
 |int (k:IntKind)
 |bool
 |str
 |sl (E:TypeId)
 |st (k:Nat)
 |ar (k:Nat) (E:TypeId)
 |pt (E:TypeId)
 |ie
structure TI where
 ty:Ty
 k:TK
 B:Nat
inductive AM
 |d (t:Ty)
 |q (t:Ty)
 |own (t:Ty) (E:TypeId)
 |fn (dom cod:List Ty)
 |var (t:Ty) (E:TypeId)
def AM.D:AM->Type
 |.d t=>t.D
 |.q t=>t.D
 |.own t _=>List t.D
 |.var t _=>t.D
 |.fn dom cod=>Xi dom->Option (Km cod)
def uC:List AM->Type
 |[]=>Unit
 |a::r=>a.D×uC r
inductive RM
 |d (t:Ty)
 |own (t:Ty) (E:TypeId)
 |var (t:Ty) (E:TypeId)
def RM.D:RM->Type
 |.d t=>t.D
 |.own t _=>List t.D
 |.var t _=>t.D
def uE:List RM->Type
 |[]=>Unit
 |[a]=>a.D
 |a::b::r=>a.D×uE (b::r)
def RM.ty:RM->Ty
 |.d t=>t
 |.own t _=> .l t
 |.var t _=>t
inductive TF
 |d (t:Ty)
 |q (t:Ty)
 |own (t:Ty) (E:TypeId)
 |var (t:Ty) (E:TypeId)
 |mat (t:Ty) (E E1:TypeId)
 |matv (t:Ty) (E E1:TypeId)
 |row (j:Nat)
 |view (j:Nat)
 |bo (t:Ty) (E E0:TypeId)
 |vr (t:Ty) (E:TypeId) (s:Ty) (E1:TypeId) (n i:Nat)
def TF.D:TF->Type
 |.d t=>t.D
 |.q t=>t.D
 |.own t _=>List t.D
 |.var t _=>t.D
 |.mat t _ _=>List (List t.D)×List Nat
 |.matv t _ _=>(List (List t.D)×List Nat)×(Nat×Nat)
 |.row _=>Nat
 |.view _=>Nat×Nat
 |.bo t _ _=>List t.D
 |.vr t _ s _ _ _=>t.D×List s.D
def Q6:TF->Option Nat
 |.row j=>some j
 |.view j=>some j
 |_=>none
inductive NF
 |kb (b:Bool)
 |nil
 |ci (x:Int)
 |cu (x:Nat)
 |al (s:Nat)
 |bm (s:Nat) (f:FuncId)
structure Sh where
 ds:List (Nat×TF)
 ns:List (Nat×NF)
structure NM where
 ro:List Nat
 tg:List (Tg×Sh)
structure Lp where
 hd:Sh
 sg:NM
structure An where
 bx:List Nat
 jn:List (Nat×NM)
 lp:List (Nat×Lp)
 dz:List (Nat×List Nat)
 vw:List Nat
 mt:List Nat
 vr:List (Nat×Nat×Nat)
def uu{α:Type}:List (Nat×α)->Nat->Option α
 |[],_=>none
 |(k,x)::r,t=>bif OW k t then some x else uu r t
end
end Go.Proofs.YtbaoeefdjpaomaaGreatDoor
