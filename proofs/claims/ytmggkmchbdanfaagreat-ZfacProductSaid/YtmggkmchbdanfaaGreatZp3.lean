/- What a proof needs: rules of walking, mirrors of functions and their plain laws. No condition. -/
import Derived.Test.YtmggkmchbdanfaaGreatZp2
import Derived.RangeFuncLeaves
set_option linter.unusedVariables false
set_option linter.unusedSimpArgs false
namespace Go.Proofs.YtmggkmchbdanfaaGreat
open Bool renaming and_eq_true->xam,false_eq_true->xak,false_or->xee,not_eq_true'->xdm,not_true->xdL,or_eq_true->xdU
open Deferred renaming ofValue->xdH
open Ending renaming returned->xet
open Fence renaming wide->xfP
open List renaming all_eq_true->xaR,any_eq_true->xeI,append_assoc->xal,append_nil->xbN,cons_append->xbP,filterMap_cons->xaP,filterMap_eq_nil_iff->xdS,filter_cons->xdh,getD_eq_getElem?_getD->UV,getElem?_append_left->xbn,getElem?_append_right->xcj,getElem?_cons_zero->xbA,getElem?_eq_getElem->IR,getElem?_eq_some_iff->xat,getElem?_map->xaB,getElem?_take->xbU,length->xaG,length_cons->xav,length_eq_one_iff->xfg,length_eq_zero_iff->xbG,length_map->xaN,length_replicate->xaU,length_set->xcG,length_take->xay,map_append->xaO,map_congr_left->xbO,map_cons->xbR,map_nil->xer,mem_append->Nm,mem_cons->xae,mem_cons_of_mem->H1,mem_cons_self->FS,mem_filter->xbY,mem_filterMap->xfa,mem_map->xai,mem_of_getElem?->xbr,mem_of_mem_drop->xeE,mem_range->xaS,mem_singleton->xah,nil_append->xbF,not_mem_nil->xaa,perm_append_comm_assoc->xdE,perm_middle->xcr,range->xbc,set->xfR,singleton_append->xfr,take_length->xcK,take_of_length_le->xaX
open List.Perm renaming append_left->xca,append_right->xfh,refl->xdB,swap->xeH
open List.cons renaming injEq->xes
open Nat renaming add_sub_cancel_left->xeW,add_zero->xch,beq->xan,ble->xfO,blt->xdl,eq_of_beq_eq_true->xcH,le_add_right->xbL,le_mul_of_pos_right->xcl,le_of_ble_eq_true->xbJ,le_refl->xac,le_succ->xce,le_trans->xao,lt_of_lt_of_le->xap,lt_or_ge->xci,lt_succ_of_lt->xfl,lt_succ_self->xbV,zero_add->xaT,zero_le->xaj,zero_lt_one->xdZ
open Oper renaming looksAt->xbz
open Option renaming isNone_none->xeZ
open Option.some renaming injEq->xaw
open Prod.mk renaming injEq->xcu
open Region renaming binds->xcq
open Sum renaming elim->xfp
open Value renaming bool->xel,cells->xfD
open _root_.Array renaming getD_eq_getD_getElem?->xbl,getElem?_eq_some_iff->xbj,mem_toList_iff->xdf,replicate->xep,toArray_toList->xde
section
section
variable{P:Program}{cf:Cf}{fr:Fr}{cx σ:Sg}{vs vs':Nat->Value}{env:yP}{w:World}{R:Type}{r:R}
 {d:Option Tmp} {ty t yt:TypeId} {pos:String} {aft:Array Edge} {g:Option (Nat×Bool)} {x y:Operand}
theorem SU{a b:Nat}(h:a≠b):xan a b=false:=uD h
theorem QE: ∀{ob:List (Nat×Od)} {o p:Nat},p≠o->xH (yC ob o) p=xH ob p
 |[],_,_,_=>rfl
 |(q,X)::r,o,p,h=>by
  unfold yC;cases hb:xan q o
  ·simp only[cond_false];unfold xH;rw[QE h]
  ·simp only[cond_true];have:=ya hb;subst this;conv=>rhs;unfold xH
   rw[SU (fun e=>h e.symm)];rfl
theorem jJ{ob:List (Nat×Od)}{p:Nat}: ∀{os:List Nat},aN os p=false->xH (w6 ob os) p=xH ob p
 |[],_=>rfl
 |o::r,h=>by
  simp only[aN,List.any_cons,Bool.or_eq_false_iff]at h;unfold w6;rw[QE (fun e=>by subst e;simp at h),jJ h.2]
theorem Qi{ob:List (Nat×Od)}: ∀{os:List Nat},∀e∈w6 ob os,e∈ob
 |[],_,h=>h
 |o::r,e,h=>Qi (os:=r) e (kU e h)
theorem Nf{α:Type _}: ∀{l:List α} {i:Nat} {a:α},l[i]? =some a->l.Perm (a::l.eraseIdx i)
 |[],_,_,h=>by simp at h
 |b::l,0,a,h=>by simp at h;subst h;exact xdB _
 |b::l,i+1,a,h=>((Nf (l:=l) (i:=i) (by simpa using h)).cons b).trans (xeH _ _ _)
theorem kF{ob:List (Nat×Od)}{o:Nat}{X:Od}(h:xH ob o=some X):(OS vs fr cx ob).Perm (VQ vs (o,X)::OS vs fr cx (yC ob o)):=by
 obtain⟨i,h1,_,h3⟩:=wj h;show(MS vs ob++(MS vs cx.ob++fr.F)).Perm (VQ vs (o,X)::(MS vs (yC ob o)++(MS vs cx.ob++fr.F)));rw[h3,<-J1 h1];exact Nf (W4 h1)
theorem Uj(hC: ∀s∈cf.cs,y5 P s): ∀{dom:List AM} {xs:List Operand} {cs:List PD} {k:Kc dom->List Nat->Option R},ZP cf cx σ dom xs cs k=some r->
 ∃z os,k z os=some r/\xs.length+cs.length=dom.length/\(∀o∈os,∃X,(o,X)∈σ.ob)/\ ∀vs (fr:Fr) env S w,(∀x,ZO P vs env S w cx σ x)-> ∀cvs:List Value,cvs.length=cs.length->zA S (AW cs cvs) w->
  zA S (kL P dom z (xs.map (ev env)++cvs)) w/\(OS vs fr cx σ.ob).Perm (YX dom z (xs.map (ev env)++cvs)++OS vs fr cx (w6 σ.ob os))/\Kb dom (xs.map (ev env)++cvs)=os.map vs
 |[],[],[],k,h=>⟨(),[],h,rfl,fun _ ho=>absurd ho xaa,fun _ _ _ _ _ _ _ _ _=>⟨trivial,xdB _,rfl⟩⟩
 | .q t::dom,[],c::cs,k,h=>by
  simp only[ZP]at h;obtain⟨e,h⟩:=ym h;subst e;obtain⟨z,os,h1,h2,ho,h3⟩:=Uj hC h;refine⟨_,os,h1,by simp at h2⊢;omega,ho,fun vs fr env S w hl cvs ha hb=> ?_⟩
  cases cvs with
  |nil=>cases ha
  |cons v cvs=>obtain⟨h4,h5,h6⟩:=h3 vs fr env S w hl cvs (by simpa using ha) hb.2;exact⟨⟨hb.1,h4⟩,h5,h6⟩
 | .d t::dom,x::xs,cs,k,h=>by
  simp only[ZP]at h;obtain⟨y,h,hy⟩:=XO h;obtain⟨z,os,h1,h2,ho,h3⟩:=Uj hC h;exact⟨_,os,h1,by simp at h2⊢;omega,ho,fun vs fr env S w hl cvs ha hb=>by obtain⟨h4,h5,h6⟩:=h3 vs fr env S w hl cvs ha hb;exact⟨⟨hy P vs env S w (hl x),h4⟩,h5,h6⟩⟩
 | .q t::dom,x::xs,cs,k,h=>by
  simp only[ZP]at h;split at h
  ·next s y hx=>
   obtain⟨e,h⟩:=ym h;subst e;obtain⟨z,os,h1,h2,ho,h3⟩:=Uj hC h;exact⟨_,os,h1,by simp at h2⊢;omega,ho,fun vs fr env S w hl cvs ha hb=>by obtain⟨h4,h5,h6⟩:=h3 vs fr env S w hl cvs ha hb;exact⟨⟨zk hx (hl x),h4⟩,h5,h6⟩⟩
  ·cases h
 | .own t E::dom,x::xs,cs,k,h=>by
  simp only[ZP]at h;split at h
  ·next o hx=>
   split at h
   ·next s E' ys hc=>
    obtain⟨hE,h7⟩:=yi h;have hE:=ya hE;subst hE;obtain⟨e,h8⟩:=ym h7;cases e;obtain⟨z,os,h9,h2,ho,h3⟩:=Uj hC h8;obtain⟨hn,h1⟩:=yi h9;simp only[xdm]at hn;refine⟨_,o::os,h1,by simp at h2⊢;omega,fun p hp=> ?_,fun vs fr env S w hl cvs ha hb=> ?_⟩
    ·rcases xae.1 hp with rfl|hp
     ·obtain⟨i,h4,_⟩:=wj hc;exact⟨_,xbr h4⟩
     ·exact ho p hp
    obtain⟨h4,h5,h6⟩:=h3 vs fr env S w hl cvs ha hb;have hv:ev env x=vs o:=zk hx (hl x);refine⟨⟨trivial,h4⟩,h5.trans ?_,?_⟩
    ·have hp:=kF (vs:=vs) (fr:=fr) (cx:=cx) ((jJ hn).trans hc);refine(xca _ hp).trans ?_;refine xcr.trans ?_;show List.Perm _ (mO t.rep E (ev env x) _::(YX dom z (xs.map (ev env)++cvs)++_));rw[hv];exact xdB _
    ·show ev env x::Kb dom (xs.map (ev env)++cvs)=vs o::os.map vs;rw[hv,h6]
   ·cases h
  ·cases h
 | .fn dom' cod::dom,x::xs,cs,k,h=>by
  simp only[ZP]at h;obtain⟨f,h,hf⟩:=Pw hC h;obtain⟨z,os,h1,h2,ho,h3⟩:=Uj hC h;refine⟨_,os,h1,by simp at h2⊢;omega,ho,fun vs fr env S w hl cvs ha hb=> ?_⟩;obtain⟨h4,h5,h6⟩:=h3 vs fr env S w hl cvs ha hb;refine⟨⟨?_,h4⟩,h5,h6⟩
  cases hv:xW cx σ x with
  |none=>rename_i h0;rw[hv]at h0;simp[asF]at h0
  |some v=>exact hf vs S w v _ hv (zk hv (hl x))
 |[],_::_,_,_,h=>by simp[ZP]at h
 |[],[],_::_,_,h=>by simp[ZP]at h
 | .d _::_,[],_,_,h=>by simp[ZP]at h
 | .own _ _::_,[],_,_,h=>by simp[ZP]at h
 | .fn _ _::_,[],_,_,h=>by simp[ZP]at h
 | .q _::_,[],[],_,h=>by simp[ZP]at h
def fE:List RM->List Value->Nat->(Nat->Value)->Nat->Value
 |[],_,_,vs=>vs
 | .d _::r,us,o,vs=>fE r us.tail o vs
 | .own _ _::r,us,o,vs=>YO (fE r us.tail (o+1) vs) o (us.headD undef)
theorem Vy: ∀{rs:List RM} {us:List Value} {o k:Nat},k<o->fE rs us o vs k=vs k
 |[],_,_,_,_=>rfl
 | .d _::r,us,o,k,h=>Vy (rs:=r) h
 | .own _ _::r,us,o,k,h=>by
  show YO _ o _ k=_;rw[uj h,Vy (rs:=r) (by omega)]
theorem HC{n o:Nat}{v:Value}(h:o≠n):YO vs n v o=vs o:=by unfold YO;rw[uD h];rfl
theorem b6: ∀{rs:List RM} {x:bj rs} {i o:Nat},(∀e∈(ZJ rs x i o).2,o<=e.1/\e.1<o+(ZJ rs x i o).2.length)
 |[],_,_,_,e,he=>absurd he xaa
 |[.d _],_,_,_,e,he=>absurd he xaa
 |[.own _ _],_,_,o,e,he=>by
  obtain rfl:=xah.1 he;exact⟨xac _,xbV _⟩
 | .d t::n::r,x,i,o,e,he=>b6 (rs:=n::r) (x:=x.2) (i:=i+1) e he
 | .own t E::n::r,x,i,o,e,he=>by
  have he:e∈(o,Od.own t E x.1)::(ZJ (n::r) x.2 (i+1) (o+1)).2:=he;have ha:(ZJ (.own t E::n::r) x i o).2.length=(ZJ (n::r) x.2 (i+1) (o+1)).2.length+1:=rfl;rw[ha];rcases xae.1 he with rfl|he
  ·exact⟨xac _,by show o<_;omega⟩
  ·have:=b6 (rs:=n::r) (x:=x.2) (i:=i+1) (o:=o+1) e he;omega
theorem mg: ∀{rs:List RM} {x:bj rs} {us:List Value} {i o:Nat},MS (fE rs us o vs) (ZJ rs x i o).2=uY rs x us
 |[],_,_,_,_=>rfl
 |[.d _],_,_,_,_=>rfl
 |[.own t E],x,us,i,o=>by exact congrArg (fun m=>[m]) (Q1 (vs:=vs) (xs:=x))
 | .d t::n::r,x,us,i,o=>by
  show MS (fE (n::r) us.tail o vs) (ZJ (n::r) x.2 (i+1) o).2=uY (n::r) x.2 us.tail;exact mg
 | .own t E::n::r,x,us,i,o=>by
  refine List.cons_eq_cons.2 ⟨Q1 (xs:=x.1),?_⟩;exact(x8 (ob:=(ZJ (n::r) x.2 (i+1) (o+1)).2) (vs:=fE (n::r) us.tail (o+1) vs) fun e he=>HC (by have:=b6 e he;omega)).trans mg
theorem bZ: ∀{rs:List RM} {x:bj rs} {i o:Nat},∀e∈(ZJ rs x i o).1,∀p,wa e.2=some p->p<o+(ZJ rs x i o).2.length
 |[],_,_,_,e,he=>absurd he xaa
 |[.d _],_,_,_,e,he=>by
  obtain rfl:=xah.1 he;intro p hp;cases hp
 |[.own _ _],_,_,o,e,he=>by
  obtain rfl:=xah.1 he;intro p hp;cases hp;exact xbV _
 | .d t::n::r,x,i,o,e,he=>by
  rcases xae.1 he with rfl|he
  ·intro p hp;cases hp
  ·exact bZ (rs:=n::r) (x:=x.2) (i:=i+1) e he
 | .own t E::n::r,x,i,o,e,he=>by
  have ha:(ZJ (.own t E::n::r) x i o).2.length=(ZJ (n::r) x.2 (i+1) (o+1)).2.length+1:=rfl;rw[ha];rcases xae.1 he with rfl|he
  ·intro p hp;cases hp;omega
  ·intro p hp;have:=bZ (rs:=n::r) (x:=x.2) (i:=i+1) (o:=o+1) e he p hp;omega
theorem A1: ∀{rs:List RM} {x:bj rs} {i o:Nat},∀e∈(ZJ rs x i o).1,∀p,wa e.2=some p->o<=p
 |[],_,_,_,e,he=>absurd he xaa
 |[.d _],_,_,_,e,he=>by
  obtain rfl:=xah.1 he;intro p hp;cases hp
 |[.own _ _],_,_,o,e,he=>by
  obtain rfl:=xah.1 he;intro p hp;cases hp;exact xac _
 | .d t::n::r,x,i,o,e,he=>by
  rcases xae.1 he with rfl|he
  ·intro p hp;cases hp
  ·exact A1 (rs:=n::r) (x:=x.2) (i:=i+1) e he
 | .own t E::n::r,x,i,o,e,he=>by
  rcases xae.1 he with rfl|he
  ·intro p hp;cases hp;exact xac _
  ·intro p hp;have:=A1 (rs:=n::r) (x:=x.2) (i:=i+1) (o:=o+1) e he p hp;omega
theorem BY: ∀{rs:List RM} {x:bj rs} {us:List Value} {i o:Nat} {S:Nat->Prop},zA S (uI rs x us) w->us.length=rs.length-> ∀e∈(ZJ rs x i o).1,∃j u,e.1=i+j/\us[j]? =some u/\(vg P (fE rs us o vs) e.2 u).p S w
 |[],_,_,_,_,_,_,_,e,he=>absurd he xaa
 |[m],_,[],_,_,_,_,hl,_,_=>by cases hl
 |[.d _],x,u::us,i,o,S,h,hl,e,he=>by
  obtain rfl:=xah.1 he;exact⟨0,u,rfl,rfl,h.1⟩
 |[.own _ _],x,u::us,i,o,S,h,hl,e,he=>by
  obtain rfl:=xah.1 he;exact⟨0,u,rfl,rfl,(vr (vs:=vs)).symm⟩
 |_::n::r,x,[],_,_,_,_,hl,_,_=>by cases hl
 | .d t::n::r,x,u::us,i,o,S,h,hl,e,he=>by
  rcases xae.1 he with rfl|he
  ·exact⟨0,u,rfl,rfl,h.1⟩
  ·obtain⟨j,v,h1,h2,h3⟩:=BY (rs:=n::r) (x:=x.2) (i:=i+1) (o:=o) h.2 (by simpa using hl) e he;exact⟨j+1,v,by omega,by simpa using h2,h3⟩
 | .own t E::n::r,x,u::us,i,o,S,h,hl,e,he=>by
  rcases xae.1 he with rfl|he
  ·exact⟨0,u,rfl,rfl,(vr (vs:=fE (n::r) us (o+1) vs)).symm⟩
  ·obtain⟨j,v,h1,h2,h3⟩:=BY (rs:=n::r) (x:=x.2) (i:=i+1) (o:=o+1) h (by simpa using hl) e he;refine⟨j+1,v,by omega,by simpa using h2,?_⟩;have:vg P (fE (.own t E::n::r) (u::us) o vs) e.2 v=vg P (fE (n::r) us (o+1) vs) e.2 v:=cG (fun p hp=>HC (by have:=A1 (rs:=n::r) (x:=x.2) (i:=i+1) (o:=o+1) e he p hp;omega)) v;rw[this];exact h3
theorem Sd{f:FuncId}{ags:List Operand}: ∀{cs:List Vb} {s:Vb},Ih cx σ f ags cs=some s->s∈cs/\s.f=f
 |c::cs,s,h=>by
  unfold Ih at h;split at h
  ·next hb=>
   simp only[xaw]at h;subst h;rw[xam]at hb;exact⟨FS,ya hb.1⟩
  ·obtain⟨h1,h2⟩:=Sd h;exact⟨H1 _ h1,h2⟩
theorem NP{rs:List RM}{x:bj rs}{us:List Value}{o:Nat}{S:Nat->Prop}(h:zA S (uI rs x us) w)(hl:us.length=rs.length): ∀e∈(ZJ rs x (bif QT rs then 0 else 1) o).1,(xG P (fE rs us o vs) e.2 (ZR us) e.1).p S w:=by
 intro e he;obtain⟨j,u,h1,h2,h3⟩:=BY (P:=P) (vs:=vs) h hl e he;obtain⟨i,dv⟩:=e
 match us,hl,h2 with
 |[],_,h2=>simp at h2
 |[v],hl,h2=>
  obtain rfl:j=0:=by
   rcases j with _|j
   ·rfl
   ·simp at h2
  obtain⟨m,rfl⟩:=xfg.1 hl.symm;simp only[QT,cond_true]at h1;simp only[xbA,xaw]at h2;subst h1;subst h2;exact h3
 |v::v'::us,hl,h2=>
  have:QT rs=false:=by
   match rs,hl with
   |[],_=>rfl
   |_::_::_,_=>rfl
  rw[this]at h1;simp only[cond_false]at h1;obtain rfl:i=j+1:=by omega
  exact⟨(v::v'::us).toArray,u,rfl,by simpa using h2,h3⟩
def tK:List RM->List Value->List Value
 |[],_=>[]
 | .d _::r,us=>tK r us.tail
 | .own _ _::r,us=>us.headD undef::tK r us.tail
theorem eW: ∀{rs:List RM} {x:bj rs} {us:List Value} {i o:Nat},(ZJ rs x i o).2.map (fun e=>fE rs us o vs e.1)=tK rs us
 |[],_,_,_,_=>rfl
 |[.d _],x,us,i,o=>rfl
 |[.own t E],x,us,i,o=>by
  show[YO vs o (us.headD undef) o]=[us.headD undef];rw[vr]
 | .d t::n::r,x,us,i,o=>eW (rs:=n::r) (x:=x.2) (us:=us.tail) (i:=i+1) (o:=o)
 | .own t E::n::r,x,us,i,o=>by
  show YO (fE (n::r) us.tail (o+1) vs) o (us.headD undef) o::(ZJ (n::r) x.2 (i+1) (o+1)).2.map (fun e=>fE (.own t E::n::r) us o vs e.1)=us.headD undef::tK (n::r) us.tail;rw[vr,<-eW (rs:=n::r) (x:=x.2) (us:=us.tail) (i:=i+1) (o:=o+1)];congr 1;refine xbO fun e he=> ?_;exact HC (by have:=b6 e he;omega)
theorem CV: ∀{m:Nat} {rs:List RM} {us:List Value},lS m rs=true->us.length=rs.length->tK rs us=us.drop m
 |0,[],us,_,hl=>by
  obtain rfl:=xbG.1 hl;rfl
 |0,.own _ _::r,[],_,hl=>by cases hl
 |0,.own _ _::r,u::us,h,hl=>by
  show u::tK r us=u::us;rw[CV (m:=0) (rs:=r) (us:=us) h (by simpa using hl)];rfl
 |m+1,.d _::r,[],_,hl=>by cases hl
 |m+1,.d _::r,u::us,h,hl=>CV (m:=m) (rs:=r) (us:=us) h (by simpa using hl)
 |0,.d _::_,_,h,_=>by cases h
 |_+1,[],_,h,_=>by cases h
 |_+1,.own _ _::_,_,h,_=>by cases h
theorem ML{vs':Nat->Value}: ∀{os:List Nat} {ob:List (Nat×Od)},os.map vs'=ob.map (fun e=>vs' e.1)->MS vs' (ph os ob)=MS vs' ob
 |[],[],_=>rfl
 |[],_::_,h=>by cases h
 |_::_,[],h=>by cases h
 |o::os,(p,X)::ob,h=>by
  simp only[xbR,xes]at h;show VQ vs' (o,X)::MS vs' (ph os ob)=VQ vs' (p,X)::MS vs' ob;rw[ML h.2];congr 1;cases X<;>simp only[VQ]<;>rw[h.1]
theorem Eo: ∀{os:List Nat} {ob:List (Nat×Od)},∀e∈ph os ob,e.1∈os
 |[],_,e,he=>absurd he (by simp[ph])
 |_::_,[],e,he=>absurd he (by simp[ph])
 |o::os,p::ob,e,he=>by
  rcases xae.1 (show e∈(o,p.2)::ph os ob from he)with rfl|he
  ·exact FS
  ·exact H1 _ (Eo e he)
theorem Hz{rs:List RM}{x:bj rs}{us:List Value}{o m:Nat}{S:Nat->Prop}(h:zA S (uI rs x us) w)(hl:us.length=rs.length)(hm:m<=us.length): ∀e∈(ZJ rs x (ia m) o).1.filter (fun e=>xdl e.1 (ia m+m)),(xG P (fE rs us o vs) e.2 (ZR (us.take m)) e.1).p S w:=by
 intro e he;obtain⟨he,hb⟩:=xbY.1 he;have hb:e.1<ia m+m:=Nat.blt_eq.mp hb;obtain⟨j,u,h1,h2,h3⟩:=BY (P:=P) (vs:=vs) h hl e he;obtain⟨i,dv⟩:=e;simp only at h1 hb;have hj:j<m:=by omega
 have h4:(us.take m)[j]? =some u:=by rw[xbU,iq hj];exact h2
 have h5:(us.take m).length=m:=by rw[xay];omega
 generalize us.take m=vs' at*
 match vs',h5,h4 with
 |[],h5,h4=>simp at h4
 |[v],h5,h4=>
  obtain rfl:m=1:=h5.symm;obtain rfl:j=0:=by omega
  simp only[xbA,xaw]at h4;obtain rfl:i=0:=h1;subst h4;exact h3
 |v::v'::us',h5,h4=>
  have:ia m=1:=by
   unfold ia;rw[SU (by simp at h5;omega)];rfl
  rw[this]at h1;obtain rfl:i=j+1:=by omega
  exact⟨(v::v'::us').toArray,u,rfl,by simpa using h4,h3⟩
theorem zf9(hC: ∀s∈cf.cs,y5 P s){f:Operand}{f':FuncId}{cs:List PD}{s:Vb}{ags:Array Operand}{ts:Array TypeId}{k:Sg->Option R}(hd:wo cx d=true)(hf:xW cx σ f=some (.fn f' cs))
 (hs:Ih cx σ f' ags.toList cf.cs=some s) (h:O6 cf cx σ d s ags.toList cs k=some r):lF P cx ⟨d,.call ⟨.value f,ags,ts⟩,ty,pos,aft,g⟩ σ k r:=by
 obtain⟨h1,h2⟩:=Sd hs;have hp:=hC s h1;unfold O6 at h;obtain⟨z,os,h,hu,hE,hz⟩:=Uj hC h;obtain⟨q,hq,h⟩:=py h;split at h
 ·next hw=>
   refine⟨_,h,xbL _ _,fun fr vs env w hR=> ?_⟩
   obtain⟨hB,hk⟩:=hR
   obtain⟨S0,_,hΓ⟩:=hk.ex
   obtain⟨cvs,hv,hi,_⟩:=zk hf (zW hΓ f)
   have hj:=hp.plain hw hq (vs:=ags.toList.map (ev env)++cvs) (by simp at hu⊢;omega)
   have hl:(execOp (ev env) ⟨d,.call ⟨.value f,ags,ts⟩,ty,pos,aft,g⟩).run P w= .ok (.enter f' (ags.toList.map (ev env)++cvs).toArray) w:=by simp[execOp,resolve,hv,xdH,invoke,kJ (h2▸hp.1)]
   have hm:St fr.we fr.Se (YX s.dom z (ags.toList.map (ev env)++cvs)++OS vs fr cx (w6 σ.ob os)) (kL P s.dom z (ags.toList.map (ev env)++cvs)++GS P vs env fr cx σ) w:=by
    refine St.perm (St.weak hk fun S w ha=>zA.append ?_ ha) (hz vs fr env S0 w (zW hΓ) cvs hi ?_).2.1
    ·obtain⟨cvs',hb,hg,hc⟩:=zk hf (zW ha f);rw[hv]at hb;have:cvs=cvs':=by simpa using hb
     subst this;exact(hz vs fr env S w (zW ha) cvs hi hc).1
    ·obtain⟨cvs',hb,hg,hc⟩:=zk hf (zW hΓ f);rw[hv]at hb;have:cvs=cvs':=by simpa using hb
     subst this;exact hc
   unfold kh
   rw[hl]
   rw[h2]at hj
   refine(hj fr.we fr.Se _ _ w hm).mono ?_
   rintro e w' ⟨us,he,hr,hx⟩
   refine⟨ZR us,he,?_⟩
   refine Qb (vs:=vs) (vs':=fE s.cod us σ.nx vs) (l:=(ZJ s.cod q (bif QT s.cod then 0 else 1) σ.nx).1) (Γl:=uI s.cod q us) hB hd rfl (xbL _ _) (fun o ho=>Vy ho) bZ ?_ (fun S w ha=>NP ha hr) ?_
   ·intro e he
    rcases Nm.1 he with he|he
    ·exact(b6 e he).2
    ·exact xap (hB.o1 e (Qi e he)) (xbL _ _)
   ·have e1:OS (fE s.cod us σ.nx vs) fr cx ((ZJ s.cod q (bif QT s.cod then 0 else 1) σ.nx).2++w6 σ.ob os)=uY s.cod q us++OS vs fr cx (w6 σ.ob os):=by
     show MS _ (_++_)++(MS _ cx.ob++_)=_;have a1:MS (fE s.cod us σ.nx vs) (w6 σ.ob os)=MS vs (w6 σ.ob os):=x8 fun e he=>Vy (hB.o1 e (Qi e he));have a2:MS (fE s.cod us σ.nx vs) cx.ob=MS vs cx.ob:=x8 fun e he=>Vy (hB.o2 e he);rw[a2,show MS (fE s.cod us σ.nx vs) ((ZJ s.cod q (bif QT s.cod then 0 else 1) σ.nx).2++w6 σ.ob os)=MS _ _++MS _ _ from xaO,a1,mg,xal]
    rw[e1]
    exact hx
 ·next b hw=>
   obtain⟨ht,h⟩:=yi h
   refine⟨_,h,xbL _ _,fun fr vs env w hR=> ?_⟩
   obtain⟨hB,hk⟩:=hR
   obtain⟨S0,_,hΓ⟩:=hk.ex
   obtain⟨cvs,hv,hi,_⟩:=zk hf (zW hΓ f)
   have hj:=hp.2 z q hq (ags.toList.map (ev env)++cvs) (by simp at hu⊢;omega)
   rw[hw]at hj
   have hl:(execOp (ev env) ⟨d,.call ⟨.value f,ags,ts⟩,ty,pos,aft,g⟩).run P w= .ok (.enter f' (ags.toList.map (ev env)++cvs).toArray) w:=by simp[execOp,resolve,hv,xdH,invoke,kJ (h2▸hp.1)]
   have hA:Kb s.dom (ags.toList.map (ev env)++cvs)=os.map vs:=by
    obtain⟨cvs',hb,hg,hc⟩:=zk hf (zW hΓ f);rw[hv]at hb;have:cvs=cvs':=by simpa using hb
    subst this;exact(hz vs fr env S0 w (zW hΓ) cvs hi hc).2.2
   have hm:St fr.we fr.Se (YX s.dom z (ags.toList.map (ev env)++cvs)++OS vs fr cx (w6 σ.ob os)) (kL P s.dom z (ags.toList.map (ev env)++cvs)++GS P vs env fr cx σ) w:=by
    refine St.perm (St.weak hk fun S w ha=>zA.append ?_ ha) (hz vs fr env S0 w (zW hΓ) cvs hi ?_).2.1
    ·obtain⟨cvs',hb,hg,hc⟩:=zk hf (zW ha f);rw[hv]at hb;have:cvs=cvs':=by simpa using hb
     subst this;exact(hz vs fr env S w (zW ha) cvs hi hc).1
    ·obtain⟨cvs',hb,hg,hc⟩:=zk hf (zW hΓ f);rw[hv]at hb;have:cvs=cvs':=by simpa using hb
     subst this;exact hc
   unfold kh
   rw[hl]
   rw[h2]at hj
   refine(hj fr.we fr.Se _ _ w hm).mono ?_
   rintro e w' ⟨us,he,⟨hr,hy⟩,hx⟩
   refine⟨ZR (us.take (s.cod.length-(b+1))),he,?_⟩
   have hn: ∀o,o<σ.nx->fE s.cod us σ.nx vs o=vs o:=fun o ho=>Vy ho
   have hD: ∀o∈os,o<σ.nx:=fun o ho=>by
    obtain⟨X,hX⟩:=hE o ho;exact hB.o1 _ hX
   have hF:MS (fE s.cod us σ.nx vs) (ph os (ZJ s.cod q (ia (s.cod.length-(b+1))) σ.nx).2)=uY s.cod q us:=by
    rw[ML,mg];rw[eW,CV ht hr,hy,hA];exact xbO fun o ho=>hn o (hD o ho)
   refine Qb (vs:=vs) (vs':=fE s.cod us σ.nx vs) (l:=(ZJ s.cod q (ia (s.cod.length-(b+1))) σ.nx).1.filter fun e=>xdl e.1 (ia (s.cod.length-(b+1))+(s.cod.length-(b+1)))) (Γl:=uI s.cod q us) hB hd rfl (xbL _ _) hn (fun e he=>bZ e (xbY.1 he).1) ?_ (fun S w ha=>Hz ha hr (by omega)) ?_
   ·intro e he
    rcases Nm.1 he with he|he
    ·exact xap (hD _ (Eo e he)) (xbL _ _)
    ·exact xap (hB.o1 e (Qi e he)) (xbL _ _)
   ·have e1:OS (fE s.cod us σ.nx vs) fr cx (ph os (ZJ s.cod q (ia (s.cod.length-(b+1))) σ.nx).2++w6 σ.ob os)=uY s.cod q us++OS vs fr cx (w6 σ.ob os):=by
     show MS _ (_++_)++(MS _ cx.ob++_)=_;have a1:MS (fE s.cod us σ.nx vs) (w6 σ.ob os)=MS vs (w6 σ.ob os):=x8 fun e he=>Vy (hB.o1 e (Qi e he));have a2:MS (fE s.cod us σ.nx vs) cx.ob=MS vs cx.ob:=x8 fun e he=>Vy (hB.o2 e he);rw[a2,show MS (fE s.cod us σ.nx vs) (ph os (ZJ s.cod q (ia (s.cod.length-(b+1))) σ.nx).2++w6 σ.ob os)=MS _ _++MS _ _ from xaO,a1,hF,xal]
    rw[e1]
    exact hx
end
end
section
theorem St.pr{we:World}{Se:Nat->Prop}{ms:List MF}{Γ:List FF}{w:World}{p:Prop}(hp:p)(h:St we Se ms Γ w):St we Se (mPr p::ms) Γ w:=by
 obtain⟨h1,h2,h3,S,h4,h5,h6,h7,h8⟩:=h;refine⟨h1,h2,⟨fun k hk=>hk.elim,h3⟩,S,h4,h5,fun m hm k hk=> ?_,⟨hp,h7⟩,h8⟩;rcases xae.1 hm with rfl|hm
 ·exact hk.elim
 ·exact h6 m hm k hk
theorem St.unpr{we:World}{Se:Nat->Prop}{ms:List MF}{Γ:List FF}{w:World}{p:Prop}(h:St we Se (mPr p::ms) Γ w):p/\St we Se ms Γ w:=
 ⟨xO h (i:=0) rfl fun S hp=>hp,St.drop (i:=0) h⟩
section
variable{P:Program}{cf:Cf}{fr:Fr}{cx σ:Sg}{vs vs':Nat->Value}{env:yP}{w:World}{R:Type}{r:R}
 {d:Option Tmp} {ty t yt:TypeId} {pos:String} {aft:Array Edge} {g:Option (Nat×Bool)} {x y:Operand}
theorem Ql{d d':Dv}{v:Value}{i:Nat}{S:Nat->Prop}(h:(xG P vs d v i).p S w)(hm: ∀u,(vg P vs d u).p S w->(vg P vs d' u).p S w):(xG P vs d' v i).p S w:=by
 cases i with
 |zero=>exact hm _ h
 |succ i=>obtain⟨us,u,h1,h2,h3⟩:=h;exact⟨us,u,h1,h2,hm _ h3⟩
theorem Ka{v u:Value}{mk:Nat->Dv}{X:Od}{ob:List (Nat×Od)}(hB:Bd cx σ)(hd:wo cx d=true)(ha: ∀e∈ob,e.1<σ.nx)(hb: ∀o,wa (mk o)=some o)(hc: ∀S w,(vg P (YO vs σ.nx u) (mk σ.nx) v).p S w)
 (hf:St fr.we fr.Se (VQ (YO vs σ.nx u) (σ.nx,X)::OS vs fr cx ob) (GS P vs env fr cx σ) w):aY P fr cx σ.nx vs ⟨σ.nx+1,va σ.rg d [(0,mk σ.nx)],(σ.nx,X)::ob⟩ (put env d v) w:=by
 refine Qb (σ':=⟨σ.nx+1,va σ.rg d [(0,mk σ.nx)],(σ.nx,X)::ob⟩) (vs:=vs) (vs':=YO vs σ.nx u) (Γl:=[]) hB hd rfl (xce _) (fun o ho=>uj ho) ?_ ?_ ?_ ?_
 ·intro e he o ho;obtain rfl:=xah.1 he;rw[hb]at ho;cases ho;exact xbV _
 ·intro e he;rcases xae.1 he with rfl|he
  ·exact xbV _
  ·exact xfl (ha e he)
 ·intro S w _ e he;obtain rfl:=xah.1 he;exact hc S w
 ·show St _ _ (VQ (YO vs σ.nx u) (σ.nx,X)::OS (YO vs σ.nx u) fr cx ob) _ _;rw[Cb hB ha];exact hf
theorem Qn: ∀{ob:List (Nat×Od)} {o:Nat} {X Y:Od},xH ob o=some X->xH (kE ob o Y) o=some Y/\yC (kE ob o Y) o=yC ob o
 |(o',X')::r,o,X,Y,h=>by
  unfold xH at h;unfold kE;cases hb:xan o' o<;>rw[hb]at h
  ·obtain⟨h1,h2⟩:=Qn (ob:=r) (Y:=Y) h;constructor
   ·simp only[cond_false];unfold xH;rw[hb];exact h1
   ·simp only[cond_false];unfold yC;rw[hb];simp only[cond_false,h2]
  ·constructor
   ·simp only[cond_true];unfold xH;rw[hb];rfl
   ·simp only[cond_true];unfold yC;rw[hb];rfl
theorem Zh{o:Nat}{X:Od}{Γ:List FF}(ho:xH σ.ob o=some X)(h:St fr.we fr.Se (OS vs fr cx σ.ob) Γ w):St fr.we fr.Se (VQ vs (o,X)::OS vs fr cx (yC σ.ob o)) Γ w:=h.perm (kF ho)
theorem MH{ob:List (Nat×Od)}{o:Nat}{X Y:Od}{Γ:List FF}(ho:xH ob o=some X)(h:St fr.we fr.Se (VQ vs (o,Y)::OS vs fr cx (yC ob o)) Γ w):St fr.we fr.Se (OS vs fr cx (kE ob o Y)) Γ w:=by
 obtain⟨h1,h2⟩:=Qn (Y:=Y) ho;have:=kF (vs:=vs) (fr:=fr) (cx:=cx) h1;rw[h2]at this;exact h.perm this.symm
theorem bW{o o2:Nat}{X Y:Od}{Γ:List FF}(ha:xan o o2=false)(ho:xH σ.ob o=some X)(hb:xH σ.ob o2=some Y)(h:St fr.we fr.Se (OS vs fr cx σ.ob) Γ w):
 St fr.we fr.Se (VQ vs (o,X)::VQ vs (o2,Y)::OS vs fr cx (yC (yC σ.ob o) o2)) Γ w:=by
 have h1:xH (yC σ.ob o) o2=some Y:=by rw[QE (fun e=>by subst e;simp at ha)];exact hb
 exact(h.perm (kF ho)).perm ((kF (vs:=vs) (fr:=fr) (cx:=cx) h1).cons _)
theorem moU{o:Nat}{u:Value}{X:Od}:VQ (YO vs o u) (o,X)=VQ (fun _=>u) (0,X):=by
 cases X<;>simp only[VQ,vr]
theorem zhB{S:Nat->Prop}{w:World}:(u4 [.slice none 0 0]).p S 0 (xfD (.slice none 0 0)).toList w:=⟨_,rfl,rfl,rfl⟩
theorem zcR(hT:zT P cf.tt){k:Sg->Option R}(hd:wo cx d=true)(h:Lb cf cx σ d t x y k=some r):lF P cx ⟨d,.makeSlice t x y,ty,pos,aft,g⟩ σ k r:=by
 unfold Lb at h;split at h
 ·next s E B ht=>
  obtain⟨hi,h⟩:=yi h;split at h
  ·next s' E1 B1 n he hn=>
   obtain⟨j,hj,h⟩:=MU h;obtain⟨hb,h⟩:=kv h;obtain⟨xs,hf,h⟩:=xp h;have hk:=Hq hT he rfl;refine⟨_,h,xce _,fun fr vs env w hR=> ?_⟩;obtain⟨hB,hg⟩:=hR;obtain⟨S0,_,hΓ⟩:=hg.ex;have hx:ev env x= .int .i64 (j:Int):=by rw[(xV hn (zW hΓ x)).1,hj]
   have ha:=(hT _ _ he).2.1;refine(GA (e:=u4 [.slice none 0 0]) (z:=0) (xs:=xs) (n:=j) (ve hT ht) hk hx ((LZ hi).symm.trans hx) ha hb (fun _ _=>zhB) hf w hg).mono ?_;rintro v w' ⟨b,rfl,_,hs⟩;have hc:xs.length=j:=by rw[hf];exact xaU
   have h1:=hs.closeF 0 rfl (by rw[hc];exact xac _) (Tv ha hb);rw[hc]at h1;refine Ka (vs:=vs) (mk:= .mw) (u:=KH (.slice (some ⟨b,0,none⟩) j j) [.slice none 0 0]) hB hd hB.o1 (fun _=>rfl) (fun S w=>by simp only[vg,vr];rfl) ?_;rw[moU];refine St.grp.2 (St.pr (p:=([.slice none 0 0]:List Value).length=([[]]:List (List s.D)).length) rfl ?_);have h2:=St.nilO (e:=s.rep) (E:=E1) h1;exact h2.perm (xeH ..)
  ·cases h
 ·cases h
theorem zfM{ao:Option Addr}{n c:Nat}:(Value.slice ao n c).oneCell'=true/\(Value.slice ao n c).cells= #[.slice ao n c]:=⟨rfl,rfl⟩
theorem AR{α:Type}{e:zX α}{E:TypeId}{v:Value}{xs:List α}{S:Nat->Prop}(h:(mO e E v xs).p S w):v.oneCell'=true/\v.cells= #[v]:=by
 rcases J6 h with⟨rfl,_⟩|⟨b,cap,rfl,_⟩<;>exact zfM
theorem ze9(hT:zT P cf.tt)(hL:jE P cf.tt){n:Nat}{ps:Array (Nat×Operand)}{k:Sg->Option R}(hd:wo cx d=true)(h:Ri cf cx σ d t n ps.toList k=some r):lF P cx ⟨d,.buildSlice t n ps,ty,pos,aft,g⟩ σ k r:=by
 unfold Ri at h;split at h
 ·next s E B x ht hf=>
  obtain⟨hn,h⟩:=yi h;have hn:=ya hn;subst hn;split at h
  ·next o2 hg=>
   split at h
   ·next s2 E1 ys hc=>
    obtain⟨hi,h⟩:=ym h;cases hi;obtain⟨bytes,zero,hj⟩:=VH hT hL ht;refine⟨_,h,xce _,fun fr vs env w hR=> ?_⟩;obtain⟨hB,hb⟩:=hR;obtain⟨S0,_,hΓ⟩:=hb.ex;have hk:ev env x=vs o2:=zk hg (zW hΓ x);obtain⟨q1,q2⟩:=xO (Zh hc hb) (i:=0) (m:=mO s.rep E1 (vs o2) ys) rfl fun S hp=>AR hp;have hl:v7 [(0,vs o2)]=[vs o2]:=by rw[zdY,q2]
    refine(P6 (e:=u4 [vs o2]) (zs:=[0]) (len:=1) (xX:=ps.toList) (vs:=[(0,vs o2)]) (ve hT ht) hj (xdZ) rfl (by show 1*1<=_;omega) (by rw[hf];simp[hk]) (fun S w ha=>⟨by rw[q2];rfl,trivial⟩) (fun S w ha=> ?_) w (Zh hc hb)).mono ?_
    ·rw[hl];exact⟨[vs o2],[],rfl,⟨_,rfl,q1,rfl⟩,rfl⟩
    rintro v w' ⟨v',rfl,_,hs⟩;refine Ka (vs:=vs) (mk:= .mw) (u:=KH v [vs o2]) hB hd (fun e he=>hB.o1 e (kU e he)) (fun _=>rfl) (fun S w=>by simp only[vg,vr];rfl) ?_;rw[moU];exact St.grp.2 (St.pr (p:=([vs o2]:List Value).length=([ys]:List (List s.D)).length) rfl hs)
   ·cases h
  ·cases h
 ·cases h
theorem O7(hT:zT P cf.tt){E0:TypeId}{k:Sg->Option R}(hd:wo cx d=true)(h:Cz cf σ d E0 k=some r):lF P cx ⟨d,.alloc E0,ty,pos,aft,g⟩ σ k r:=by
 unfold Cz at h;split at h
 ·next s E B ht=>
  have ha:=Hq hT ht rfl;refine⟨_,h,xce _,fun fr vs env w hR=> ?_⟩;obtain⟨hB,hb⟩:=hR;refine(tZ (e:=(u4 [.slice none 0 0]).c) (z:=0) ha (fun S w=>zhB (S:=S) (w:=w)) w hb).mono ?_;rintro v w' ⟨b,rfl,_,hs⟩;refine Ka (vs:=vs) (mk:= .mw) (u:=KH (.pointer (some ⟨b,0,none⟩)) [.slice none 0 0]) hB hd hB.o1 (fun _=>rfl) (fun S w=>by simp only[vg,vr];rfl) ?_;rw[moU];refine St.grp.2 (St.pr (p:=([.slice none 0 0]:List Value).length=1) rfl ?_);exact(St.nilO (e:=s.rep) (E:=E) (hs.toP 0 rfl)).perm (xeH ..)
 ·cases h
theorem zac{hv:List Value}(h:hv.length=1):hv=[hv.headD undef]:=by
 match hv,h with
 |[a],_=>rfl
theorem zbt(hT:zT P cf.tt){o:Nat}{k:Sg->Option R}(hd:wo cx d=true)(hf:xW cx σ x=some (.mw o))(h:Lq cf σ d t o k=some r):lF P cx ⟨d,.load t x,ty,pos,aft,g⟩ σ k r:=by
 unfold Lq at h;split at h
 ·next q E' B s E E0 xs ht ho=>
  obtain⟨zero,hg,_⟩:=WY hT ht;refine⟨_,h,xce _,fun fr vs env w hR=> ?_⟩;obtain⟨hB,hc⟩:=hR;obtain⟨S0,_,hΓ⟩:=hc.ex;have hi:ev env x=yY (vs o):=zk hf (zW hΓ x);obtain⟨ha,h1⟩:=St.unpr (St.grp.1 (Zh ho hc));obtain⟨b,hb,h2⟩:=h1.openP 0 rfl;refine(Rk (Qq (e:=(u4 (vb (vs o))).c) (f:=u4 (vb (vs o))) (z':=0) (up:=id) 0 rfl (hi.trans hb) (Sub.self (u4 (vb (vs o))) 0) hg) w h2).mono ?_;rintro u w' ⟨_,rfl,_,hs⟩;obtain⟨S1,_,hj⟩:=hs.ex;have hu:=zdq hj.1;have hk:=zac ha;have hl:u=(vb (vs o)).headD undef:=by
   rw[hk]at hu;simpa using hu.symm
  have h3:=(hs.weak (Δ:=GS P vs env fr cx σ) fun S w h=>h.2).toP 0 rfl;rw[<-hb]at h3;refine Ka (vs:=vs) (mk:= .ow) (u:=u) hB hd (fun e he=> ?_) (fun _=>rfl) (fun S w=>Q0 S w) ?_
  ·obtain⟨e',g1,g2⟩:=Ki ho e he;rw[<-g2];exact hB.o1 e' g1
  ·rw[Q1,hl];have h4:St fr.we fr.Se (mO s.rep E ((vb (vs o)).headD undef) xs::(VQ vs (o,.ho E0)::OS vs fr cx (yC σ.ob o))) (GS P vs env fr cx σ) w':=by
    have h5:St fr.we fr.Se (mP (u4 (vb (vs o))).c E0 (yY (vs o)) 0::mO s.rep E ((vb (vs o)).headD undef) xs::OS vs fr cx (yC σ.ob o)) (GS P vs env fr cx σ) w':=h3;have h6:=St.pr (p:=(vb (vs o)).length=1) ha h5;have h7:St fr.we fr.Se ([mPr ((vb (vs o)).length=1),mP (u4 (vb (vs o))).c E0 (yY (vs o)) 0]++mO s.rep E ((vb (vs o)).headD undef) xs::OS vs fr cx (yC σ.ob o)) (GS P vs env fr cx σ) w':=h6;exact(St.grp.2 h7).perm (xeH ..)
   have hp:=kF (vs:=vs) (fr:=fr) (cx:=cx) (Qn (Y:= .ho E0) ho).1;rw[(Qn (Y:= .ho E0) ho).2]at hp;exact h4.perm (hp.symm.cons _)
 ·cases h
structure TU(a b:Value):Prop where
 out:yY b=yY a
 hv: ∀(r:Nat) (v:Value),(vb a)[r]? =some v->(vb b)[r]? =some v
theorem zal{o n:Nat}(hr:TU (vs o) (vs n)){dv:Dv}{v:Value}{S:Nat->Prop}(h:(vg P vs dv v).p S w):(vg P vs (zbk o n dv) v).p S w:=by
 cases dv with
 |mw p=>
  show(vg P vs (bif xan p o then .mw n else .mw p) v).p S w;cases hb:xan p o
  ·exact h
  ·obtain rfl:=ya hb;exact(show v=yY (vs p)from h).trans hr.out.symm
 |mv p l m=>
  show(vg P vs (bif xan p o then .mv n l m else .mv p l m) v).p S w;cases hb:xan p o
  ·exact h
  ·obtain rfl:=ya hb;simp only[vg,cond_true]at h⊢;rw[hr.out];exact h
 |hp p j=>
  show(vg P vs (bif xan p o then .hp n j else .hp p j) v).p S w;cases hb:xan p o
  ·exact h
  ·obtain rfl:=ya hb;simp only[vg,cond_true]at h⊢;rw[hr.out];exact h
 |rw p r=>
  show(vg P vs (bif xan p o then .rw n r else .rw p r) v).p S w;cases hb:xan p o
  ·exact h
  ·obtain rfl:=ya hb;exact hr.hv _ _ h
 |rp p t r j f=>
  show(vg P vs (bif xan p o then .rp n t r j f else .rp p t r j f) v).p S w;cases hb:xan p o
  ·exact h
  ·obtain rfl:=ya hb;obtain⟨h1,b,m,cap,h2,h3,h4⟩:=h;exact⟨h1,b,m,cap,hr.hv _ _ h2,h3,h4⟩
 |_=>exact h
theorem SY{o n p:Nat}{v:Dv}(h:wa (zbk o n v)=some p):wa v=some p\/p=n:=by
 cases v with
 |mw q=>
  have h:wa (bif xan q o then Dv.mw n else .mw q)=some p:=h;cases hb:xan q o<;>rw[hb]at h
  ·exact .inl h
  ·cases h;exact .inr rfl
 |mv q l m=>
  have h:wa (bif xan q o then Dv.mv n l m else .mv q l m)=some p:=h;cases hb:xan q o<;>rw[hb]at h
  ·exact .inl h
  ·cases h;exact .inr rfl
 |hp q j=>
  have h:wa (bif xan q o then Dv.hp n j else .hp q j)=some p:=h;cases hb:xan q o<;>rw[hb]at h
  ·exact .inl h
  ·cases h;exact .inr rfl
 |rw q r=>
  have h:wa (bif xan q o then Dv.rw n r else .rw q r)=some p:=h;cases hb:xan q o<;>rw[hb]at h
  ·exact .inl h
  ·cases h;exact .inr rfl
 |rp q t r j f=>
  have h:wa (bif xan q o then Dv.rp n t r j f else .rp q t r j f)=some p:=h;cases hb:xan q o<;>rw[hb]at h
  ·exact .inl h
  ·cases h;exact .inr rfl
 |_=>exact .inl h
theorem GF{o n:Nat}: ∀{rg:List (Nat×Nat×Dv)},∀e∈zcm o n rg,∃e'∈rg,e=(e'.1,e'.2.1,zbk o n e'.2.2)
 |[],e,he=>absurd he xaa
 |(t,i,v)::rg,e,he=>by
  rcases xae.1 he with rfl|he
  ·exact⟨_,FS,rfl⟩
  ·obtain⟨e',h1,h2⟩:=GF e he;exact⟨e',H1 _ h1,h2⟩
theorem Gv{o n:Nat}: ∀{rg:List (Nat×Nat×Dv)},∀e∈FB o n rg,e∈rg\/ ∃e'∈rg,∃p,e'.2.2= .mw p/\e=(e'.1,e'.2.1,bif xan p o then .mw n else .mw p)
 |[],e,he=>absurd he xaa
 |(t,i,v)::rg,e,he=>by
  have ih: ∀e∈FB o n rg,e∈(t,i,v)::rg\/ ∃e'∈(t,i,v)::rg,∃p,e'.2.2= .mw p/\e=(e'.1,e'.2.1,bif xan p o then .mw n else .mw p):=fun e he=>by
   rcases Gv e he with h|⟨e',h1,p,h2,h3⟩
   ·exact .inl (H1 _ h)
   ·exact .inr ⟨e',H1 _ h1,p,h2,h3⟩
  cases v with
  |mw p=>
   rcases xae.1 (show e∈(t,i,bif xan p o then Dv.mw n else .mw p)::FB o n rg from he)with rfl|he
   ·exact .inr ⟨_,FS,p,rfl,rfl⟩
   ·exact ih e he
  |_=>
   rcases xae.1 he with rfl|he
   ·exact .inl (FS)
   ·exact ih e he
theorem Cq{u v:Value}{o:Nat}{X:Od}{ob:List (Nat×Od)}{rg:List (Nat×Nat×Dv)}(hB:Bd cx σ)(hd:wo cx d=true)(hb: ∀e∈ob,e.1<σ.nx)
 (hc: ∀e∈rg,∃e'∈va σ.rg d [],e.1=e'.1/\e.2.1=e'.2.1/\(∀p,wa e.2.2=some p->wa e'.2.2=some p\/p=σ.nx)/\ ∀v S w,(vg P (YO vs σ.nx u) e'.2.2 v).p S w->(vg P (YO vs σ.nx u) e.2.2 v).p S w)
 (hg:St fr.we fr.Se (VQ (YO vs σ.nx u) (σ.nx,X)::OS vs fr cx ob) (GS P vs env fr cx σ) w):aY P fr cx σ.nx vs ⟨σ.nx+1,rg,(σ.nx,X)::ob⟩ (put env d v) w:=by
 obtain⟨ha,hi⟩:UF P fr cx ⟨σ.nx+1,va σ.rg d [],(σ.nx,X)::ob⟩ (YO vs σ.nx u) (put env d v) w:=by
  refine Db (σ':=⟨σ.nx+1,va σ.rg d [],(σ.nx,X)::ob⟩) (l:=[]) (vs:=vs) (vs':=YO vs σ.nx u) (Γl:=[]) hB hd rfl (xce _) (fun o ho=>uj ho) (fun _ he=>absurd he xaa) ?_ (fun S w _ e he=>absurd he xaa) ?_
  ·intro e he;rcases xae.1 he with rfl|he
   ·exact xbV _
   ·exact xfl (hb e he)
  ·show St _ _ (VQ (YO vs σ.nx u) (σ.nx,X)::OS (YO vs σ.nx u) fr cx ob) _ _;rw[Cb hB hb];exact hg
 refine⟨YO vs σ.nx u,fun o ho=>uj ho,⟨ha.o1,ha.o2,fun e he p hp=> ?_,ha.r2⟩,hi.weak fun S w h=>zA.append (qT.2 fun f hf=> ?_) (zA.right h)⟩
 ·obtain⟨e',h1,_,_,h2,_⟩:=hc e he;rcases h2 p hp with h|rfl
  ·exact ha.r1 e' h1 p h
  ·exact xbV _
 ·obtain⟨e,he,rfl⟩:=xai.1 hf;obtain⟨e',h1,h2,h3,_,h4⟩:=hc e he;have h5:=Ji (zA.left h) (t:=e'.1) (i:=e'.2.1) (d:=e'.2.2) h1;rw[h2,h3];exact Ql h5 fun u hu=>h4 u S w hu
theorem zby{u:Value}{o:Nat}(hr:TU (YO vs σ.nx u o) (YO vs σ.nx u σ.nx)): ∀e∈zcm o σ.nx σ.rg,∃e'∈va σ.rg none [],e.1=e'.1/\e.2.1=e'.2.1/\(∀p,wa e.2.2=some p->wa e'.2.2=some p\/p=σ.nx)/\ ∀v S w,(vg P (YO vs σ.nx u) e'.2.2 v).p S w->(vg P (YO vs σ.nx u) e.2.2 v).p S w:=by
 intro e he;obtain⟨e',h1,rfl⟩:=GF e he;exact⟨e',h1,rfl,rfl,fun p hp=>SY hp,fun v S w h=>zal hr h⟩
theorem Gk{u:Value}{o:Nat}{rg:List (Nat×Nat×Dv)}(hr:yY (YO vs σ.nx u σ.nx)=yY (YO vs σ.nx u o)): ∀e∈FB o σ.nx rg,∃e'∈rg,e.1=e'.1/\e.2.1=e'.2.1/\(∀p,wa e.2.2=some p->wa e'.2.2=some p\/p=σ.nx)/\ ∀v S w,(vg P (YO vs σ.nx u) e'.2.2 v).p S w->(vg P (YO vs σ.nx u) e.2.2 v).p S w:=by
 intro e he;rcases Gv e he with h|⟨e',h1,p,h2,rfl⟩
 ·exact⟨e,h,rfl,rfl,fun p hp=> .inl hp,fun v S w h=>h⟩
 ·refine⟨e',h1,rfl,rfl,fun q hq=> ?_,fun v S w h=> ?_⟩
  ·rw[h2];cases hb:xan p o
   ·simp only[hb,cond_false]at hq;exact .inl hq
   ·simp only[hb,cond_true]at hq;cases hq;exact .inr rfl
  ·rw[h2]at h;have h:v=yY (YO vs σ.nx u p):=h;cases hb:xan p o
   ·exact h
   ·have hp:=ya hb;subst hp;exact h.trans hr.symm
end
end
section
section
variable{P:Program}{cf:Cf}{fr:Fr}{cx σ:Sg}{vs vs':Nat->Value}{env:yP}{w:World}{R:Type}{r:R}
 {d:Option Tmp} {ty t yt:TypeId} {pos:String} {aft:Array Edge} {g:Option (Nat×Bool)} {x y:Operand}
theorem Lv{α:Type}{xss:List (List α)}{r:Nat}(h:r<xss.length):xss[r]? =some (jA xss r):=by
 unfold jA;rw[UV,IR h];rfl
theorem K7{o:Nat}{s:Ty}{E E1:TypeId}{xss:List (List s.D)}{ix:List Nat}{ms:List MF}{Γ:List FF}(h:St fr.we fr.Se (VQ vs (o,.mat s E E1 xss ix)::ms) Γ w):
 (vb (vs o)).length=xss.length/\St fr.we fr.Se ((mO (u4 (vb (vs o))) E (yY (vs o)) ix::wm s.rep E1 (vb (vs o)) xss)++ms) Γ w:=St.unpr (St.grp.1 h)
theorem EH{u:Value}{s:Ty}{E E1:TypeId}{xss:List (List s.D)}{ix:List Nat}{ms:List MF}{Γ:List FF}(hl:(vb u).length=xss.length)(h:St fr.we fr.Se ((mO (u4 (vb u)) E (yY u) ix::wm s.rep E1 (vb u) xss)++ms) Γ w):
 St fr.we fr.Se (gn s.rep E E1 u xss ix::ms) Γ w:=St.grp.2 (St.pr hl h)
theorem zg2{k:Sg->Option R}{ti:TI}(hT:zT P cf.tt)(hr:ZV cf t=some ti){o p j:Nat}{e:Ty}{f:Fl e.D}(hx:xW cx σ x=some (.rp o e p j f))(h:ZH σ ti.ty (xW cx σ x) (xW cx σ y) k=some r):
 lF P cx ⟨none,.store t x y,ty,pos,aft,g⟩ σ k r:=by
 obtain⟨zero,hd,_⟩:=WY hT hr;rw[hx]at h;simp only[ZH]at h;split at h
 ·next s' E E1 xss ix hb ho _=>
  obtain⟨ht,h1⟩:=ym h;cases ht;obtain⟨q,h2,hq⟩:=XO h1;obtain⟨zss,hz,h⟩:=xp h2;obtain⟨hb⟩:=hb;refine⟨_,h,xac _,fun fr vs env w hR=> ?_⟩;obtain⟨hB,he⟩:=hR;obtain⟨S0,_,hΓ⟩:=he.ex;obtain⟨hu,b,m,cap,hv,hj,hw⟩:=zk hx (zW hΓ x);have hf:=Zh ho he;obtain⟨hn,hp⟩:m=(jA (α:=e.D) xss p).length/\p<xss.length:=xO hf (i:=0) rfl fun S hp=>⟨cY (e9 (show(gn e.rep E E1 (vs o) xss ix).p S w from hp) hv).1 rfl,(e9 (show(gn e.rep E E1 (vs o) xss ix).p S w from hp) hv).2⟩;obtain⟨hl,hg⟩:=K7 hf;have hi:=zdd (e:=e.rep) (E:=E) (E1:=E1) (v:=yY (vs o)) (ix:=ix) hv (Lv (α:=e.D) hp) (OS vs fr cx (yC σ.ob o));obtain⟨b',cap',hy,hA,hC,hs⟩:=hg.openO (p+1) hi (by omega);cases hy;rw[<-hb]at hd;have hk:=(Sub.rowT0 e.rep cap (jA (α:=e.D) xss p) j ((jA (α:=e.D) xss p).getD j e.z) (getD_some e.z (by omega))).comp (hu ((jA (α:=e.D) xss p).getD j e.z));refine(Yl (f:=f.f.rep) (y':=q) (p+1) (wx hi) hw rfl hk hd (fun S w ha=>hq P vs env S w (zW ha y)) w hs).mono ?_;rintro v w' ⟨_,rfl,_,hD⟩;refine b9 (vs:=vs) hB ho (MH ho ?_);have hc:(xfR (jA (α:=e.D) xss p) j (f.set q ((jA (α:=e.D) xss p).getD j e.z))).length=(jA (α:=e.D) xss p).length:=xcG ..;have hm:=hD.closeF (p+1) (wx (wx hi)) (by rw[hc];exact hA) hC;rw[kt,kt,hc,Ep hv hp hl]at hm;rw[hz];exact EH (by rw[show(zhv (α:=e.D) xss p _).length=xss.length from xcG ..];exact hl) hm
 ·cases h
theorem zhg{k:Sg->Option R}{ti:TI}(hT:zT P cf.tt)(hq:ZV cf t=some ti){o j o' p:Nat}(hx:xW cx σ x=some (.hp o j))(hy:xW cx σ y=some (.rw o' p))(h:ZH σ ti.ty (xW cx σ x) (xW cx σ y) k=some r):
 lF P cx ⟨none,.store t x y,ty,pos,aft,g⟩ σ k r:=by
 obtain⟨zero,hc,_⟩:=WY hT hq;rw[hx,hy]at h;simp only[ZH]at h;obtain⟨hr,h⟩:=yi h;obtain rfl:=ya hr;split at h
 ·next s' E E1 xss ix q ho ht=>
  obtain⟨iz,hz,h⟩:=xp h;refine⟨_,h,xac _,fun fr vs env w hR=> ?_⟩;obtain⟨hB,hd⟩:=hR;obtain⟨S0,_,hΓ⟩:=hd.ex;obtain⟨b,m,cap,hv,hj,hu⟩:=zk hx (zW hΓ x);have hw:(vb (vs o'))[p]? =some (ev env y):=zk hy (zW hΓ y);have he:=Zh ho hd;obtain⟨hn,hf⟩:m=ix.length/\(ev env y).oneCell'=true:=xO he (i:=0) rfl fun S hp=>⟨cY (AU (show(gn s'.rep E E1 (vs o') xss ix).p S w from hp)).2.1 hv,(AR (e9 (show(gn s'.rep E E1 (vs o') xss ix).p S w from hp) hw).1).1⟩;obtain⟨hl,hg⟩:=K7 he;obtain⟨b',cap',hi,hA,hC,hs⟩:=hg.openO 0 rfl (by omega);rw[hv]at hi;cases hi;have hk:=Sub.rowT0 (u4 (vb (vs o'))) cap ix j (ix.getD j 0) (getD_some 0 (by omega));rw[ht]at hc;refine(Yl (f:=u4 (vb (vs o'))) (y':=p) 0 rfl hu rfl hk hc (fun S w ha=> ?_) w hs).mono ?_
  ·exact zag (zk hy (zW ha y)) hf
  rintro v w' ⟨_,rfl,_,hD⟩;refine b9 (vs:=vs) hB ho (MH ho ?_);have hb:(ix.set j p).length=ix.length:=xcG ..;have hm:=hD.closeF 0 rfl (by rw[hb];exact hA) hC;rw[hb,<-hv]at hm;rw[hz];exact EH hl hm
 ·cases h
theorem zbK{u:Value}{o:Nat}{hv:List Value}(hu:vb u=vb (vs o)++hv)(ho:yY u=yY (vs o))(ha:o<σ.nx):TU (YO vs σ.nx u o) (YO vs σ.nx u σ.nx):=by
 rw[uj ha,vr];refine⟨ho,fun r v h=> ?_⟩;rw[hu,xbn (xat.1 h).1];exact h
theorem Cn{o:Nat}{X:Od}(hB:Bd cx σ)(h:xH σ.ob o=some X):o<σ.nx:=by
 obtain⟨i,h1,_⟩:=wj h;exact hB.o1 _ (xbr h1)
theorem pR(hB:Bd cx σ){o p:Nat}: ∀e∈yC (yC σ.ob o) p,e.1<σ.nx:=fun e he=>hB.o1 e (kU e (kU e he))
theorem zhp{k:Sg->Option R}{ti:TI}(hT:zT P cf.tt)(ht:ZV cf t=some ti){o j o2:Nat}(hx:xW cx σ x=some (.hp o j))(hy:xW cx σ y=some (.ow o2))(h:ZH σ ti.ty (xW cx σ x) (xW cx σ y) k=some r):
 lF P cx ⟨none,.store t x y,ty,pos,aft,g⟩ σ k r:=by
 obtain⟨zero,hd,_⟩:=WY hT ht;rw[hx,hy]at h;simp only[ZH]at h;obtain⟨he,h⟩:=yi h;rw[xdm]at he;split at h
 ·next s' E E1 xss ix s2 E2 ys q ho hu hw=>
  obtain⟨hE,h0⟩:=yi h;obtain rfl:=ya hE;obtain⟨hA,h1⟩:=ym h0;cases hA;obtain⟨zss,hz,h2⟩:=xp h1;obtain⟨iz,hi,h3⟩:=xp h2;refine⟨_,h3,xce _,fun fr vs env w hR=> ?_⟩;obtain⟨hB,hf⟩:=hR;obtain⟨S0,_,hΓ⟩:=hf.ex;obtain⟨b,m,cap,hv,hj,hC⟩:=zk hx (zW hΓ x);have hD:ev env y=vs o2:=zk hy (zW hΓ y);have hb:=bW he ho hu hf;have hn:m=ix.length:=xO hb (i:=0) rfl fun S hp=>cY (AU (show(gn s'.rep E E1 (vs o) xss ix).p S w from hp)).2.1 hv;obtain⟨hk,_⟩:(vs o2).oneCell'=true/\_:=xO hb (i:=1) (m:=mO s'.rep E1 (vs o2) ys) rfl fun S hp=>AR hp;have hl:=(K7 hb).1
  have hg:St fr.we fr.Se ((mO (u4 (vb (vs o)++[vs o2])) E (yY (vs o)) ix::wm s'.rep E1 (vb (vs o)++[vs o2]) (xss++[ys]))++OS vs fr cx (yC (yC σ.ob o) o2)) (GS P vs env fr cx σ) w:=
   St.grp.1 (St.adopt hl (St.grp.2 (K7 hb).2))
  obtain⟨b',cap',hm,hF,hG,hs⟩:=hg.openO 0 rfl (by omega);rw[hv]at hm;cases hm;have hq:=Sub.rowT0 (u4 (vb (vs o)++[vs o2])) cap ix j (ix.getD j 0) (getD_some 0 (by omega));rw[hw]at hd;refine(Yl (f:=u4 (vb (vs o)++[vs o2])) (y':=xss.length) 0 rfl hC hD hq hd (fun S w ha=>zag (by rw[<-hl];simp) hk) w hs).mono ?_;rintro v w' ⟨_,rfl,_,hH⟩;have hc:(ix.set j xss.length).length=ix.length:=xcG ..;have hr:=hH.closeF 0 rfl (by rw[hc];exact hF) hG;rw[hc,<-hv]at hr;refine Cq (o:=o) (u:=KH (yY (vs o)) (vb (vs o)++[vs o2])) hB rfl (pR hB) (zby (zbK rfl rfl (Cn hB ho))) ?_;rw[moU,hi,hz];refine EH (u:=KH (yY (vs o)) (vb (vs o)++[vs o2])) (by show(vb (vs o)++[vs o2]).length=(xss++[ys]).length;simp[hl]) hr
 ·cases h
theorem zie{k:Sg->Option R}{ti:TI}(hT:zT P cf.tt)(hj:ZV cf t=some ti){o o2:Nat}(hx:xW cx σ x=some (.mw o))(hy:xW cx σ y=some (.ow o2))(h:ZH σ ti.ty (xW cx σ x) (xW cx σ y) k=some r):
 lF P cx ⟨none,.store t x y,ty,pos,aft,g⟩ σ k r:=by
 obtain⟨zero,hc,_⟩:=WY hT hj;rw[hx,hy]at h;simp only[ZH]at h;obtain⟨hd,h⟩:=yi h;rw[xdm]at hd;split at h
 ·next E0 s2 E2 ys q ho hk hm=>
  refine⟨_,h,xce _,fun fr vs env w hR=> ?_⟩;obtain⟨hB,he⟩:=hR;obtain⟨S0,_,hΓ⟩:=he.ex;have hn:ev env x=yY (vs o):=zk hx (zW hΓ x);have hq:ev env y=vs o2:=zk hy (zW hΓ y);have hf:=bW hd ho hk he;obtain⟨hg,_⟩:(vs o2).oneCell'=true/\_:=xO hf (i:=1) (m:=mO s2.rep E2 (vs o2) ys) rfl fun S hp=>AR hp;obtain⟨hl,h1⟩:=St.unpr (St.grp.1 hf);have h1:St fr.we fr.Se (mP (u4 (vb (vs o))).c E0 (yY (vs o)) 0::mO s2.rep E2 (vs o2) ys::OS vs fr cx (yC (yC σ.ob o) o2)) (GS P vs env fr cx σ) w:=h1;obtain⟨b,hb,h2⟩:=h1.openP 0 rfl;have hi:=zac hl;have h3:=h2.conv (i:=0) (m:=mB (u4 (vb (vs o))).c E0 b 0) (m':=mB (u4 (vb (vs o)++[vs o2])).c E0 b 0) rfl rfl fun S hp=>by
   obtain⟨cs,g1,u,g2,g3,g4⟩:=hp;exact⟨cs,g1,u,by rw[xbn (xat.1 g2).1];exact g2,g3,g4⟩
  rw[hm]at hc;refine(Yl (e:=(u4 (vb (vs o)++[vs o2])).c) (f:=u4 (vb (vs o)++[vs o2])) (z':=0) (y':=1) (up:=id) 0 rfl (hn.trans hb) hq (Sub.self (u4 (vb (vs o)++[vs o2])) 0) hc (fun S w ha=>zag (by rw[hi];rfl) hg) w h3).mono ?_;rintro v w' ⟨_,rfl,_,hr⟩;have h4:St fr.we fr.Se (mB (u4 (vb (vs o)++[vs o2])).c E0 b 1::mO s2.rep E2 (vs o2) ys::OS vs fr cx (yC (yC σ.ob o) o2)) (GS P vs env fr cx σ) w':=hr;have h5:=h4.conv (i:=0) (m:=mB (u4 (vb (vs o)++[vs o2])).c E0 b 1) (m':=mB (u4 [vs o2]).c E0 b 0) rfl rfl fun S hp=>by
   obtain⟨cs,g1,u,g2,g3,g4⟩:=hp;refine⟨cs,g1,u,?_,g3,g4⟩;rw[hi]at g2;exact g2
  have h6:=h5.toP 0 rfl;rw[<-hb]at h6;have h7:St fr.we fr.Se (mP (u4 [vs o2]).c E0 (yY (vs o)) 0::mO s2.rep E2 (vs o2) ys::OS vs fr cx (yC (yC σ.ob o) o2)) (GS P vs env fr cx σ) w':=h6;refine Cq (o:=o) (u:=KH (yY (vs o)) [vs o2]) hB rfl (pR hB) (Gk (by rw[vr,uj (Cn hB ho)];rfl)) ?_
  ·rw[moU];exact St.grp.2 (St.pr (p:=([vs o2]:List Value).length=1) rfl h7)
 ·cases h
theorem zaa(hT:zT P cf.tt){k:Sg->Option R}{ti:TI}(ha:ZV cf t=some ti)(h:ZH σ ti.ty (xW cx σ x) (xW cx σ y) k=some r):lF P cx ⟨none,.store t x y,ty,pos,aft,g⟩ σ k r:=by
 have h0:=h;unfold ZH at h;split at h
 ·next o e r j f hx=>exact zg2 hT ha hx h0
 ·next o j o' r hx hy=>exact zhg hT ha hx hy h0
 ·next o j o2 hx hy=>exact zhp hT ha hx hy h0
 ·next o o2 hx hy=>exact zie hT ha hx hy h0
 ·cases h
theorem eN: ∀{ob:List (Nat×Od)} {o p:Nat},o≠p->yC (yC ob o) p=yC (yC ob p) o
 |[],_,_,_=>rfl
 |(q,X)::r,o,p,h=>by
  have ih:=eN (ob:=r) h;cases h1:xan q o
  ·cases h2:xan q p
   ·simp only[yC,h1,h2,cond_false];rw[ih]
   ·simp only[yC,h1,h2,cond_false,cond_true]
  ·cases h2:xan q p
   ·simp only[yC,h1,h2,cond_false,cond_true]
   ·have:=(ya h1).symm.trans (ya h2);exact absurd this h
theorem sN{S:Nat->Prop}{w:World}{hv ha:List Value}: ∀{ix:List Nat} {cs:List Value},yu (u4 ha) S ix cs w->yu (u4 (hv++ha)) S (ix.map (hv.length+ ·)) cs w
 |[],_,h=>h
 |r::ix,cs,⟨c,q,h1,⟨u,h2,h3,h4⟩,h5⟩=>⟨c,q,h1,⟨u,by show(hv++ha)[hv.length+r]? =some u;rw[xcj (xbL _ _),xeW];exact h2,h3,h4⟩,sN h5⟩
theorem tu{α:Type}{e:zX α}{E:TypeId}: ∀{hv ha:List Value} {xss yss:List (List α)},hv.length=xss.length->wm e E (hv++ha) (xss++yss)=wm e E hv xss++wm e E ha yss
 |[],_,[],_,_=>rfl
 |u::hv,ha,xs::xss,yss,h=>by
  show mO e E u xs::wm e E (hv++ha) (xss++yss)=mO e E u xs::(wm e E hv xss++wm e E ha yss);rw[tu (by simpa using h)]
 |[],_,_::_,_,h=>by cases h
 |_::_,_,[],_,h=>by cases h
theorem zf1(hT:zT P cf.tt){ags:Array Operand}{ts:Array TypeId}{k:Sg->Option R}(hd:wo cx d=true)(h:Rn cf cx σ d ags.toList ts.toList k=some r):
 lF P cx ⟨d,.call ⟨.builtin .append,ags,ts⟩,ty,pos,aft,g⟩ σ k r:=by
 unfold Rn at h;split at h
 ·next _ _ x y t t' hS hU=>
  obtain rfl:ags= #[x,y]:=by cases ags;simp_all
  obtain rfl:ts= #[t,t']:=by cases ts;simp_all
  split at h
  ·next s E B o p ht hx hy=>
   obtain⟨hg,h6⟩:=yi h;rw[xam]at hg;obtain⟨hC,hl⟩:=hg;obtain rfl:=ya hC;rw[xdm]at hl;clear h;split at h6
   ·next q1 q2 B1 s1 E1 F1 xss ix s2 E2 F2 yss iy hn ho hp=>
    obtain⟨hg,h1⟩:=yi h6;simp only[xam]at hg;obtain⟨hf,hj,hF⟩:=hg;have hf:=ya hf;have hj:=ya hj;have hF:=ya hF;subst hf;subst hj;subst hF;obtain⟨hD,h2⟩:=ym h1;cases hD;obtain⟨hb,h3⟩:=kv h2;obtain⟨zss,hz,h4⟩:=xp h3;obtain⟨iz,hi,h5⟩:=xp h4;have hE:=Hq hT hn rfl;have hc:=(hT _ _ hn).2.1;refine⟨_,h5,xce _,fun fr vs env w hR=> ?_⟩;obtain⟨hB,hr⟩:=hR;obtain⟨S0,_,hΓ⟩:=hr.ex;have hG:ev env x=yY (vs o):=zk hx (zW hΓ x);have hH:ev env y=yY (vs p):=zk hy (zW hΓ y);have hI:=bW hl ho hp hr;obtain⟨hk,hJ⟩:=K7 hI;have hu:St fr.we fr.Se (VQ vs (p,.mat s1 E2 F1 yss iy)::((mO (u4 (vb (vs o))) E2 (yY (vs o)) ix::wm s1.rep F1 (vb (vs o)) xss)++OS vs fr cx (yC (yC σ.ob o) p))) (GS P vs env fr cx σ) w:=hJ.perm xcr;obtain⟨hK,hL⟩:=K7 hu;have hN:St fr.we fr.Se (mO (u4 (vb (vs o))) E2 (yY (vs o)) ix::mO (u4 (vb (vs p))) E2 (yY (vs p)) iy::(wm s1.rep F1 (vb (vs o)) xss++wm s1.rep F1 (vb (vs p)) yss++OS vs fr cx (yC (yC σ.ob o) p))) (GS P vs env fr cx σ) w:=by
     refine hL.perm ?_;simp only[xbP,xal];refine(List.Perm.cons _ xcr).trans ((xeH ..).trans ?_);refine List.Perm.cons _ (List.Perm.cons _ ?_);exact(xdE ..)
    have hO:=hN.conv (i:=0) (m:=mO (u4 (vb (vs o))) E2 (yY (vs o)) ix) (m':=mO (u4 (vb (vs o)++vb (vs p))) E2 (yY (vs o)) ix) rfl rfl fun S hq=>Nh hq;have Eu: ∀m,m*B1<=140737488355328->m<=9223372036854775807:=fun m hm=>by
     have hc:0<B1:=hc;have:=xcl m hc;omega
    have he:(iy.map (xaG xss+ ·)).length=iy.length:=xaN _;refine(QO (e:=u4 (vb (vs o)++vb (vs p))) (ys:=iy.map (xaG xss+ ·)) 0 (ve hT ht) hE rfl xdZ rfl hG hH (fun S w hM ha=> ?_) (Eu _ (by rw[he];exact hb)) (by rw[he];exact hb) w hO).mono ?_
    ·have hm:(mO (u4 (vb (vs p))) E2 (yY (vs p)) iy).p S w:=hM.2.1;have hw:(mO (u4 (vb (vs o)++vb (vs p))) E2 (yY (vs p)) (iy.map (xaG xss+ ·))).p S w:=by
      obtain⟨cs,a1,a2⟩:=hm;refine⟨cs,by rw[he];exact a1,?_⟩;rw[<-hk];exact sN a2
     rcases J6 hw with⟨hv,hA⟩|⟨b,cap,hv,hP,hQ⟩
     ·rw[hv,hA];exact⟨none,0,rfl,xac _,xaj _,.inl rfl⟩
     ·have h6:=CD hw hv (l:=0) (n:=(iy.map (xaG xss+ ·)).length) (c:=cap) (by omega) hP hQ;rw[List.drop_zero,xcK]at h6;rw[hv];simpa using h6
    rintro v w' ⟨v',rfl,_,hs⟩;refine Ka (vs:=vs) (mk:= .mw) (u:=KH v (vb (vs o)++vb (vs p))) hB hd (pR hB) (fun _=>rfl) (fun S w=>by simp only[vg,vr];rfl) ?_;rw[moU,hz,hi];have h7:St fr.we fr.Se (mO (u4 (vb (vs o)++vb (vs p))) E2 v (ix++iy.map (xaG xss+ ·))::mO (u4 (vb (vs p))) E2 (yY (vs p)) iy::(wm s1.rep F1 (vb (vs o)) xss++wm s1.rep F1 (vb (vs p)) yss++OS vs fr cx (yC (yC σ.ob o) p))) (GS P vs env fr cx σ) w':=hs;have h8:=St.drop (i:=1) h7;refine EH (u:=KH v (vb (vs o)++vb (vs p))) (by show(vb (vs o)++vb (vs p)).length=(xss++yss).length;simp[hk,hK]) ?_;show St _ _ ((mO (u4 (vb (vs o)++vb (vs p))) E2 v _::wm s1.rep F1 (vb (vs o)++vb (vs p)) (xss++yss))++_) _ _;rw[tu hk];exact h8
   ·cases h6
  ·cases h
 ·cases h
theorem Ny(hX:rm P cf){s:oO}{f:Operand}{ags:Array Operand}{ts:Array TypeId}{k:Sg->Option R}(hd:wo cx d=true)(hf:xW cx σ f=some (.fn s.f []))(hs:s∈cf.ms)(h:oM cx σ d s ags.toList k=some r):
 lF P cx ⟨d,.call ⟨.value f,ags,ts⟩,ty,pos,aft,g⟩ σ k r:=by
 obtain⟨hb,hq⟩:=hX.ms s hs;unfold oM at h;split at h
 ·next _ x a p y hF=>
  obtain rfl:ags= #[x,a,p,y]:=by cases ags;simp_all
  split at h
  ·next o r0 av pv o' lo n hx ha hp hy=>
   obtain⟨hr,h6⟩:=yi h;obtain rfl:=ya hr;clear h;split at h6
   ·next s1 E E1 xss ix ho=>
    obtain⟨hg,h1⟩:=yi h6;rw[xam]at hg;have hE:=ya hg.1;have hi:=ya hg.2;obtain⟨ht,h2⟩:=ym h1;cases ht;obtain⟨zss,hz,h3⟩:=py h2;refine⟨_,h3,xce _,fun fr vs env w hR=> ?_⟩;obtain⟨hB,hj⟩:=hR;obtain⟨S0,_,hΓ⟩:=hj.ex;have hw:(vb (vs o))[r0]? =some (ev env x):=zk hx (zW hΓ x);have hk:=xV ha (zW hΓ a);have hl:=xV hp (zW hΓ p);have hA:Dw (yY (vs o)) lo n (ev env y):=zk hy (zW hΓ y);obtain⟨cvs,hv,hC,hG⟩:=zk hf (zW hΓ f);obtain rfl:cvs=[]:=xbG.1 hC;have hm:=Zh ho hj;rw[hE,hi]at hm;have hc:=hq xss ix r0 av pv lo n zss hz (vs o) (ev env x) (ev env y) hw hA hk.2 hl.2 fr.we fr.Se _ _ w hm;have hn:(execOp (ev env) ⟨d,.call ⟨.value f,#[x,a,p,y],ts⟩,ty,pos,aft,g⟩).run P w= .ok (.enter s.f #[ev env x,.int .i64 av,.int .i64 pv,ev env y]) w:=by simp[execOp,resolve,hv,xdH,invoke,kJ hb,hk.1,hl.1]
    unfold kh;rw[hn];refine hc.mono ?_;rintro e w' ⟨v,u',rfl,hu,hD⟩;refine⟨v,rfl,Cq (o:=o) (u:=u') hB hd (fun e he=>hB.o1 e (kU e he)) (Gk (by rw[vr,uj (Cn hB ho)];exact hu)) ?_⟩;rw[moU];show St _ _ (gn s.t.rep E E1 u' zss ix::_) _ _;rw[hE,hi];exact hD
   ·cases h6
  ·cases h
 ·cases h
theorem nX{o n:Nat}: ∀{rg:List (Nat×Nat×Dv)},∀e∈DT o n rg,e∈rg\/ ∃e'∈rg,∃p,e'.2.2= .yd p/\e=(e'.1,e'.2.1,bif xan p o then .yd n else .yd p)
 |[],e,he=>absurd he xaa
 |(t,i,v)::rg,e,he=>by
  have ih: ∀e∈DT o n rg,e∈(t,i,v)::rg\/ ∃e'∈(t,i,v)::rg,∃p,e'.2.2= .yd p/\e=(e'.1,e'.2.1,bif xan p o then .yd n else .yd p):=fun e he=>by
   rcases nX e he with h|⟨e',h1,p,h2,h3⟩
   ·exact .inl (H1 _ h)
   ·exact .inr ⟨e',H1 _ h1,p,h2,h3⟩
  cases v with
  |yd p=>
   rcases xae.1 (show e∈(t,i,bif xan p o then Dv.yd n else .yd p)::DT o n rg from he)with rfl|he
   ·exact .inr ⟨_,FS,p,rfl,rfl⟩
   ·exact ih e he
  |_=>
   rcases xae.1 he with rfl|he
   ·exact .inl (FS)
   ·exact ih e he
theorem zaK(hX:rm P cf){o:Nat}{f:Operand}{ags:Array Operand}{ts:Array TypeId}{k:Sg->Option R}(hd:wo cx d=true)(hf:xW cx σ f=some (.yd o))(h:Bp cx σ d o ags.toList k=some r):
 lF P cx ⟨d,.call ⟨.value f,ags,ts⟩,ty,pos,aft,g⟩ σ k r:=by
 unfold Bp at h;split at h
 ·next _ x hC=>
  obtain rfl:ags= #[x]:=by cases ags;simp_all
  split at h
  ·next p hx=>
   obtain⟨hi,h⟩:=yi h;rw[xdm]at hi;split at h
   ·next t E X Y mX mY gg z s E2 ys ho hp=>
    obtain⟨hE,h1⟩:=yi h;have hE:=ya hE;subst hE;obtain⟨hm,h2⟩:=ym h1;cases hm;obtain⟨q,hq,h3⟩:=py h2
    have main: ∀(fr:Fr) (vs:Nat->Value) (env:yP) (w:World),UF P fr cx σ vs env w->kh P ⟨d,.call ⟨.value f,#[x],ts⟩,ty,pos,aft,g⟩ env w fun v w'=>v= .bool q.2.isLeft/\Bd cx σ/\Ek P (lOf (yY (vs o))) t.rep E2 mX mY gg/\
     ∃u',St fr.we fr.Se (xfp (fun x=>mX x u') (fun y=>mY y u') q.2::mO t.rep E2 (vs p) q.1::OS vs fr cx (yC (yC σ.ob o) p)) (GS P vs env fr cx σ) w':=by
     intro fr vs env w hR;obtain⟨hB,hj⟩:=hR;obtain⟨S0,_,hΓ⟩:=hj.ex;have hn:ev env x=vs p:=zk hx (zW hΓ x);have ht:ev env f= .func (.yield (lOf (yY (vs o)))) #[] #[]:=zk hf (zW hΓ f);have hv:=bW hi ho hp hj;obtain⟨hY,h4⟩:=St.unpr (St.grp.1 hv);rw[<-hX.pp]at hY;have h4:St fr.we fr.Se (mX z ((vb (vs o)).headD undef)::mO t.rep E2 (vs p) ys::OS vs fr cx (yC (yC σ.ob o) p)) (GS P vs env fr cx σ) w:=h4;obtain⟨fn,tmps,as',bd',hy,hR⟩:=hY ys z q.1 q.2 hq (vs p) _ _ _ _ _ w h4;have hk:(execOp (ev env) ⟨d,.call ⟨.value f,#[x],ts⟩,ty,pos,aft,g⟩).run P w= .ok (.round (lOf (yY (vs o))) fn tmps as' bd') w:=by
      rw[<-hn]at hy;simp[execOp,resolve,ht,xdH,invoke,hy]
     unfold kh;rw[hk];exact hR.mono fun e w' ⟨h5,h6⟩=>⟨_,h5,rfl,hB,hY,h6⟩
    have fin: ∀(X':Od) (b:Bool) (u':Value) (vs:Nat->Value) (fr:Fr) (env:yP) (w':World),Bd cx σ->St fr.we fr.Se (VQ (YO vs σ.nx (KH (yY (vs o)) [u'])) (σ.nx,X')::mO t.rep E2 (vs p) q.1::OS vs fr cx (yC (yC σ.ob o) p)) (GS P vs env fr cx σ) w'->
     aY P fr cx σ.nx vs ⟨σ.nx+1,DT o σ.nx (va σ.rg d [(0,.kb b)]),(σ.nx,X')::yC (kE σ.ob p (.own t E2 q.1)) o⟩ (put env d (.bool b)) w':=by
     intro X' b u' vs fr env w' hB hs;have hc:p≠o:=fun e=>by subst e;simp at hi
     have hw:=Cn hB ho;have hD:xH (yC σ.ob o) p=some (.own t E2 ys):=by rw[QE hc];exact hp
     have hz:St fr.we fr.Se (VQ (YO vs σ.nx (KH (yY (vs o)) [u'])) (σ.nx,X')::OS vs fr cx (yC (kE σ.ob p (.own t E2 q.1)) o)) (GS P vs env fr cx σ) w':=by
      have h7:=kF (vs:=vs) (fr:=fr) (cx:=cx) (ob:=yC (kE σ.ob p (.own t E2 q.1)) o) (o:=p) (X:= .own t E2 q.1) (by rw[QE hc];exact(Qn hp).1);have h8:yC (yC (kE σ.ob p (.own t E2 q.1)) o) p=yC (yC σ.ob o) p:=by rw[eN (fun e=>hc e.symm),(Qn hp).2,eN (fun e=>hc e)]
      rw[h8]at h7;exact hs.perm (h7.symm.cons _)
     obtain⟨ha,hA⟩:UF P fr cx ⟨σ.nx+1,va σ.rg d [(0,.kb b)],(σ.nx,X')::yC (kE σ.ob p (.own t E2 q.1)) o⟩ (YO vs σ.nx (KH (yY (vs o)) [u'])) (put env d (.bool b)) w':=by
      have hl: ∀e∈yC (kE σ.ob p (.own t E2 q.1)) o,e.1<σ.nx:=fun e he=>by
       obtain⟨e1,g1,g2⟩:=Ki hp e (kU e he);rw[<-g2];exact hB.o1 e1 g1
      refine Db (σ':=⟨σ.nx+1,va σ.rg d [(0,.kb b)],(σ.nx,X')::yC (kE σ.ob p (.own t E2 q.1)) o⟩) (l:=[(0,.kb b)]) (vs:=vs) (Γl:=[]) hB hd rfl (xce _) (fun o ho=>uj ho) (fun e he p hp=> ?_) (fun e he=> ?_) (fun S w _ e he=> ?_) ?_
      ·obtain rfl:=xah.1 he;cases hp
      ·rcases xae.1 he with rfl|he
       ·exact xbV _
       ·exact xfl (hl e he)
      ·obtain rfl:=xah.1 he;exact rfl
      ·show St _ _ (VQ (YO vs σ.nx _) (σ.nx,X')::OS (YO vs σ.nx _) fr cx (yC (kE σ.ob p (.own t E2 q.1)) o)) _ _;rw[Cb hB hl];exact hz
     refine⟨_,fun o ho=>uj ho,⟨ha.o1,ha.o2,fun e he r hr=> ?_,ha.r2⟩,hA.weak fun S w h=>zA.append (qT.2 fun f hf=> ?_) (zA.right h)⟩
     ·rcases nX e he with h|⟨e',h1,r',h2,rfl⟩
      ·exact ha.r1 e h r hr
      ·cases hb:xan r' o<;>simp only[hb,cond_true,cond_false]at hr
       ·exact ha.r1 e' h1 r (by rw[h2];exact hr)
       ·cases hr;exact xbV _
     ·obtain⟨e,he,rfl⟩:=xai.1 hf;rcases nX e he with h'|⟨e',h1,r',h2,rfl⟩
      ·exact Ji (zA.left h) h'
      ·have h5:=Ji (zA.left h) (t:=e'.1) (i:=e'.2.1) (d:=e'.2.2) h1;rw[h2]at h5;refine Ql h5 fun u hu=> ?_;cases hb:xan r' o
       ·exact hu
       ·have hu:u= .func (.yield (lOf (yY (YO vs σ.nx (KH (yY (vs o)) [u']) r')))) #[] #[]:=hu;rw[ya hb,uj hw]at hu;show u= .func (.yield (lOf (yY (YO vs σ.nx (KH (yY (vs o)) [u']) σ.nx)))) #[] #[];rw[vr];exact hu
    cases hg:q.2 with
    |inl z'=>
     rw[hg]at h3;refine⟨_,h3,xce _,fun fr vs env w hR=>(main fr vs env w hR).mono ?_⟩;rintro v w' ⟨rfl,hB,hY,u',hs⟩;rw[hg]at hs⊢;refine fin _ true u' vs fr env w' hB ?_;rw[moU];refine St.grp.2 ?_;rw[<-hX.pp];exact St.pr hY hs
    |inr y'=>
     rw[hg]at h3;refine⟨_,h3,xce _,fun fr vs env w hR=>(main fr vs env w hR).mono ?_⟩;rintro v w' ⟨rfl,hB,hY,u',hs⟩;rw[hg]at hs⊢;refine fin _ false u' vs fr env w' hB ?_;rw[moU];exact hs
   ·cases h
  ·cases h
 ·cases h
end
end
section
section
variable{P:Program}{cf:Cf}{fr:Fr}{cx σ:Sg}{vs vs':Nat->Value}{env:yP}{w:World}{R:Type}{r:R}
 {d:Option Tmp} {ty t yt:TypeId} {pos:String} {aft:Array Edge} {g:Option (Nat×Bool)} {x y:Operand}
theorem Gp{o:Nat}{s:Ty}{E:TypeId}{xs:List s.D}{S:Nat->Prop}(hf:(fV (eS s.rep) xs (vs o)).p S w): ∀{rg:List (Nat×Nat×Dv)},zA S (RS P vs env rg) w->zA S (RS P vs env (CT o (.own s E xs) rg)) w
 |[],_=>trivial
 |(t,i,v)::rg,h=>by
  refine⟨?_,Gp hf h.2⟩;have h1:(xG P vs v (env t) i).p S w:=h.1;show(xG P vs (og o (.own s E xs) v) (env t) i).p S w;cases v<;>try exact h1
  rename_i o';unfold og;cases hb:xan o' o<;>simp only[hb,cond_false,cond_true]
  ·exact h1
  ·have:=ya hb;subst this;refine Ql h1 fun u hu=> ?_;rw[show u=vs o' from hu];exact hf
theorem DC{o:Nat}{s:Ty}{E:TypeId}{z:s.D}{S:Nat->Prop}(hf:(fP s.rep z (vs o)).p S w): ∀{rg:List (Nat×Nat×Dv)},zA S (RS P vs env rg) w->zA S (RS P vs env (CT o (.var s E z) rg)) w
 |[],_=>trivial
 |(t,i,v)::rg,h=>by
  refine⟨?_,DC hf h.2⟩;have h1:(xG P vs v (env t) i).p S w:=h.1;show(xG P vs (og o (.var s E z) v) (env t) i).p S w;cases v<;>try exact h1
  rename_i o' s';unfold og;cases hb:xan o' o<;>simp only[hb,cond_false,cond_true]
  ·exact h1
  ·have:=ya hb;subst this;refine Ql h1 fun u hu=> ?_;rw[show u=vs o' from hu.1];exact hf
theorem EZ{o:Nat}{s:Ty}{E E1:TypeId}{xss:List (List s.D)}{ix:List Nat}{S:Nat->Prop}(hf:(fV (eS (eS s.rep)) (N2 xss ix) (yY (vs o))).p S w): ∀{rg:List (Nat×Nat×Dv)},zA S (RS P vs env rg) w->zA S (RS P vs env (CT o (.mat s E E1 xss ix) rg)) w
 |[],_=>trivial
 |(t,i,v)::rg,h=>by
  refine⟨?_,EZ hf h.2⟩;have h1:(xG P vs v (env t) i).p S w:=h.1;show(xG P vs (og o (.mat s E E1 xss ix) v) (env t) i).p S w;cases v<;>try exact h1
  rename_i o';unfold og;cases hb:xan o' o<;>simp only[hb,cond_false,cond_true]
  ·exact h1
  ·have:=ya hb;subst this;refine Ql h1 fun u hu=> ?_;rw[show u=yY (vs o')from hu];exact hf
theorem KT{o:Nat}{X:Od}(hX: ∀v,og o X v=v): ∀{rg:List (Nat×Nat×Dv)},CT o X rg=rg
 |[]=>rfl
 |(t,i,v)::rg=>by
  show(t,i,og o X v)::CT o X rg=_;rw[hX,KT hX]
theorem RF{o p:Nat}{X:Od}{v:Dv}(h:wa (og o X v)=some p):wa v=some p:=by
 unfold og at h;split at h
 ·next o' s E xs=>
  cases hb:xan o' o<;>rw[hb]at h
  ·exact h
  ·cases h
 ·next o' t' s E z=>
  cases hb:xan o' o<;>rw[hb]at h
  ·exact h
  ·cases h
 ·next o' s E E1 xss ix=>
  cases hb:xan o' o<;>rw[hb]at h
  ·exact h
  ·cases h
 ·exact h
theorem E9{o:Nat}{X:Od}: ∀{rg:List (Nat×Nat×Dv)},∀e∈CT o X rg,∀p,wa e.2.2=some p-> ∃e'∈rg,wa e'.2.2=some p
 |[],e,he=>absurd he xaa
 |(t,i,v)::rg,e,he=>by
  intro p hp;rcases xae.1 he with rfl|he
  ·refine⟨(t,i,v),FS,?_⟩;exact RF hp
  ·obtain⟨e',h1,h2⟩:=E9 e he p hp;exact⟨e',H1 _ h1,h2⟩
theorem Ud{o:Nat}(h:UF P fr cx σ vs env w):UF P fr cx (Gq σ o) vs env w:=by
 unfold Gq;split
 ·next X ho=>
  obtain⟨hB,hb⟩:=h;obtain⟨i,hi,_,hc⟩:=wj ho;have hd:Bd cx ⟨σ.nx,CT o X σ.rg,yC σ.ob o⟩:=⟨fun e he=>hB.o1 e (kU e he),hB.o2,fun e he p hp=>by obtain⟨e',h1,h2⟩:=E9 e he p hp;exact hB.r1 e' h1 p h2,hB.r2⟩;refine⟨hd,?_⟩
  cases X with
  |own s E xs=>
   have hm:(OS vs fr cx σ.ob)[i]? =some (mO s.rep E (vs o) xs):=W4 hi;have:=AZ i hb hm;rw[J1 hi,<-hc]at this;exact this.weak fun S w ha=>zA.append (Gp ha.1 (zA.left ha.2)) (zA.right ha.2)
  |var s E z=>
   have hm:(OS vs fr cx σ.ob)[i]? =some (mP s.rep.c E (vs o) z):=W4 hi;obtain⟨b,hv,hs⟩:=hb.openP i hm;have:=zf2 (e:=s.rep) i hs (wx hm);rw[eE,J1 hi,<-hc,<-hv]at this;exact this.weak fun S w ha=>zA.append (DC ha.1 (zA.left ha.2)) (zA.right ha.2)
  |mat s E E1 xss ix=>
   have h1:=Zh ho hb;have h2:St fr.we fr.Se (PC s.rep E E1 (yY (vs o)) (vb (vs o)) xss ix::OS vs fr cx (yC σ.ob o)) (GS P vs env fr cx σ) w:=St.grp.2 (K7 h1).2;exact(h2.mat_frz (K7 h1).1).weak fun S w ha=>zA.append (EZ ha.1 (zA.left ha.2)) (zA.right ha.2)
  |bo s E E0 xs=>
   rw[KT (fun v=>by cases v<;>rfl)];exact St.drop (i:=0) (Zh ho hb)
  |ho E0=>
   rw[KT (fun v=>by cases v<;>rfl)];exact St.drop (i:=0) (Zh ho hb)
  |hid t E X Y mX mY g x=>
   rw[KT (fun v=>by cases v<;>rfl)];exact St.drop (i:=0) (Zh ho hb)
  |hiy Y mY y=>
   rw[KT (fun v=>by cases v<;>rfl)];exact St.drop (i:=0) (Zh ho hb)
 ·exact h
theorem Tq(x:Operand)(h:UF P fr cx σ vs env w):UF P fr cx (frz cx σ x) vs env w:=by
 unfold frz;split
 ·exact Ud h
 ·exact Ud h
 ·exact Ud h
 ·exact h
theorem CW(x:Operand)(h:uU P fr cx σ env w):uU P fr cx (frz cx σ x) env w:=by
 obtain⟨hB,vs,ha⟩:=h;obtain⟨h1,h2⟩:=Tq x ⟨hB,ha⟩;exact⟨h1,vs,h2⟩
theorem n6: ∀(l:List Operand) {σ:Sg},uU P fr cx σ env w->uU P fr cx (zbF cx σ l) env w
 |[],_,h=>h
 |x::r,_,h=>n6 r (CW x h)
theorem zfo(hT:zT P cf.tt)(hL:jE P cf.tt)(hC: ∀s∈cf.cs,y5 P s)(hX:rm P cf){op:Op}{k:Sg->Option R}(hd:wo cx d=true)(h:zfI cf cx σ d op k=some r):
 lF P cx ⟨d,op,ty,pos,aft,g⟩ σ k r:=by
 unfold zfI at h;split at h
 ·exact zbm hT hd h
 ·next E x=>
  cases hb:zeA cf d<;>rw[hb]at h
  ·exact m_E hT hL hC hX hd h
  ·exact zgK hd h
 ·next t x y=>
  obtain⟨hn,h⟩:=yi h;have hn:d=none:=by simpa using hn
  subst hn;split at h
  ·next ti ha=>exact zb6 hT ha h
  ·cases h
 ·exact zeJ hT hd h
 ·exact zg4 hT hL hd h
 ·next t x hi=>
  split at h
  ·next o hx=>exact zcH hT hL hd hx h
  ·exact m_E hT hL hC hX hd h
 ·exact zhV hT hd h
 ·exact zfg hT hL hd h
 ·next f ags ts=>
  split at h
  ·next f' cs hf=>
   split at h
   ·next s hs=>exact zf9 hC hd hf hs h
   ·exact m_E hT hL hC hX hd h
  ·exact m_E hT hL hC hX hd h
 ·exact m_E hT hL hC hX hd h
theorem zdT(hT:zT P cf.tt)(hL:jE P cf.tt)(hC: ∀s∈cf.cs,y5 P s)(hX:rm P cf){op:Op}{k:Sg->Option R}(hd:wo cx d=true)(h:mOp cf cx σ d op k=some r):
 lF P cx ⟨d,op,ty,pos,aft,g⟩ σ k r:=by
 unfold mOp at h
 cases hc:coM cf cx σ d op with
 |no=>rw[hc]at h;exact zfo hT hL hC hX hd h
 |_=>
  rw[hc]at h;simp only[mCo]at h;unfold coM at hc;split at hc
  ·next t x y=>
   cases hb:OC (xW cx σ x)<;>rw[hb]at hc<;>cases hc
   all_goals
    obtain⟨hn,h⟩:=yi h
    have hn:d=none:=by simpa using hn
    subst hn
    split at h
    ·next ti ha=>exact zaa hT ha h
    ·cases h
  ·next t x y=>
   cases hb:H9 cf d<;>rw[hb]at hc<;>cases hc;all_goals exact zcR hT hd h
  ·next t n ps=>
   cases hb:H9 cf d<;>rw[hb]at hc<;>cases hc;all_goals exact ze9 hT hL hd h
  ·next E=>
   cases hb:H9 cf d<;>rw[hb]at hc<;>cases hc;all_goals exact O7 hT hd h
  ·next t x=>
   split at hc
   ·next o hx=>cases hc<;>exact zbt hT hd hx h
   ·cases hc
  ·next ags ts=>
   cases hb:ags.toList.any (fun x=>RR (xW cx σ x))<;>rw[hb]at hc<;>cases hc;all_goals exact zf1 hT hd h
  ·next f ags ts=>
   split at hc
   ·next o hf=>cases hc<;>exact zaK hX hd hf h
   ·next f' hf=>
    split at hc
    ·next s hs=>
     obtain⟨h1,h2⟩:=S7 hs;subst h2;cases hc<;>exact Ny hX hd hf h1 h
    ·cases hc
   ·cases hc
  ·cases hc
theorem Tc{t:Tmp}:put env (some t) (env t)=env:=by
 funext s;by_cases h:s=t
 ·subst h;exact pT
 ·exact aQ (fun e=>h (by cases e;rfl))
theorem c8{t:Tmp}{b:Bool}(hn:ZU cx.rg t=true)(hv:env t= .bool b)(h:uU P fr cx σ env w):uU P fr cx (CZ σ t b) env w:=by
 obtain⟨hB,vs,ha⟩:=h
 have:=aY.rel<|Qb (P:=P) (fr:=fr) (cx:=cx) (σ:=σ) (vs:=vs) (vs':=vs) (env:=env) (w:=w) (d:=some t) (v:=env t) (σ':=CZ σ t b) (l:=[(0,.kb b)]) (Γl:=[]) hB hn rfl (xac _) (fun _ _=>rfl)
  (fun e he o ho=>by obtain rfl:=xah.1 he;cases ho) hB.o1 (fun S w _ e he=>by obtain rfl:=xah.1 he;exact hv) ha
 rwa[Tc]at this
theorem bM{t:Tmp}{x:Bool}{S:Nat->Prop}(h:get cx σ t 0=some (.d .b x))(hl:Lk P vs env S w cx σ t):env t= .bool x:=dM (hl 0 _ h)
theorem Gi{b:Bool}{a c:Option R}(h:ifB b a c=some r):(b=true/\a=some r)\/(b=false/\c=some r):=by
 cases b
 ·exact .inr ⟨rfl,h⟩
 ·exact .inl ⟨rfl,h⟩
theorem zcX{all:List Oper}{o:Oper}{k:Sg->Bool->Option R}(h:aR cx all o σ k=some r)(hR:uU P fr cx σ env w): ∃σ' b,k σ' b=some r/\uU P fr cx σ' env w/\yD all.toArray env o=b:=by
 have ha:=hR;obtain⟨hB,vs,hd⟩:=hR;obtain⟨S,_,hΓ⟩:=hd.ex;unfold aR at h;split at h
 ·next hg=>exact⟨σ,true,h,ha,by unfold yD;rw[hg]⟩
 ·next j want hg=>
  split at h
  ·next o' he=>
   split at h
   ·next t ht=>
    have hc: ∀{v},env t=v->gd all.toArray env j=(match v with| .bool b=>some b|_=>none):=by
     rintro v rfl;unfold gd;simp only[List.getElem?_toArray,he,Option.bind_some,ht];rfl
    have hw:yD all.toArray env o=(gd all.toArray env j==some want):=by unfold yD;rw[hg]
    split at h
    ·next b hb=>
     have hv:env t= .bool b:=ZT hΓ t 0 _ hb;refine⟨σ,_,h,ha,?_⟩;rw[hw,hc hv];cases b<;>cases want<;>rfl
    ·next hb=>
     have hv:env t=undef:=ZT hΓ t 0 _ hb;refine⟨σ,_,h,ha,?_⟩;rw[hw,hc hv];rfl
    ·next x hb=>
     obtain⟨hn,h⟩:=yi h;have hv:env t= .bool x:=bM hb (ZT hΓ t);rcases Gi h with⟨hx,h⟩|⟨hx,h⟩
     ·exact⟨_,_,h,c8 hn (hv.trans (congrArg xel hx)) ha,by rw[hw,hc (hv.trans (congrArg xel hx))];cases want<;>rfl⟩
     ·exact⟨_,_,h,c8 hn (hv.trans (congrArg xel hx)) ha,by rw[hw,hc (hv.trans (congrArg xel hx))];cases want<;>rfl⟩
    ·cases h
   ·cases h
  ·cases h
theorem zgc{o:Oper}{k:Sg->Option R}(h:nG cx o σ k=some r)(hR:uU P fr cx σ env w): ∃σ',k σ'=some r/\uU P fr cx σ' env w:=by
 have ha:=hR;obtain⟨hB,vs,hc⟩:=hR;obtain⟨S,_,hΓ⟩:=hc.ex;unfold nG at h;split at h
 ·next t _ _ _=>
  split at h
  ·next x hb=>
   obtain⟨hn,h⟩:=yi h;have hv:env t= .bool x:=bM hb (ZT hΓ t);rcases Gi h with⟨hx,h⟩|⟨hx,h⟩
   ·exact⟨_,h,c8 hn (hv.trans (congrArg xel hx)) ha⟩
   ·exact⟨_,h,c8 hn (hv.trans (congrArg xel hx)) ha⟩
  ·exact⟨σ,h,ha⟩
 ·exact⟨σ,h,ha⟩
theorem zev{N:Nd}{ops:Array Oper}{o:Oper}{rest:List Oper}{Q:Qs}(hw:yD ops env o=true)(hd:qg N.n o.dst=true)(h:kh P o env w (fun v w'=>WpL P N ops rest Q (put env o.dst v) w')):WpL P N ops (o::rest) Q env w:=by
 intro a h1 h2 h3;subst h3;unfold wpListIn;rw[iq (by rw[WB];exact hw)];refine h.wp fun v w' hk=> ?_;exact hk _ (by rw[Qy];exact h1) (by rw[Yd];exact h2) (Yo (by rw[h1];exact QF hd))
theorem zcB{N:Nd}{ops:Array Oper}{o:Oper}{rest:List Oper}{Q:Qs}(hw:yD ops env o=false)(hd:qg N.n o.dst=true)(h:WpL P N ops rest Q (put env o.dst undef) w):WpL P N ops (o::rest) Q env w:=by
 intro a h1 h2 h3;subst h3;unfold wpListIn;rw[ir (by rw[WB,hw];exact Bool.false_ne_true)];exact⟨fun _ _=>trivial,h _ (by rw[Qy];exact h1) (by rw[Yd];exact h2) (Yo (by rw[h1];exact QF hd))⟩
theorem zga(hd:wo cx d=true)(h:uU P fr cx σ env w):uU P fr cx (σ.put d [(0,.un)]) (put env d undef) w:=by
 obtain⟨hB,vs,ha⟩:=h;exact(Qb (σ':=σ.put d [(0,.un)]) (l:=[(0,.un)]) (v:=undef) (vs:=vs) (vs':=vs) (Γl:=[]) hB hd rfl (xac _) (fun _ _=>rfl) (fun e he o ho=>by obtain rfl:=xah.1 he;cases ho) hB.o1 (fun S w _ e he=>by obtain rfl:=xah.1 he;exact rfl) ha).rel
def cq(cx:Sg)(a b:yP):Prop:= ∀e∈cx.rg,b e.1=a e.1
theorem cq.refl{a:yP}:cq cx a a:=fun _ _=>rfl
theorem cq.trans{a b c:yP}(h:cq cx a b)(k:cq cx b c):cq cx a c:=fun e he=>(k e he).trans (h e he)
theorem cq.put{a b:yP}{v:Value}(hd:wo cx d=true)(h:cq cx a b):cq cx a (put b d v):=fun e he=>by
 rw[aQ fun ht=> ?_]
 ·exact h e he
 ·subst ht;simp only[wo,ZU,xaR]at hd;have:=hd e he;simp at this
theorem nS(hT:zT P cf.tt)(hL:jE P cf.tt)(hC: ∀s∈cf.cs,y5 P s)(hX:rm P cf){N:Nd}{all:List Oper}{Q:Qs}{k:Sg->Option R}{env0:yP}
 (hK: ∀σ',k σ'=some r-> ∀env w,cq cx env0 env->uU P fr cx σ' env w->Q .normal env w): ∀{l:List Oper} {σ:Sg} {env:yP} {w:World},cq cx env0 env->(l.all fun o=>qg N.n o.dst)=true->HK cf cx all l σ k=some r->uU P fr cx σ env w->WpL P N all.toArray l Q env w
 |[],σ,env,w,hS,_,h,hR=>fun a h1 h2 h3=>wpListIn_nil ⟨h1,h2,h3▸hK σ h env w hS hR⟩
 |o::l,σ,env,w,hS,hN,h,hR=>by
  simp only[List.all_cons,xam]at hN;unfold HK at h;obtain⟨hd,h⟩:=yi h;obtain⟨σ1,b,h,hR,hw⟩:=zcX h hR;cases b
  ·exact zcB hw hN.1 (nS hT hL hC hX hK (hS.put hd) hN.2 h (zga hd hR))
  ·obtain⟨σ2,h,hR⟩:=zgc h hR;have hR:=n6 (zfb cf cx σ2 o.dst o.op) hR;obtain⟨σ',h',_,hm⟩:=zdT (P:=P) (d:=o.dst) (ty:=o.type) (pos:=o.pos) (aft:=o.after) (g:=o.guard) hT hL hC hX hd h;obtain⟨hB,vs,ha⟩:=hR;exact zev hw hN.1 ((hm fr vs env w ⟨hB,ha⟩).mono fun v w' hb=>nS hT hL hC hX hK (hS.put hd) hN.2 h' hb.rel)
end
end
section
section
variable{P:Program}{cf:Cf}{fr:Fr}{cx σ σ0:Sg}{vs vs':Nat->Value}{env env0:yP}{w:World}{R:Type}{r:R}
 {d:Option Tmp} {ty t yt:TypeId} {pos:String} {aft:Array Edge} {g:Option (Nat×Bool)} {x y:Operand}
theorem Gg: ∀{a b:List (Nat×Nat×Dv)} {t i:Nat},(∀e∈a,e.1≠t)->ay (a++b) t i=ay b t i
 |[],_,_,_,_=>rfl
 |(t',i',d)::a,b,t,i,h=>by
  show(bif xan t' t && xan i' i then some d else ay (a++b) t i)=_;rw[uD (h (t',i',d) (FS))];simp only[Bool.false_and,cond_false];exact Gg fun e he=>h e (H1 _ he)
theorem Sl{rg:List (Nat×Nat×Dv)}{t t' i:Nat}(h:t'≠t):ay (zcy rg t) t' i=ay rg t' i:=by
 induction rg with
 |nil=>rfl
 |cons e rg ih=>
  obtain⟨s,j,d⟩:=e;unfold zcy at ih⊢;rw[xdh];cases hb:xan s t
  ·simp only[hb,Bool.not_false,if_true];unfold ay;rw[ih]
  ·simp only[hb,xdL,xak,if_false];rw[ih];have:=ya hb;subst this;conv=>rhs;unfold ay
   rw[uD (fun e=>h e.symm)];rfl
theorem Ln{rg:List (Nat×Nat×Dv)}{t t' i:Nat}{l:List (Nat×Dv)}(h:t'≠t):ay (va rg (some t) l) t' i=ay rg t' i:=by
 unfold va;rw[Gg fun e he=>by obtain⟨e',_,rfl⟩:=xai.1 he;exact fun e=>h e.symm];exact Sl h
theorem zcw{t t' i:Nat}{l:List (Nat×Dv)}{n:Nat}{ob:List (Nat×Od)}{dv:Dv}(hn:ZU cx.rg t=true)(h:get cx ⟨n,va σ.rg (some t) l,ob⟩ t' i=some dv):(t'=t/\(i,dv)∈l)\/(t'≠t/\get cx σ t' i=some dv):=by
 by_cases ht:t'=t
 ·subst ht;left;refine⟨rfl,?_⟩;rcases BB h with hm|hm
  ·have hm:(t',i,dv)∈l.map (fun e=>(t',e.1,e.2))++zcy σ.rg t':=hm;rcases Nm.1 hm with hm|hm
   ·obtain⟨e,he,ha⟩:=xai.1 hm;cases ha;exact he
   ·have:=(xbY.1 hm).2;simp at this
  ·simp only[ZU,xaR]at hn;have:=hn _ hm;simp at this
 ·right;refine⟨ht,?_⟩;unfold get at h⊢;rw[show ay (va σ.rg (some t) l) t' i=ay σ.rg t' i from Ln ht]at h;exact h
theorem SP{t:Nat}{l:List (Nat×Dv)}{n:Nat}{ob:List (Nat×Od)}{S:Nat->Prop}(hn:ZU cx.rg t=true){t':Nat}(h1:t'=t-> ∀e∈l,(xG P vs e.2 (env t) e.1).p S w)(h2:t'≠t->Lk P vs env S w cx σ t'):Lk P vs env S w cx ⟨n,va σ.rg (some t) l,ob⟩ t':=by
 intro i dv hd;rcases zcw hn hd with⟨rfl,hm⟩|⟨ha,hg⟩
 ·exact h1 rfl _ hm
 ·exact h2 ha i dv hg
theorem eK{l:List (Nat×Dv)}(hB:Bd cx σ)(hl: ∀e∈l,∀o,wa e.2=some o->o<σ.nx):Bd cx (σ.put d l):=by
 refine⟨hB.o1,hB.o2,fun e he o ho=> ?_,hB.r2⟩;have he:e∈va σ.rg d l:=he;unfold va at he
 cases d with
 |none=>exact hB.r1 e he o ho
 |some t=>
  rcases Nm.1 he with he|he
  ·obtain⟨e',ha,rfl⟩:=xai.1 he;exact hl e' ha o ho
  ·exact hB.r1 e (xbY.1 he).1 o ho
theorem lX{t t':Nat}{x b:Bool}{S:Nat->Prop}(hn:ZU cx.rg t=true)(hb:get cx σ t 0=some (.d .b x))(hx:x=b)(h:Lk P vs env S w cx σ t'):Lk P vs env S w cx (CZ σ t b) t':=by
 refine SP hn (fun e e' he=> ?_) (fun _=>h);subst e;obtain rfl:=xah.1 he;exact(bM hb h).trans (congrArg xel hx)
theorem FI{all:List Oper}{o:Oper}{k:Sg->Bool->Option R}(h:aR cx all o σ k=some r)(hB:Bd cx σ): ∃σ' b,k σ' b=some r/\σ'.ob=σ.ob/\σ'.nx=σ.nx/\Bd cx σ'/\
 (∀(P:Program) vs env S w t,Lk P vs env S w cx σ t->Lk P vs env S w cx σ' t)/\(∀(P:Program) vs env S w,(∀t∈xbz all.toArray o,Lk P vs env S w cx σ t)->yD all.toArray env o=b):=by
 unfold aR at h;split at h
 ·next hg=>exact⟨σ,true,h,rfl,rfl,hB,fun _ _ _ _ _ _ h=>h,fun P vs env S w _=>by unfold yD;rw[hg]⟩
 ·next j want hg=>
  split at h
  ·next o' hd=>
   split at h
   ·next t ht=>
    have ha:t∈xbz all.toArray o:=by
     unfold xbz;rw[hg];simp[hd,ht]
    have hc: ∀{env:yP} {v},env t=v->gd all.toArray env j=(match v with| .bool b=>some b|_=>none):=by
     rintro env v rfl;unfold gd;simp only[List.getElem?_toArray,hd,Option.bind_some,ht];rfl
    have hw: ∀env,yD all.toArray env o=(gd all.toArray env j==some want):=fun env=>by unfold yD;rw[hg]
    split at h
    ·next b hb=>
     refine⟨σ,_,h,rfl,rfl,hB,fun _ _ _ _ _ _ h=>h,fun P vs env S w hl=> ?_⟩;have hv:env t= .bool b:=hl t ha 0 _ hb;rw[hw,hc hv];cases b<;>cases want<;>rfl
    ·next hb=>
     refine⟨σ,_,h,rfl,rfl,hB,fun _ _ _ _ _ _ h=>h,fun P vs env S w hl=> ?_⟩;have hv:env t=undef:=hl t ha 0 _ hb;rw[hw,hc hv];rfl
    ·next x hb=>
     obtain⟨hn,h⟩:=yi h;have hf: ∀b,Bd cx (CZ σ t b):=fun b=>eK (d:=some t) hB fun e he o ho=>by obtain rfl:=xah.1 he;cases ho
     rcases Gi h with⟨hx,h⟩|⟨hx,h⟩
     ·refine⟨_,_,h,rfl,rfl,hf _,fun P vs env S w t' hl=>lX hn hb hx hl,fun P vs env S w hl=> ?_⟩;have hv:=(bM hb (hl t ha)).trans (congrArg xel hx);rw[hw,hc hv];cases want<;>rfl
     ·refine⟨_,_,h,rfl,rfl,hf _,fun P vs env S w t' hl=>lX hn hb hx hl,fun P vs env S w hl=> ?_⟩;have hv:=(bM hb (hl t ha)).trans (congrArg xel hx);rw[hw,hc hv];cases want<;>rfl
    ·cases h
   ·cases h
  ·cases h
theorem LO{o:Oper}{k:Sg->Option R}(h:nG cx o σ k=some r)(hB:Bd cx σ): ∃σ',k σ'=some r/\σ'.ob=σ.ob/\σ'.nx=σ.nx/\Bd cx σ'/\(∀(P:Program) vs env S w t,Lk P vs env S w cx σ t->Lk P vs env S w cx σ' t):=by
 unfold nG at h;split at h
 ·next t _ _ _=>
  split at h
  ·next x hb=>
   obtain⟨hn,h⟩:=yi h;have ha: ∀b,Bd cx (CZ σ t b):=fun b=>eK (d:=some t) hB fun e he o ho=>by obtain rfl:=xah.1 he;cases ho
   rcases Gi h with⟨hx,h⟩|⟨hx,h⟩
   ·exact⟨_,h,rfl,rfl,ha _,fun P vs env S w t' hl=>lX hn hb hx hl⟩
   ·exact⟨_,h,rfl,rfl,ha _,fun P vs env S w t' hl=>lX hn hb hx hl⟩
  ·exact⟨σ,h,rfl,rfl,hB,fun _ _ _ _ _ _ h=>h⟩
 ·exact⟨σ,h,rfl,rfl,hB,fun _ _ _ _ _ _ h=>h⟩
def prL(P:Program)(vs:Nat->Value)(l:List (Nat×Dv)):Pr where
 p S v w:= ∀e∈l,(xG P vs e.2 v e.1).p S w
 keepS h k:=fun e he=>(xG P vs e.2 _ e.1).keep (h e he) k
 sub h k:=fun e he=>(xG P vs e.2 _ e.1).sub (h e he) k
def HH(P:Program)(vs:Nat->Value)(Γ:List FF)(env0:yP)(cx σ:Sg)(K:List (Tmp×Pr)):Prop:= ∀(env:yP) (S:Nat->Prop) (w:World),zA S Γ w-> ∀t,uO K env0 env S w t->Lk P vs env S w cx σ t
def zcT(cx:Sg)(K:List (Tmp×Pr)):Prop:= ∀e∈K,ZU cx.rg e.1=true
theorem ZY{K:List (Tmp×Pr)}{S:Nat->Prop}: ∀{ts:List Tmp},XF K env0 env S w ts-> ∀t∈ts,uO K env0 env S w t
 |[],_,_,h=>absurd h xaa
 |_::_,h,t,ht=>by
  rcases xae.1 ht with rfl|ht
  ·exact h.1
  ·exact ZY h.2 t ht
theorem oZ{Γ:List FF}{K:List (Tmp×Pr)}{Φ:Pr}{l:List (Nat×Dv)}{o:Oper}(hd:wo cx o.dst=true)(h:HH P vs Γ env0 cx σ K)(hΦ: ∀S v w,Φ.p S v w-> ∀e∈l,(xG P vs e.2 v e.1).p S w):HH P vs Γ env0 cx (σ.put o.dst l) (Ux o.dst Φ K):=by
 intro env S w hΓ t ht
 cases ha:o.dst with
 |none=>
  rw[ha]at ht;exact h env S w hΓ t ht
 |some s=>
  rw[ha]at ht hd;refine SP hd (fun e=> ?_) (fun hb=> ?_)
  ·subst e;refine hΦ S _ w ?_;unfold uO Ux at ht;simpa using ht
  ·refine h env S w hΓ t ?_;unfold uO Ux at ht;rw[List.find?_cons,uD (fun e=>hb e.symm)]at ht;exact ht
theorem GG{K:List (Tmp×Pr)}{Φ:Pr}{d:Option Tmp}(hd:wo cx d=true)(h:zcT cx K):zcT cx (Ux d Φ K):=by
 cases d with
 |none=>exact h
 |some s=>
  intro e he;rcases xae.1 he with rfl|he
  ·exact hd
  ·exact h e he
theorem IK(hT:zT P cf.tt)(hL:jE P cf.tt)(hC: ∀s∈cf.cs,y5 P s)(hX:rm P cf){all:List Oper}{k:Sg->Option R}{Γ:List FF}: ∀{os:List Oper} {σ:Sg} {K:List (Tmp×Pr)},Pc cf cx all os σ k=some r->
 HH P vs Γ env0 cx σ K->zcT cx K->σ.ob=σ0.ob->Bd cx σ-> ∃(Φs:List Pr) (σ':Sg),Φs.length=os.length/\Obs P all.toArray (OS vs fr cx σ0.ob) Γ env0 (os.zip Φs) K/\k σ'=some r/\HH P vs Γ env0 cx σ' (Fx (os.zip Φs) K)/\zcT cx (Fx (os.zip Φs) K)/\σ'.ob=σ0.ob/\Bd cx σ'
 |[],σ,K,h,hi,hn,ho,hB=>⟨[],σ,rfl,trivial,h,hi,hn,ho,hB⟩
 |o::os,σ,K,h,hi,hn,ho,hB=>by
  unfold Pc at h;obtain⟨hd,h⟩:=yi h;obtain⟨σ1,b,h,hf,hx,hg,ha,hq⟩:=FI h hB;have hw: ∀{env:yP} {S:Nat->Prop} {w:World},zA S Γ w->XF K env0 env S w (o.looksAt all.toArray)->yD all.toArray env o=b:=fun{env S w} hΓ hh=>hq P vs env S w fun t ht=>hi env S w hΓ t (ZY hh t ht);cases b
  ·have hb:HH P vs Γ env0 cx (σ1.put o.dst [(0,.un)]) (Ux o.dst (prV undef) K):=oZ hd (fun env S w hΓ t ht=>ha P vs env S w t (hi env S w hΓ t ht)) fun S v w hv e he=>by obtain rfl:=xah.1 he;exact hv
   obtain⟨Φs,σ',h1,h2,h3,h4,h5,h6,h7⟩:=IK hT hL hC hX (os:=os) h hb (GG hd hn) (hf.trans ho) (eK hg fun e he p hp=>by obtain rfl:=xah.1 he;cases hp);refine⟨prV undef::Φs,σ',by simp[h1],⟨fun S w env hS hM hΓ hh=>⟨fun hc=> ?_,fun _=>rfl⟩,h2⟩,h3,h4,h5,h6,h7⟩;rw[hw hΓ hh]at hc;cases hc
  ·obtain⟨σ2,h,hr,hy,hs,hj⟩:=LO h hg;obtain⟨l,h,hu⟩:=zaQ (P:=P) (d:=o.dst) (ty:=o.type) (pos:=o.pos) (aft:=o.after) (g:=o.guard) (F:=fr.F) hT hL hC hX h;obtain⟨hl,h⟩:=yi h;have hk: ∀env S w t,Lk P vs env S w cx σ t->Lk P vs env S w cx σ2 t:=fun env S w t ht=>hj P vs env S w t (ha P vs env S w t ht);have hb:HH P vs Γ env0 cx (σ2.put o.dst l) (Ux o.dst (prL P vs l) K):=oZ hd (fun env S w hΓ t ht=>hk env S w t (hi env S w hΓ t ht)) fun S v w hv=>hv;have hm:σ2.ob=σ0.ob:=hr.trans (hf.trans ho);obtain⟨Φs,σ',h1,h2,h3,h4,h5,h6,h7⟩:=IK hT hL hC hX (os:=os) h hb (GG hd hn) hm (eK hs (AD hl));refine⟨prL P vs l::Φs,σ',by simp[h1],⟨fun S w env hS hM hΓ hh=>⟨fun hc=> ?_,fun hc=> ?_⟩,h2⟩,h3,h4,h5,h6,h7⟩
   ·refine hu env w S vs hS (by rw[hm];exact hM) fun t ht=>hk env S w t (hi env S w hΓ t (ZY hh t ?_));exact Nm.2 (.inl ht)
   ·rw[hw hΓ hh]at hc;cases hc
end
end
theorem B6{l:List Oper}{D:Nat->Bool}(hd: ∀j,D j=true-> ∀e∈(zP l j).after,xcq .any e=true->D e.on=true): ∀(f j i:Nat),D j=true->vv l f j i=true->D i=true
 |0,j,i,hj,h=>by
  obtain⟨e,he,hb,rfl⟩:=jx h;exact hd j hj e he hb
 |f+1,j,i,hj,h=>by
  unfold vv at h;rw[xdU]at h;rcases h with h|h
  ·obtain⟨e,he,hb,rfl⟩:=jx h;exact hd j hj e he hb
  ·rw[xeI]at h;obtain⟨e,he,hb⟩:=h;rw[xam]at hb;exact B6 hd f e.on i (hd j hj e (xdf.1 he) hb.1) hb.2
section
def dP(al:Rb->Bool)(rs:List Rb):List (Nat×Od):=rs.filterMap fun r=>if al r=true then some (r.o,r.x)else none
def rn(i:Nat)(rs:List Rb):List (Nat×Od):=rs.filterMap fun r=>if r.c=some i then some (r.o,r.x)else none
def om(i:Nat)(rs:List Rb):List (Nat×Od):=rs.filterMap fun r=>if r.a=some i then some (r.o,r.x)else none
def be(i:Nat)(rs:List Rb):List (Nat×Od):=rs.filterMap fun r=>if i∈r.rd then some (r.o,r.x)else none
theorem Gh{al al':Rb->Bool}{i:Nat}: ∀{rs:List Rb},(∀r∈rs,(r.c=some i/\i∉r.rd/\r.a≠some i/\al r=true/\al' r=false)\/(r.a=some i/\r.c≠some i/\i∉r.rd/\al r=false/\al' r=true)\/
 (i∈r.rd/\r.c≠some i/\r.a≠some i/\al r=true/\al' r=true)\/(r.c≠some i/\r.a≠some i/\i∉r.rd/\al r=al' r))->
 ∃rest,(∀e∈rest,∃r∈rs,e=(r.o,r.x)/\al r=true/\al' r=true)/\(dP al rs).Perm (rn i rs++(be i rs++rest))/\(dP al' rs).Perm (om i rs++(be i rs++rest))
 |[],_=>⟨[],fun e he=>absurd he xaa,xdB _,xdB _⟩
 |r::rs,h=>by
  obtain⟨rest,h1,h2,h3⟩:=Gh (rs:=rs) fun q hq=>h q (H1 _ hq);have ha: ∀e∈rest,∃q∈r::rs,e=(q.o,q.x)/\al q=true/\al' q=true:=fun e he=>by
   obtain⟨q,hq,h⟩:=h1 e he;exact⟨q,H1 _ hq,h⟩
  rcases h r (FS)with⟨a1,a2,a3,a4,a5⟩|⟨a1,a2,a3,a4,a5⟩|⟨a1,a2,a3,a4,a5⟩|⟨a1,a2,a3,a4⟩
  ·refine⟨rest,ha,?_,?_⟩
   ·simp only[dP,rn,be,xaP,a1,a2,a4,if_true,if_false,reduceIte]at h2⊢;exact h2.cons _
   ·simp only[dP,om,be,xaP,a3,a2,a5,if_false,reduceIte,xak]at h3⊢;exact h3
  ·refine⟨rest,ha,?_,?_⟩
   ·simp only[dP,rn,be,xaP,a2,a3,a4,if_false,reduceIte,xak]at h2⊢;exact h2
   ·simp only[dP,om,be,xaP,a1,a3,a5,if_true,if_false,reduceIte]at h3⊢;exact h3.cons _
  ·refine⟨rest,ha,?_,?_⟩
   ·simp only[dP,rn,be,xaP,a1,a2,a4,if_true,if_false,reduceIte]at h2⊢;exact(h2.cons _).trans xcr.symm
   ·simp only[dP,om,be,xaP,a1,a3,a5,if_true,if_false,reduceIte]at h3⊢;exact(h3.cons _).trans xcr.symm
  ·cases hb:al r with
   |false=>
    rw[hb]at a4;refine⟨rest,ha,?_,?_⟩
    ·simp only[dP,rn,be,xaP,a1,a3,hb,if_false,reduceIte,xak]at h2⊢;exact h2
    ·simp only[dP,om,be,xaP,a2,a3,<-a4,if_false,reduceIte,xak]at h3⊢;exact h3
   |true=>
    rw[hb]at a4;refine⟨(r.o,r.x)::rest,fun e he=> ?_,?_,?_⟩
    ·rcases xae.1 he with rfl|he
     ·exact⟨r,FS,rfl,hb,a4.symm⟩
     ·exact ha e he
    ·simp only[dP,rn,be,xaP,a1,a3,hb,if_true,if_false,reduceIte]at h2⊢;rw[<-xal]at h2⊢;exact(h2.cons _).trans xcr.symm
    ·simp only[dP,om,be,xaP,a2,a3,<-a4,if_true,if_false,reduceIte]at h3⊢;rw[<-xal]at h3⊢;exact(h3.cons _).trans xcr.symm
def KV(P:Program)(vs:Nat->Value)(KL:List (Tmp×List (Nat×Dv))):List (Tmp×Pr):=KL.map fun e=>(e.1,prL P vs e.2)
def Br(d:Option Tmp)(l:List (Nat×Dv))(KL:List (Tmp×List (Nat×Dv))):List (Tmp×List (Nat×Dv)):=match d with
 |some t=>(t,l)::KL
 |none=>KL
def iM:List (Oper×List (Nat×Dv))->List (Tmp×List (Nat×Dv))->List (Tmp×List (Nat×Dv))
 |[],K=>K
 |(o,l)::r,K=>iM r (Br o.dst l K)
def OL(P:Program)(vs:Nat->Value)(L:List (Oper×List (Nat×Dv))):List (Oper×Pr):=L.map fun e=>(e.1,prL P vs e.2)
section
variable{P:Program}{vs:Nat->Value}
theorem SV{d:Option Tmp}{l:List (Nat×Dv)}{KL:List (Tmp×List (Nat×Dv))}:KV P vs (Br d l KL)=Ux d (prL P vs l) (KV P vs KL):=by cases d<;>rfl
theorem Sw: ∀(L:List (Oper×List (Nat×Dv))) (KL:List (Tmp×List (Nat×Dv))),KV P vs (iM L KL)=Fx (OL P vs L) (KV P vs KL)
 |[],KL=>rfl
 |(o,l)::r,KL=>by
  show KV P vs (iM r (Br o.dst l KL))=Fx (OL P vs r) (Ux o.dst (prL P vs l) (KV P vs KL));rw[Sw r,SV]
end
def ObB(P:Program)(ops:Array Oper)(we:World)(Se:Nat->Prop)(mE:List MF)(Γ:List FF)(env0:yP)(vs:Nat->Value)(n0:Nat)(rs:List Rb)(KL:List (Tmp×List (Nat×Dv)))(i:Nat)(o:Oper)(L:List (Nat×Dv))(I:Oi):Prop:=
 n0<=I.lo/\I.lo<=I.hi/\(∀e∈L,∀p,wa e.2=some p->p<I.hi/\p∈I.refs)/\(∀e∈om i rs,e.1<I.hi)/\
 ∀vs',(∀p,p<n0->vs' p=vs p)-> ∀(env:yP) (F:List MF) (G:List FF) (w:World),St we Se (MS vs' (rn i rs++be i rs)++(mE++F)) (SD (KV P vs' KL) env0 env (o.looksAt ops)::(Γ++G)) w->
  (yD ops env o=true->kh P o env w (fun v w'=> ∃vs2,(∀p,p<I.lo->vs2 p=vs' p)/\St we Se (MS vs2 (om i rs)++(MS vs' (be i rs)++(mE++F))) (zb4 P vs2 v L++(Γ++G)) w'))/\
  (yD ops env o=false->rn i rs=[]/\om i rs=[]/\ ∀S w,zA S (zb4 P vs' undef L) w)
def zbP(P:Program)(ops:Array Oper)(we:World)(Se:Nat->Prop)(mE:List MF)(Γ:List FF)(env0:yP)(vs:Nat->Value)(n0:Nat)(rs:List Rb):List ((Oper×List (Nat×Dv))×Oi)->Nat->List (Tmp×List (Nat×Dv))->Prop
 |[],_,_=>True
 |((o,L),I)::r,i,KL=>ObB P ops we Se mE Γ env0 vs n0 rs KL i o L I/\zbP P ops we Se mE Γ env0 vs n0 rs r (i+1) (Br o.dst L KL)
theorem nD{P:Program}{ops:Array Oper}{we:World}{Se:Nat->Prop}{mE:List MF}{Γ:List FF}{env0:yP}{vs:Nat->Value}{n0:Nat}{rs:List Rb}: ∀(r:List (Oper×List (Nat×Dv))) (is:List Oi) (n:Nat) (KL:List (Tmp×List (Nat×Dv))) (i:Nat) (x:Oper×List (Nat×Dv)) (I:Oi),
 zbP P ops we Se mE Γ env0 vs n0 rs (r.zip is) n KL->r[i]? =some x->is[i]? =some I->ObB P ops we Se mE Γ env0 vs n0 rs (iM (r.take i) KL) (n+i) x.1 x.2 I
 |[],_,_,_,_,_,_,h,hx,_=>by simp at hx
 |_::_,[],_,_,_,_,_,_,_,h=>by simp at h
 |(o,L)::r,I0::is,n,KL,0,x,I,h,hx,hc=>by simp at hx hc;subst hx;subst hc;exact h.1
 |(o,L)::r,I0::is,n,KL,i+1,x,I,h,hx,hc=>by
  have:=nD r is (n+1) (Br o.dst L KL) i x I h.2 (by simpa using hx) (by simpa using hc);rw[show n+1+i=n+(i+1)by omega]at this;simpa[iM]using this
structure ziJ(l:List Oper)(m:Nat)(rs:List Rb)(is:List Oi):Prop where
 a: ∀r∈rs,∀j,r.a=some j->j<m/\ ∀i∈r.rd,vv l 16 i j=true
 c: ∀r∈rs,∀k,r.c=some k->k<m/\(∀j,r.a=some j->vv l 16 k j=true)/\ ∀i∈r.rd,vv l 16 k i=true
 n: ∀i I,is[i]? =some I-> ∀r∈rs,I.lo<=r.o->r.o<I.hi-> ∃j,r.a=some j/\(j=i\/vv l 16 j i=true)
 f: ∀i I j J,is[i]? =some I->is[j]? =some J-> ∀p∈J.refs,I.lo<=p->p<I.hi->j=i\/vv l 16 j i=true
 uniq: ∀i j t,i<m->j<m->i≠j->(zP l i).dst=some t->(zP l j).dst≠some t
theorem NR{l:List Oper}{m:Nat}{rs:List Rb}{is:List Oi}(h:zbU l m rs is=true):ziJ l m rs is:=by
 unfold zbU at h;rw[xam,xam]at h;obtain⟨⟨hr,hn⟩,hu⟩:=h;have hb: ∀i I,is[i]? =some I->zb9 l i I rs is.zipIdx=true:=fun i I hi=>xaR.1 hn (I,i) (List.mem_zipIdx_iff_getElem?.2 hi);have inb: ∀(I:Oi) (p:Nat),I.lo<=p->p<I.hi->inB I p=true:=fun I p h1 h2=>by
  unfold inB;rw[Nat.ble_eq_true_of_le h1,Bool.true_and];exact Nat.ble_eq_true_of_le h2
 refine⟨fun r ha j hj=> ?_,fun r ha k hk=> ?_,fun i I hi r ha h1 h2=> ?_,fun i I j J hi hj p hp h1 h2=> ?_,fun i j t hi hj hc hd he=> ?_⟩
 ·have:=xaR.1 hr r ha;rw[xam]at this;have:=this.1;rw[hj]at this;simp only[xam,xaR]at this;exact⟨by have:=xbJ this.1;omega,this.2⟩
 ·have:=xaR.1 hr r ha;rw[xam]at this;have:=this.2;rw[hk]at this;simp only[xam,xaR]at this;refine⟨by have:=xbJ this.1.1;omega,fun j hj=> ?_,this.2⟩;have:=this.1.2;rw[hj]at this;exact this
 ·have:=hb i I hi;unfold zb9 at this;rw[xam]at this;have:=xaR.1 this.1 r ha;rw[inb I _ h1 h2,xdL,xee]at this;split at this
  ·next j hj=>
   rw[xdU]at this;exact⟨j,hj,this.imp ya id⟩
  ·cases this
 ·have:=hb i I hi;unfold zb9 at this;rw[xam]at this;have:=xaR.1 this.2 (J,j) (List.mem_zipIdx_iff_getElem?.2 hj);have:=xaR.1 this p hp;rw[inb I _ h1 h2,xdL,xee,xdU]at this;exact this.imp ya id
 ·have:=xaR.1 (xaR.1 hu i (xaS.2 hi)) j (xaS.2 hj);rw[uD hc,xee,hd]at this;simp[he]at this
end
section
section
variable{P:Program}{N:Nd}{we:World}{Se:Nat->Prop}{ms:List MF}{Γ:List FF}{Q:Qs}{env0:yP}{l:List Oper}{m:Nat}
theorem Mw{Lp:List (Oper×Pr)}(hc: ∀i,i<m-> ∃Φ,Lp[i]? =some (zP l i,Φ))(ha: ∀(i:Nat) (x:Oper×Pr),Lp[i]? =some x->i<m/\x.1=zP l i){D:Nat->Bool}{env:yP}{S:Nat->Prop}{w:World}{i:Nat}{t:Tmp}
 (hd: ∀t,(∀i,i<m->D i=true->(zP l i).dst≠some t)->env t=env0 t) (hf:(DJ Lp D env).p S w) (hk:i<=m) (ht: ∀j,j<m->(zP l j).dst=some t->(D j=true↔j<i)):uO (Fx (Lp.take i) []) env0 env S w t:=by
 unfold uO;rcases b7 t (Lp.take i) []with⟨j,y,g1,g2,g3,g4⟩|⟨g1,g2⟩
 ·rw[g4];rw[xbU]at g1;split at g1
  ·next hb=>
   obtain⟨hg,hy⟩:=ha j y g1;exact hf j y t ((ht j hg (hy▸g2)).2 hb) g1 g2
  ·cases g1
 ·rw[g2];simp only[List.find?_nil];refine hd t fun j hj hi he=> ?_;have hb:=(ht j hj he).1 hi;obtain⟨Φ,hΦ⟩:=hc j hj;exact g1 j (zP l j,Φ) (by rw[xbU,iq hb];exact hΦ) he
theorem zaL(hc:Ys l m=true){Lp:List (Oper×Pr)}(hm: ∀i,i<m-> ∃Φ,Lp[i]? =some (zP l i,Φ))(hd: ∀(i:Nat) (x:Oper×Pr),Lp[i]? =some x->i<m/\x.1=zP l i){D:Nat->Bool}{env:yP}{S:Nat->Prop}{w:World}{i:Nat}
 (hp:i<m) (hn:D i=false) (hf: ∀e∈(zP l i).after,xcq .any e=true->D e.on=true) (hg: ∀j,D j=true-> ∀e∈(zP l j).after,xcq .any e=true->D e.on=true)
 (ho: ∀t,(∀i,i<m->D i=true->(zP l i).dst≠some t)->env t=env0 t) (hq:(DJ Lp D env).p S w):XF (Fx (Lp.take i) []) env0 env S w (xbz l.toArray (zP l i)):=by
 obtain⟨h0,h1,h2,h3,hu⟩:=jO hc;have hv:i<l.length:=by omega
 have hi: ∀t,t∈xbz l.toArray (zP l i)-> ∀j,j<m->(zP l j).dst=some t->j≠i->(D j=true↔j<i):=by
  intro t ht j hj hk hr;have h7:=h2 i j t hp hj hr hk (.inl ht);constructor
  ·intro hs;rcases xci j i with h|h
   ·exact h
   ·exfalso;obtain⟨e,he,hb,hl⟩:=jx (h7.2 (by omega));have h8:=hg j hs e he hb;rw[hl,hn]at h8;cases h8
  ·intro ha;obtain⟨e,he,hb,hl⟩:=jx (h7.1 ha);have h8:=hf e he hb;rwa[hl]at h8
 exact Qf _ fun t ht=>Mw hm hd ho hq (by omega) fun j hj hk=>by
  by_cases ha:j=i
  ·subst ha;rw[hn];simp
  ·exact hi t ht j hj hk ha
def cn(D:Nat->Bool)(r:Rb):Bool:=(match r.a with
 |none=>true
 |some j=>D j) && !(match r.c with
 |none=>false
 |some k=>D k)
theorem Ie{D:Nat->Bool}{i:Nat}(ha: ∀e∈(zP l i).after,xcq .any e=true->D e.on=true)(hc: ∀j,D j=true-> ∀e∈(zP l j).after,xcq .any e=true->D e.on=true): ∀(f j:Nat),vv l f i j=true->D j=true
 |0,j,h=>by
  obtain⟨e,he,hb,rfl⟩:=jx h;exact ha e he hb
 |f+1,j,h=>by
  unfold vv at h;rw[xdU]at h;rcases h with h|h
  ·obtain⟨e,he,hb,rfl⟩:=jx h;exact ha e he hb
  ·rw[xeI]at h;obtain⟨e,he,hb⟩:=h;rw[xam]at hb;exact B6 hc f e.on j (ha e (xdf.1 he) hb.1) hb.2
theorem tV{al al':Rb->Bool}: ∀{rs:List Rb},(∀r∈rs,al r=al' r)->dP al rs=dP al' rs
 |[],_=>rfl
 |r::rs,h=>by
  have ih:=tV (rs:=rs) fun q hq=>h q (H1 _ hq);unfold dP at ih⊢;rw[xaP,xaP,h r (FS),ih]
theorem ze2{id:Nat}{mE:List MF}(m:Nat)(Ls:List (List (Nat×Dv)))(is:List Oi)(rs:List Rb)(ts:List Tmp)(vs:Nat->Value)(n0:Nat)(hm:P.follows .mixedOrders=true)(hc:Ys l m=true)(hl:Ls.length=m)(h9:is.length=m)(hx:zbU l m rs is=true)
 (hms:MS vs (dP (fun r=>r.a.isNone) rs)++mE=ms) (hd:(l.all fun o=>qg N.n o.dst)=true) (hF:zbP P l.toArray we Se mE Γ env0 vs n0 rs (((l.take m).zip Ls).zip is) 0 [])
 (fin: ∀(env:yP) (w:World) (vs':Nat->Value),(∀p,p<n0->vs' p=vs p)->St we Se (MS vs' (dP (fun r=>r.c.isNone) rs)++mE) (SD (KV P vs' (iM ((l.take m).zip Ls) [])) env0 env ts::Γ) w->WpL P N l.toArray (l.drop m) Q env w):
 T P N we Se ms Γ (.region id l.toArray true) Q env0:=by
 obtain⟨h0,h1,h2,h3,h3'⟩:=jO hc;have hp:=NR hx;obtain⟨L,hL⟩: ∃L,L=(l.take m).zip Ls:=⟨_,rfl⟩;rw[<-hL]at hF fin;have hLl:L.length=m:=by rw[hL];simp;omega
 have hG: ∀i,i<m-> ∃x,L[i]? =some (zP l i,x):=fun i hi=>by
  have h9:i<l.length:=xap hi h0;have h':i<Ls.length:=hl.symm▸hi;refine⟨Ls[i]'(h'),?_⟩;rw[hL,List.getElem?_zip_eq_some];refine⟨?_,by simp⟩;rw[xbU,iq hi];simp[zP,h9]
 have hH: ∀i x,L[i]? =some x->i<m/\x.1=zP l i:=fun i x hx=>by
  have hi:i<m:=by have:=(xat.1 hx).1;omega
  obtain⟨Φ,h⟩:=hG i hi;rw[h]at hx;cases hx;exact⟨hi,rfl⟩
 have opre: ∀vs' i,i<m-> ∃Φ,(OL P vs' L)[i]? =some (zP l i,Φ):=fun vs' i hi=>by
  obtain⟨x,h⟩:=hG i hi;exact⟨_,by rw[OL,xaB,h];rfl⟩
 have opre': ∀vs' (i:Nat) (x:Oper×Pr),(OL P vs' L)[i]? =some x->i<m/\x.1=zP l i:=fun vs' i x hx=>by
  rw[OL,xaB]at hx
  cases hy:L[i]? with
  |none=>rw[hy]at hx;cases hx
  |some y=>rw[hy]at hx;cases hx;exact hH i y hy
 refine zgq m (fun D env w=>(∀t,(∀i,i<m->D i=true->(zP l i).dst≠some t)->env t=env0 t)/\ ∃vs',(∀p,p<n0->vs' p=vs p)/\St we Se (MS vs' (dP (cn D) rs)++mE) (Γ++[DJ (OL P vs' L) D env]) w) hm hc hd ?_ ?_ ?_
 ·intro w hw;refine⟨fun t _=>rfl,vs,fun _ _=>rfl,?_⟩;have:cn (fun _=>false)=fun r=>r.a.isNone:=by
   funext r;unfold cn;cases r.a<;>cases r.c<;>rfl
  rw[this,hms];exact hw.weak fun S w h=>zA.append h ⟨fun i x t hi=>(by cases hi),trivial⟩
 ·rintro D i env w hR hE hlow hK hv ⟨hD,vs',hS,hT⟩;have hil':i<l.length:=by omega
  obtain⟨x,hxi⟩:=hG i hR;obtain⟨I,hI⟩: ∃I,is[i]? =some I:=⟨_,IR (by omega)⟩;obtain⟨o1,o2,o3,o4,hM⟩:=nD L is 0 [] i _ I hF hxi hI;rw[xaT]at hM o4;have hn: ∀j,vv l 16 i j=true->D j=true:=fun j hj=>Ie hK hv 16 j hj;have hU: ∀k,D k=true->vv l 16 k i≠true:=fun k hk hr=>by
   have:=B6 hv 16 k i hk hr;rw[hE]at this;cases this
  have hW: ∀r∈rs,(r.c=some i/\i∉r.rd/\r.a≠some i/\cn D r=true/\cn (sI D i) r=false)\/(r.a=some i/\r.c≠some i/\i∉r.rd/\cn D r=false/\cn (sI D i) r=true)\/
   (i∈r.rd/\r.c≠some i/\r.a≠some i/\cn D r=true/\cn (sI D i) r=true)\/(r.c≠some i/\r.a≠some i/\i∉r.rd/\cn D r=cn (sI D i) r):=by
   intro r hr;have hA:vv l 16 i i≠true:=fun h=>by have:=hn i h;rw[hE]at this;cases this
   have hq: ∀j,j≠i->sI D i j=D j:=fun j hj=>HD hj;by_cases hf:r.c=some i
   ·obtain⟨c1,c2,c3⟩:=hp.c r hr i hf;have hu:i∉r.rd:=fun h=>hA (c3 i h);have hb:r.a≠some i:=fun h=>hA (c2 i h);refine .inl ⟨hf,hu,hb,?_,?_⟩
    ·unfold cn;rw[hf];simp only[hE,Bool.not_false,Bool.and_true]
     cases ha:r.a with
     |none=>rfl
     |some j=>exact hn j (c2 j ha)
    ·unfold cn;rw[hf];simp only[cc,xdL,Bool.and_false]
   ·by_cases hb:r.a=some i
    ·obtain⟨a1,a2⟩:=hp.a r hr i hb;have hu:i∉r.rd:=fun h=>hA (a2 i h);refine .inr (.inl ⟨hb,hf,hu,?_,?_⟩)
     ·unfold cn;rw[hb];simp only[hE,Bool.false_and]
     ·unfold cn;rw[hb];simp only[cc,Bool.true_and]
      cases hg:r.c with
      |none=>rfl
      |some k=>
       simp only;rw[hq k (fun e=>hf (by rw[hg,e]))]
       cases hY:D k with
       |false=>rfl
       |true=>exact absurd ((hp.c r hr k hg).2.1 i hb) (hU k hY)
    ·have hZ: ∀k,r.c=some k->i∈r.rd->D k=false:=fun k hk hi=>by
      cases hY:D k with
      |false=>rfl
      |true=>exact absurd ((hp.c r hr k hk).2.2 i hi) (hU k hY)
     have hN:cn (sI D i) r=cn D r:=by
      unfold cn
      cases ha:r.a with
      |none=>
       cases hg:r.c with
       |none=>rfl
       |some k=>simp only;rw[hq k (fun e=>hf (by rw[hg,e]))]
      |some j=>
       cases hg:r.c with
       |none=>simp only;rw[hq j (fun e=>hb (by rw[ha,e]))]
       |some k=>simp only;rw[hq j (fun e=>hb (by rw[ha,e])),hq k (fun e=>hf (by rw[hg,e]))]
     by_cases hu:i∈r.rd
     ·have:cn D r=true:=by
       unfold cn;have e1:(match r.c with|none=>false|some k=>D k)=false:=by
        cases hg:r.c with
        |none=>rfl
        |some k=>exact hZ k hg hu
       rw[e1];simp only[Bool.not_false,Bool.and_true]
       cases ha:r.a with
       |none=>rfl
       |some j=>exact hn j ((hp.a r hr j ha).2 i hu)
      exact .inr (.inr (.inl ⟨hu,hf,hb,this,hN.trans this⟩))
     ·exact .inr (.inr (.inr ⟨hf,hb,hu,hN.symm⟩))
  obtain⟨rest,h4,p1,p2⟩:=Gh hW;have hV: ∀S:Nat->Prop,∀w:World,(DJ (OL P vs' L) D env).p S w->XF (KV P vs' (iM (L.take i) [])) env0 env S w (xbz l.toArray (zP l i)):=fun S w h5=>by
   rw[Sw];have:=zaL hc (opre vs') (opre' vs') hR hE hK hv hD h5;rw[show OL P vs' (L.take i)=(OL P vs' L).take i by unfold OL;rw[List.map_take]];exact this
  have hO:St we Se (MS vs' (rn i rs++be i rs)++(mE++MS vs' rest)) (SD (KV P vs' (iM (L.take i) [])) env0 env (xbz l.toArray (zP l i))::(Γ++[DJ (OL P vs' L) D env])) w:=by
   refine St.weak (hT.perm ?_) fun S w h=>⟨hV S w (zA.right (Γ:=Γ) h).1,h⟩;have e1:(MS vs' (dP (cn D) rs)).Perm (MS vs' (rn i rs++be i rs)++MS vs' rest):=by
    unfold MS;rw[<-xaO,xal];exact p1.map _
   refine(xfh mE e1).trans ?_;rw[xal];exact xca _ List.perm_append_comm
  have hM:=hM vs' hS env (MS vs' rest) [DJ (OL P vs' L) D env] w hO;have hX: ∀(v:Value) (t:Tmp),(∀i',i'<m->sI D i i'=true->(zP l i').dst≠some t)->put env (zP l i).dst v t=env0 t:=fun v t ht=>by
   rw[aQ (ht i hR (cc D i))];exact hD t fun j hj hDj=>ht j hj (zdf hDj)
  have close: ∀(v:Value) (w':World) (vs2:Nat->Value),(∀p,p<I.lo->vs2 p=vs' p)->St we Se (MS vs2 (om i rs)++(MS vs' (be i rs)++(mE++MS vs' rest))) (zb4 P vs2 v x++(Γ++[DJ (OL P vs' L) D env])) w'->
   ∃vs3,(∀p,p<n0->vs3 p=vs p)/\St we Se (MS vs3 (dP (cn (sI D i)) rs)++mE) (Γ++[DJ (OL P vs3 L) (sI D i) (put env (zP l i).dst v)]) w':=by
   intro v w' vs2 h6 hs;have e3: ∃vs3:Nat->Value,vs3=fun p=>if I.lo<=p/\p<I.hi then vs2 p else vs' p:=⟨_,rfl⟩;obtain⟨vs3,e3⟩:=e3;have hP: ∀p,p<I.hi->vs3 p=vs2 p:=fun p hp=>by
    rw[e3];simp only;split
    ·rfl
    ·next hc=>exact(h6 p (by omega)).symm
   have hB: ∀p,¬(I.lo<=p/\p<I.hi)->vs3 p=vs' p:=fun p hp=>by
    rw[e3];exact ir hp
   refine⟨vs3,fun p hp=>(hB p (by omega)).trans (hS p hp),?_⟩;have hC: ∀r∈rs,cn D r=true->vs3 r.o=vs' r.o:=fun r hr hC=>hB r.o fun⟨g1,g2⟩=>by
    obtain⟨j,hj,hji⟩:=hp.n i I hI r hr g1 g2;unfold cn at hC;rw[hj,xam]at hC;rcases hji with rfl|hji
    ·have:=hC.1;simp only at this;rw[hE]at this;cases this
    ·exact hU j hC.1 hji
   have m1:MS vs3 (om i rs)=MS vs2 (om i rs):=x8 fun e he=>hP e.1 (o4 e he);have m2:MS vs3 (be i rs)=MS vs' (be i rs):=x8 fun e he=>by
    obtain⟨r,hr,h7⟩:=xfa.1 he;split at h7
    ·next hi=>
     cases h7;rcases hW r hr with⟨a1,a2,_⟩|⟨a1,a2,a3,_⟩|⟨a1,a2,a3,a4,_⟩|⟨a1,a2,a3,_⟩
     ·exact absurd hi a2
     ·exact absurd hi a3
     ·exact hC r hr a4
     ·exact absurd hi a3
    ·cases h7
   have m3:MS vs3 rest=MS vs' rest:=x8 fun e he=>by
    obtain⟨r,hr,rfl,h1,_⟩:=h4 e he;exact hC r hr h1
   have hpm:(MS vs3 (dP (cn (sI D i)) rs)++mE).Perm (MS vs2 (om i rs)++(MS vs' (be i rs)++(mE++MS vs' rest))):=by
    rw[<-m1,<-m2,<-m3];have e1:(MS vs3 (dP (cn (sI D i)) rs)).Perm (MS vs3 (om i rs)++(MS vs3 (be i rs)++MS vs3 rest)):=by
     unfold MS;rw[<-xaO,<-xaO];exact p2.map _
    refine(xfh mE e1).trans ?_;rw[xal,xal];exact xca _ (xca _ List.perm_append_comm)
   refine St.weak (hs.perm hpm.symm) fun S w2 h=> ?_;have hΓ:=zA.right h;refine zA.append (zA.left hΓ) ⟨?_,trivial⟩;have h5:=(zA.right hΓ).1;intro j y t hj hy ht;rw[OL,xaB]at hy
   cases hz:L[j]? with
   |none=>rw[hz]at hy;cases hy
   |some z=>
    rw[hz]at hy;cases hy;obtain⟨hjm,hzo⟩:=hH j z hz;by_cases hji:j=i
    ·subst hji;rw[hxi]at hz;cases hz;have ht':(zP l j).dst=some t:=ht;show(prL P vs3 x).p S (put env (zP l j).dst v t) w2;rw[ht',pT];intro e he;have:=qT.1 (zA.left h) _ (xai.2 ⟨e,he,rfl⟩);have h8:xG P vs3 e.2 v e.1=xG P vs2 e.2 v e.1:=by
      unfold xG;simp only[cG (P:=P) (vs':=vs3) (vs:=vs2) (d:=e.2) fun o ho=>hP o (o3 e he o ho).1]
     rw[h8];exact this
    ·rw[HD hji]at hj;have hne:(zP l i).dst≠some t:=hp.uniq j i t hjm hR hji (hzo▸ht);show(prL P vs3 z.2).p S (put env (zP l i).dst v t) w2;rw[aQ hne];intro e he;have:=h5 j (z.1,prL P vs' z.2) t hj (by rw[OL,xaB,hz];rfl) ht;have:=this e he;obtain⟨J,hJ⟩: ∃J,is[j]? =some J:=⟨_,IR (by omega)⟩;obtain⟨_,_,q3,_,_⟩:=nD L is 0 [] j _ J hF hz hJ;have h8:xG P vs3 e.2 (env t) e.1=xG P vs' e.2 (env t) e.1:=by
      unfold xG;simp only[cG (P:=P) (vs':=vs3) (vs:=vs') (d:=e.2) fun o ho=>hB o fun⟨g1,g2⟩=>by
       rcases hp.f i I j J hI hJ o (q3 e he o ho).2 g1 g2 with h|h
       ·exact hji h
       ·exact hU j hj h]
     rw[h8];exact this
  refine⟨fun hw=>(hM.1 hw).mono fun v w' ⟨vs2,h6,hs⟩=>⟨hX v,close v w' vs2 h6 hs⟩,fun hw=>⟨hX undef,?_⟩⟩;obtain⟨g1,g2,g3⟩:=hM.2 hw;refine close undef w vs' (fun _ _=>rfl) ?_;rw[g1,xbF]at hO;rw[g2];refine St.weak (show St we Se (MS vs' []++(MS vs' (be i rs)++(mE++MS vs' rest))) _ w from hO) fun S w h=>zA.append (g3 S w) h.2
 ·rintro D env w hQ hlow ⟨hD,vs',hS,hT⟩;refine fin env w vs' hS ?_;have hav:dP (cn D) rs=dP (fun r=>r.c.isNone) rs:=by
   refine tV fun r hr=> ?_;have:cn D r=r.c.isNone:=by
    unfold cn;have e1:(match r.a with|none=>true|some j=>D j)=true:=by
     cases ha:r.a with
     |none=>rfl
     |some j=>exact hQ j (hp.a r hr j ha).1
    rw[e1]
    cases hg:r.c with
    |none=>rfl
    |some k=>simp only[hQ k (hp.c r hr k hg).1];rfl
   exact this
  rw[hav]at hT;refine hT.weak fun S w h=>⟨?_,zA.left h⟩;refine Qf ts fun t _=> ?_;have:=Mw (i:=m) (t:=t) (opre vs') (opre' vs') hD (zA.right (Γ:=Γ) h).1 (xac m) fun j hj _=>⟨fun _=>hj,fun _=>hQ j hj⟩;rw[Sw];rwa[xaX (by unfold OL;rw[xaN];omega)]at this
end
end
section
section
variable{P:Program}{cf:Cf}{fr:Fr}{cx σ σ0:Sg}{vs vs':Nat->Value}{env env0:yP}{w:World}{R:Type}{r:R}
theorem KY: ∀{rg:List (Nat×Nat×Dv)} {e:Nat×Nat×Dv},e∈dd rg->e∈rg
 |a::r,e,h=>by
  rcases xae.1 h with rfl|h
  ·exact FS
  ·exact H1 _ (KY (xbY.1 h).1)
theorem A8: ∀{rg:List (Nat×Nat×Dv)} {e:Nat×Nat×Dv},e∈dd rg->ay rg e.1 e.2.1=some e.2.2
 |(t,i,d)::r,e,h=>by
  rcases xae.1 h with rfl|h
  ·unfold ay;simp
  ·obtain⟨h1,h2⟩:=xbY.1 h;unfold ay;simp only[xdm]at h2;rw[h2];exact A8 h1
theorem pA: ∀(ts:List Nat),Vm env (ts.map fun t=>(t,env t))
 |[]=>rfl
 |t::ts=>oW rfl (pA ts)
theorem Bh{rest:yP}: ∀{ts:List Nat} {t:Nat},t∈ts->L (ts.map fun t=>(t,env t)) rest t=env t
 |s::ts,t,h=>by
  simp only[xbR,L];cases hb:xan t s
  ·simp only[cond_false];rcases xae.1 h with rfl|h
   ·simp at hb
   ·exact Bh h
  ·rw[ya hb];rfl
theorem Gz: ∀(l:List Oper) (al:List (Nat×Operand)) {σ:Sg},uU P fr cx σ env w->uU P fr cx (zbf cf cx l al σ) env w
 |[],_,_,h=>h
 |o::r,al,σ,h=>Gz r _ (n6 _ h)
theorem MO{N:Nat}{l:List Oper}(h:(l.all fun o=>qg N o.dst)=true)(m:Nat):((l.drop m).all fun o=>qg N o.dst)=true:=by
 rw[xaR]at h⊢;exact fun o ho=>h o (xeE ho)
theorem aH: ∀(l:List Nat) {σ:Sg},UF P fr cx σ vs env w->UF P fr cx (pV σ l) vs env w
 |[],_,h=>h
 |o::r,_,h=>aH r (Ud h)
theorem FE: ∀(l:List Nat) (σ:Sg),(pV σ l).nx=σ.nx
 |[],_=>rfl
 |o::r,σ=>by
  show(pV (Gq σ o) r).nx=_;rw[FE r];unfold Gq;split<;>rfl
structure RX1(i:Nat)(r r':Rb):Prop where
 a:r'.a=r.a
 o:r'.o=r.o
 x:r'.x=r.x
 c1: ∀k,r.c=some k->r'.c=some k
 c2:r.c=none-> ∀k,r'.c=some k->i<=k
 d1: ∀j∈r.rd,j∈r'.rd
 d2: ∀j∈r'.rd,j∈r.rd\/i<=j
def RX(i:Nat):List Rb->List Rb->Prop
 |[],rs'=> ∀r∈rs',(∃j,r.a=some j/\i<=j)/\(∀k,r.c=some k->i<=k)/\ ∀j∈r.rd,i<=j
 |_::_,[]=>False
 |r::rs,r'::rs'=>RX1 i r r'/\RX i rs rs'
def iZ(i:Nat)(rs:List Rb):Prop:= ∀r∈rs,(∀j,r.a=some j->j<i)/\(∀k,r.c=some k->k<i)/\ ∀j∈r.rd,j<i
theorem RX.refl(i:Nat): ∀rs:List Rb,RX i rs rs
 |[]=>fun r hr=>absurd hr xaa
 |r::rs=>⟨⟨rfl,rfl,rfl,fun _ h=>h,fun h k hk=>(by rw[h]at hk;cases hk),fun _ h=>h,fun _ h=> .inl h⟩,RX.refl i rs⟩
theorem IW{i:Nat}{rs':List Rb}(h:RX (i+1) [] rs'):RX i [] rs'/\rn i rs'=[]/\om i rs'=[]/\be i rs'=[]:=by
 refine⟨fun r hr=> ?_,?_,?_,?_⟩
 ·obtain⟨⟨j,h1,h2⟩,h3,h4⟩:=h r hr;exact⟨⟨j,h1,by omega⟩,fun k hk=>by have:=h3 k hk;omega,fun j hj=>by have:=h4 j hj;omega⟩
 ·refine xdS.2 fun r hr=>ir fun e=> ?_;have:=(h r hr).2.1 i e;omega
 ·refine xdS.2 fun r hr=>ir fun e=> ?_;obtain⟨j,h1,h2⟩:=(h r hr).1;rw[e]at h1;cases h1;omega
 ·refine xdS.2 fun r hr=>ir fun e=> ?_;have:=(h r hr).2.2 i e;omega
theorem RX1.step{i:Nat}{r r1 r':Rb}(h:RX1 (i+1) r1 r')(ha:r1.a=r.a)(ho:r1.o=r.o)(hx:r1.x=r.x)(hc: ∀k,r.c=some k->r1.c=some k)(hb:r.c=none-> ∀k,r1.c=some k->k=i)(hd: ∀j∈r.rd,j∈r1.rd)(he: ∀j∈r1.rd,j∈r.rd\/j=i):RX1 i r r':=
{
 a:=h.a.trans ha
 o:=h.o.trans ho
 x:=h.x.trans hx
 c1:=fun k hk=>h.c1 k (hc k hk)
 c2:=fun hn k hk=>by
  cases h1:r1.c with
  |none=>have:=h.c2 h1 k hk;omega
  |some q=>
   have:=h.c1 q h1;rw[hk]at this;cases this;have:=hb hn k h1;omega
 d1:=fun j hj=>h.d1 j (hd j hj)
 d2:=fun j hj=>by
  rcases h.d2 j hj with h1|h1
  ·rcases he j h1 with h2|h2
   ·exact .inl h2
   ·exact .inr (by omega)
  ·exact .inr (by omega)}
theorem MQ{i:Nat}: ∀{rs rs':List Rb},iZ i rs->RX (i+1) rs rs'->RX i rs rs'/\rn i rs'=[]/\om i rs'=[]/\be i rs'=[]
 |[],rs',_,h=>IW h
 |r::rs,[],_,h=>h.elim
 |r::rs,r'::rs',ho,⟨h1,h2⟩=>by
  obtain⟨g1,g2,g3,g4⟩:=MQ (rs:=rs) (fun q hq=>ho q (H1 _ hq)) h2;obtain⟨q1,q2,q3⟩:=ho r (FS);have e1:r'.c≠some i:=fun e=>by
   cases hc:r.c with
   |none=>have:=h1.c2 hc i e;omega
   |some k=>have:=h1.c1 k hc;rw[e]at this;cases this;have:=q2 i hc;omega
  have e2:r'.a≠some i:=fun e=>by rw[h1.a]at e;have:=q1 i e;omega
  have e3:i∉r'.rd:=fun e=>by
   rcases h1.d2 i e with h|h
   ·have:=q3 i h;omega
   ·omega
  refine⟨⟨h1.step rfl rfl rfl (fun _ h=>h) (fun hn k hk=>(by rw[hn]at hk;cases hk)) (fun _ h=>h) (fun _ h=> .inl h),g1⟩,?_,?_,?_⟩
  ·unfold rn at g2⊢;rw[xaP,ir e1];exact g2
  ·unfold om at g3⊢;rw[xaP,ir e2];exact g3
  ·unfold be at g4⊢;rw[xaP,ir e3];exact g4
theorem Rj{i:Nat}{os:List Nat}: ∀{rs rs':List Rb},iZ i rs->RX (i+1) (Ly i os rs) rs'->RX i rs rs'/\rn i rs'=[]/\om i rs'=[]/\ ∀e∈Uy os rs,e∈be i rs'
 |[],rs',_,h=>by
  obtain⟨g1,g2,g3,_⟩:=IW h;exact⟨g1,g2,g3,fun e he=>absurd he xaa⟩
 |r::rs,[],_,h=>h.elim
 |r::rs,r'::rs',ho,⟨h1,h2⟩=>by
  obtain⟨g1,g2,g3,g4⟩:=Rj (rs:=rs) (fun q hq=>ho q (H1 _ hq)) h2;obtain⟨q1,q2,q3⟩:=ho r (FS);obtain⟨r1,ha⟩: ∃r1,r1=(match r.c,aN os r.o with|none,true=>(⟨r.a,none,i::r.rd,r.o,r.x⟩:Rb)|_,_=>r):=⟨_,rfl⟩;have h1:RX1 (i+1) r1 r':=by rw[ha];exact h1
  have k1:r1.a=r.a/\r1.o=r.o/\r1.x=r.x/\r1.c=r.c/\(∀j∈r.rd,j∈r1.rd)/\(∀j∈r1.rd,j∈r.rd\/j=i):=by
   rw[ha];split
   ·next hc _=>exact⟨rfl,rfl,rfl,hc.symm,fun j hj=>H1 _ hj,fun j hj=>(xae.1 hj).symm⟩
   ·exact⟨rfl,rfl,rfl,rfl,fun _ h=>h,fun _ h=> .inl h⟩
  obtain⟨ka,ko,kx,kc,kd,kd2⟩:=k1;have e1:r'.c≠some i:=fun e=>by
   cases hc:r.c with
   |none=>have:=h1.c2 (kc.trans hc) i e;omega
   |some k=>have:=h1.c1 k (kc.trans hc);rw[e]at this;cases this;have:=q2 i hc;omega
  have e2:r'.a≠some i:=fun e=>by rw[h1.a,ka]at e;have:=q1 i e;omega
  refine⟨⟨h1.step ka ko kx (fun k hk=>kc.trans hk) (fun hn k hk=>by rw[kc,hn]at hk;cases hk) kd kd2,g1⟩,?_,?_,?_⟩
  ·unfold rn at g2⊢;rw[xaP,ir e1];exact g2
  ·unfold om at g3⊢;rw[xaP,ir e2];exact g3
  ·intro e he;unfold Uy at he;unfold be at g4⊢;rw[xaP];split at he
   ·next hc hh=>
    have hi:i∈r'.rd:=h1.d1 i (by rw[ha,hc,hh];exact FS);rw[iq hi];rcases xae.1 he with rfl|he
    ·rw[h1.o,h1.x,ko,kx];exact FS
    ·exact H1 _ (g4 e he)
   ·split
    ·exact g4 e he
    ·exact H1 _ (g4 e he)
theorem PS{i:Nat}: ∀{ob:List (Nat×Od)} {rs':List Rb},RX (i+1) (zcS i ob) rs'->RX i [] rs'/\rn i rs'=[]/\om i rs'=ob/\be i rs'=[]
 |[],rs',h=>IW h
 |e::ob,[],h=>h.elim
 |e::ob,r'::rs',⟨h1,h2⟩=>by
  obtain⟨g1,g2,g3,g4⟩:=PS (ob:=ob) h2;have e1:r'.c≠some i:=fun e=>by have:=h1.c2 rfl i e;omega
  have e2:r'.a=some i:=h1.a;have e3:i∉r'.rd:=fun e=>by
   rcases h1.d2 i e with h|h
   ·cases h
   ·omega
  refine⟨fun r hr=> ?_,?_,?_,?_⟩
  ·rcases xae.1 hr with rfl|hr
   ·exact⟨⟨i,e2,xac _⟩,fun k hk=>by have:=h1.c2 rfl k hk;omega,fun j hj=>by
     rcases h1.d2 j hj with h|h
     ·cases h
     ·omega⟩
   ·exact g1 r hr
  ·unfold rn at g2⊢;rw[xaP,ir e1];exact g2
  ·unfold om at g3⊢;rw[xaP,iq e2,g3,h1.o,h1.x]
  ·unfold be at g4⊢;rw[xaP,ir e3];exact g4
theorem O8{i:Nat}{os:List Nat}{ob:List (Nat×Od)}: ∀{rs rs':List Rb},iZ i rs->RX (i+1) (IA i os rs++zcS i ob) rs'->RX i rs rs'/\rn i rs'=Uy os rs/\om i rs'=ob/\be i rs'=[]
 |[],rs',_,h=>PS h
 |r::rs,[],_,h=>h.elim
 |r::rs,r'::rs',ho,⟨h1,h2⟩=>by
  obtain⟨g1,g2,g3,g4⟩:=O8 (rs:=rs) (fun q hq=>ho q (H1 _ hq)) h2;obtain⟨q1,q2,q3⟩:=ho r (FS);obtain⟨r1,ha⟩: ∃r1,r1=(match r.c,aN os r.o with|none,true=>(⟨r.a,some i,r.rd,r.o,r.x⟩:Rb)|_,_=>r):=⟨_,rfl⟩;have h1:RX1 (i+1) r1 r':=by rw[ha];exact h1
  have k1:r1.a=r.a/\r1.o=r.o/\r1.x=r.x/\r1.rd=r.rd/\(∀k,r.c=some k->r1.c=some k)/\(r.c=none-> ∀k,r1.c=some k->k=i):=by
   rw[ha];split
   ·next hc _=>exact⟨rfl,rfl,rfl,rfl,fun k hk=>(by rw[hc]at hk;cases hk),fun _ k hk=>(by cases hk;rfl)⟩
   ·exact⟨rfl,rfl,rfl,rfl,fun _ h=>h,fun hn k hk=>(by rw[hn]at hk;cases hk)⟩
  obtain⟨ka,ko,kx,kd,kc,kc2⟩:=k1;have e2:r'.a≠some i:=fun e=>by rw[h1.a,ka]at e;have:=q1 i e;omega
  have e3:i∉r'.rd:=fun e=>by
   rcases h1.d2 i e with h|h
   ·rw[kd]at h;have:=q3 i h;omega
   ·omega
  refine⟨⟨h1.step ka ko kx kc kc2 (fun j hj=>by rw[kd];exact hj) (fun j hj=>by rw[kd]at hj;exact .inl hj),g1⟩,?_,?_,?_⟩
  ·have no:r1=r->r'.c≠some i:=fun hb e=>by
    rw[hb]at h1
    cases hc:r.c with
    |none=>have:=h1.c2 hc i e;omega
    |some k=>have:=h1.c1 k hc;rw[e]at this;cases this;have:=q2 i hc;omega
   have hv:Uy os (r::rs)=(match r.c,aN os r.o with|none,true=>(r.o,r.x)::Uy os rs|_,_=>Uy os rs):=rfl;have hd:rn i (r'::rs')=if r'.c=some i then(r'.o,r'.x)::rn i rs' else rn i rs':=by
    unfold rn;rw[xaP];split<;>next h=>split at h<;>simp_all
   rw[hd,hv,g2]
   cases hc:r.c with
   |some k=>
    rw[ir (no (by rw[ha,hc]))]
   |none=>
    cases hh:aN os r.o with
    |false=>rw[ir (no (by rw[ha,hc,hh]))]
    |true=>
     have:r'.c=some i:=h1.c1 i (by rw[ha,hc,hh]);rw[iq this,h1.o,h1.x,ko,kx]
  ·unfold om at g3⊢;rw[xaP,ir e2];exact g3
  ·unfold be at g4⊢;rw[xaP,ir e3];exact g4
theorem zaE{i:Nat}: ∀{ob:List (Nat×Od)} {rs':List Rb},RX i (zhl ob) rs'->dP (fun r=>r.a.isNone) rs'=ob
 |[],rs',h=>xdS.2 fun r hr=>by
  obtain⟨⟨j,h1,_⟩,_⟩:=h r hr;simp[h1]
 |e::ob,[],h=>h.elim
 |e::ob,r'::rs',⟨h1,h2⟩=>by
  have ih:=zaE (ob:=ob) h2;unfold dP at ih⊢;have:r'.a=none:=h1.a;simp only[xaP,this,xeZ,if_true];rw[ih,h1.o,h1.x]
theorem zbX{i:Nat}{os:List Nat}{rs:List Rb}(h:iZ i rs):iZ (i+1) (Ly i os rs):=by
 induction rs with
 |nil=>exact fun r hr=>absurd hr xaa
 |cons r rs ih=>
  intro q hq;unfold Ly at hq;rcases xae.1 hq with rfl|hq
  ·obtain⟨q1,q2,q3⟩:=h r (FS);split
   ·exact⟨fun j hj=>(by have:=q1 j hj;omega),fun k hk=>(by cases hk),fun j hj=>by
     rcases xae.1 hj with rfl|hj
     ·omega
     ·have:=q3 j hj;omega⟩
   ·exact⟨fun j hj=>by have:=q1 j hj;omega,fun k hk=>by have:=q2 k hk;omega,fun j hj=>by have:=q3 j hj;omega⟩
  ·exact ih (fun q hq=>h q (H1 _ hq)) q hq
theorem zbu{i:Nat}{os:List Nat}{rs:List Rb}(h:iZ i rs):iZ (i+1) (IA i os rs):=by
 induction rs with
 |nil=>exact fun r hr=>absurd hr xaa
 |cons r rs ih=>
  intro q hq;unfold IA at hq;rcases xae.1 hq with rfl|hq
  ·obtain⟨q1,q2,q3⟩:=h r (FS);split
   ·exact⟨fun j hj=>by have:=q1 j hj;omega,fun k hk=>by cases hk;omega,fun j hj=>by have:=q3 j hj;omega⟩
   ·exact⟨fun j hj=>by have:=q1 j hj;omega,fun k hk=>by have:=q2 k hk;omega,fun j hj=>by have:=q3 j hj;omega⟩
  ·exact ih (fun q hq=>h q (H1 _ hq)) q hq
theorem zbv{i:Nat}{ob:List (Nat×Od)}{rs:List Rb}(h:iZ (i+1) rs):iZ (i+1) (rs++zcS i ob):=fun q hq=>by
 rcases Nm.1 hq with hq|hq
 ·exact h q hq
 ·obtain⟨e,_,rfl⟩:=xai.1 hq;exact⟨fun j hj=>by cases hj;omega,fun k hk=>(by cases hk),fun j hj=>absurd hj xaa⟩
theorem zfU{i:Nat}{rs:List Rb}(h:iZ i rs):iZ (i+1) rs:=fun r hr=>by
 obtain⟨q1,q2,q3⟩:=h r hr;exact⟨fun j hj=>by have:=q1 j hj;omega,fun k hk=>by have:=q2 k hk;omega,fun j hj=>by have:=q3 j hj;omega⟩
theorem zii{i n:Nat}{os:List Nat}{rs:List Rb}(h: ∀r∈rs,r.o<n): ∀r∈Ly i os rs,r.o<n:=by
 induction rs with
 |nil=>exact fun r hr=>absurd hr xaa
 |cons r rs ih=>
  intro q hq;unfold Ly at hq;rcases xae.1 hq with rfl|hq
  ·have:=h r (FS);split<;>exact this
  ·exact ih (fun q hq=>h q (H1 _ hq)) q hq
theorem zhz{i n:Nat}{os:List Nat}{rs:List Rb}(h: ∀r∈rs,r.o<n): ∀r∈IA i os rs,r.o<n:=by
 induction rs with
 |nil=>exact fun r hr=>absurd hr xaa
 |cons r rs ih=>
  intro q hq;unfold IA at hq;rcases xae.1 hq with rfl|hq
  ·have:=h r (FS);split<;>exact this
  ·exact ih (fun q hq=>h q (H1 _ hq)) q hq
theorem RH{n:Nat}{os:List Nat}: ∀{rs:List Rb},(∀r∈rs,r.o<n)-> ∀e∈Uy os rs,e.1<n
 |[],_,e,he=>absurd he xaa
 |r::rs,h,e,he=>by
  have ih:=RH (os:=os) (rs:=rs) fun q hq=>h q (H1 _ hq);unfold Uy at he;split at he
  ·rcases xae.1 he with rfl|he
   ·exact h r (FS)
   ·exact ih e he
  ·exact ih e he
theorem LN: ∀(rs:List Rb),EA rs=dP (fun r=>r.c.isNone) rs
 |[]=>rfl
 |r::rs=>by
  have ih:=LN rs;unfold dP at ih⊢;unfold EA
  cases hc:r.c with
  |none=>simp only[xaP,hc,xeZ,if_true];rw[ih]
  |some k=>simp only[xaP,hc,Option.isNone_some,xak,if_false];exact ih
theorem Ja{ts:List Tmp}: ∀{rg:List (Nat×Nat×Dv)} {e:Nat×Nat×Dv},e∈Jb ts rg->e∈rg/\aN ts e.1=true
 |(t,i,v)::r,e,h=>by
  unfold Jb at h;split at h
  ·next hh=>
   rcases xae.1 h with rfl|h
   ·exact⟨FS,hh⟩
   ·obtain⟨h1,h2⟩:=Ja h;exact⟨H1 _ h1,h2⟩
  ·obtain⟨h1,h2⟩:=Ja h;exact⟨H1 _ h1,h2⟩
theorem aq{ts:List Tmp}{t i:Nat}(ht:aN ts t=true): ∀{rg:List (Nat×Nat×Dv)},ay (Jb ts rg) t i=ay rg t i
 |[]=>rfl
 |(t',i',v)::r=>by
  unfold Jb;split
  ·unfold ay;rw[aq ht]
  ·next hh=>
   rw[aq ht];conv=>rhs;unfold ay
   rw[uD (fun e=>by rw[e,ht]at hh;cases hh)];rfl
theorem L8{t i:Nat}: ∀{a b:List (Nat×Nat×Dv)},ay (a++b) t i=match ay a t i with|some d=>some d|none=>ay b t i
 |[],b=>rfl
 |(t',i',v)::a,b=>by
  show(bif xan t' t && xan i' i then some v else ay (a++b) t i)=(match(bif xan t' t && xan i' i then some v else ay a t i)with|some d=>some d|none=>ay b t i);cases hb:xan t' t && xan i' i
  ·simp only[cond_false];exact L8
  ·simp only[cond_true]
theorem zc5{l:List Nat}{t:Nat}(h:aN l t=true):t∈l:=by
 unfold aN at h;rw[xeI]at h;obtain⟨s,hs,hb⟩:=h;rw[ya hb];exact hs
theorem fL: ∀{l:List (Nat×Dv)} {e:Nat×Dv} {p:Nat},e∈l->wa e.2=some p->p∈de l
 |(i,v)::r,e,p,h,hp=>by
  unfold de;rcases xae.1 h with rfl|h
  ·have hp:wa v=some p:=hp;rw[hp];exact FS
  ·have:=fL h hp;split
   ·exact H1 _ this
   ·exact this
theorem zaf{d:Option Tmp}{rg:List (Nat×Nat×Dv)}{e:Nat×Dv}(h:e∈iw d rg): ∃t,d=some t/\(t,e.1,e.2)∈rg:=by
 unfold iw at h;split at h
 ·next t=>
  obtain⟨q,hq,he⟩:=xfa.1 h;split at he
  ·next hb=>
   cases he;rw[<-ya hb];exact⟨_,rfl,hq⟩
  ·cases he
 ·cases h
def H0(P:Program)(vs:Nat->Value)(n0:Nat)(Γ:List FF)(env0:yP)(cx σ:Sg)(KL:List (Tmp×List (Nat×Dv))):Prop:= ∀vs',(∀p,p<n0->vs' p=vs p)->HH P vs' Γ env0 cx σ (KV P vs' KL)
def LJ(cx:Sg)(KL:List (Tmp×List (Nat×Dv))):Prop:= ∀e∈KL,ZU cx.rg e.1=true
theorem eF{KL:List (Tmp×List (Nat×Dv))}{l:List (Nat×Dv)}{d:Option Tmp}(hd:wo cx d=true)(h:LJ cx KL):LJ cx (Br d l KL):=by
 cases d with
 |none=>exact h
 |some s=>
  intro e he;rcases xae.1 he with rfl|he
  ·exact hd
  ·exact h e he
theorem mM{n0:Nat}{Γ:List FF}{KL:List (Tmp×List (Nat×Dv))}{l:List (Nat×Dv)}{o:Oper}(hd:wo cx o.dst=true)(h:H0 P vs n0 Γ env0 cx σ KL):H0 P vs n0 Γ env0 cx (σ.put o.dst l) (Br o.dst l KL):=fun vs' hv=>by
 rw[SV];exact oZ hd (h vs' hv) fun S v w hv=>hv
theorem Dk(hT:zT P cf.tt)(hL:jE P cf.tt)(hC: ∀s∈cf.cs,y5 P s)(hX:rm P cf){all:List Oper}{fz:List Nat}{k:Sg->List Rb->List Oi->Option R}{Γ:List FF}{n0:Nat}(hu: ∀e∈cx.ob,e.1<n0): ∀{os:List Oper} {i:Nat} {σ:Sg} {rs:List Rb} {is:List Oi} {KL:List (Tmp×List (Nat×Dv))},
 NI cf cx all fz os i σ rs is k=some r->H0 P vs n0 Γ env0 cx σ KL->LJ cx KL->σ.ob=[]->Bd cx σ->(∀r∈rs,r.o<σ.nx)->iZ i rs->n0<=σ.nx->
 ∃(Ls:List (List (Nat×Dv))) (is':List Oi) (σ':Sg) (rs':List Rb),Ls.length=os.length/\is'.length=os.length/\k σ' rs' (is++is')=some r/\RX i rs rs'/\
  zbP P all.toArray fr.we fr.Se (MS vs cx.ob++fr.F) Γ env0 vs n0 rs' ((os.zip Ls).zip is') i KL/\H0 P vs n0 Γ env0 cx σ' (iM (os.zip Ls) KL)/\LJ cx (iM (os.zip Ls) KL)/\σ'.ob=[]/\Bd cx σ'/\(∀r∈rs',r.o<σ'.nx)/\n0<=σ'.nx
 |[],i,σ,rs,is,KL,h,hi,hn,ho,hB,hr,hO,h0=>⟨[],[],σ,rs,rfl,rfl,by rw[xbN];exact h,RX.refl _ _,trivial,hi,hn,ho,hB,hr,h0⟩
 |o::os,i,σ,rs,is,KL,h,hi,hn,ho,hB,hr,hO,h0=>by
  unfold NI at h;obtain⟨hd,h⟩:=yi h;obtain⟨σ1,b,h,hN,hD,hP,hH,hQ⟩:=FI h hB;have hc: ∀{vs' env S w},(∀p,p<n0->vs' p=vs p)->zA S Γ w->XF (KV P vs' KL) env0 env S w (xbz all.toArray o)-> ∀t∈xbz all.toArray o,Lk P vs' env S w cx σ t:=fun{vs' env S w} hv hΓ hh t ht=>hi vs' hv env S w hΓ t (ZY hh t ht);cases b
  ·have h':H0 P vs n0 Γ env0 cx (σ1.put o.dst [(0,.un)]) (Br o.dst [(0,.un)] KL):=mM hd fun vs' hv env S w hΓ t ht=>hH P vs' env S w t (hi vs' hv env S w hΓ t ht);obtain⟨Ls,is',σ',rs',h1,h2,h3,h4,h5,h6,h7,h8,h9,hy,hz⟩:=Dk hT hL hC hX hu (os:=os) h h' (eF hd hn) (hN.trans ho) (eK hP fun e he p hp=>by obtain rfl:=xah.1 he;cases hp) (fun r hs=>by show r.o<σ1.nx;rw[hD];exact hr r hs) (zfU hO) (by show n0<=σ1.nx;rw[hD];exact h0);obtain⟨g1,g2,g3,g4⟩:=MQ hO h4;refine⟨[(0,.un)]::Ls,⟨σ1.nx,σ1.nx,[]⟩::is',σ',rs',by simp[h1],by simp[h2],by rw[<-h3];simp,g1,⟨⟨(by show n0<=σ1.nx;rw[hD];exact h0),xac _,fun e he p hp=>(by obtain rfl:=xah.1 he;cases hp),fun e he=>(by rw[g3]at he;cases he),fun vs' hv env F G w hb=>⟨fun hw=> ?_,fun _=>⟨g2,g3,fun S w=>⟨rfl,trivial⟩⟩⟩⟩,h5⟩,h6,h7,h8,h9,hy,hz⟩;exfalso;obtain⟨S,_,hΓ⟩:=hb.ex;have:=hQ P vs' env S w fun t ht=>hc hv (zA.left hΓ.2) hΓ.1 t ht;rw[hw]at this;cases this
  ·obtain⟨σ2,h,ho2,hx2,hg,hR⟩:=LO h hP;have hI: ∀vs' env S w t,Lk P vs' env S w cx σ t->Lk P vs' env S w cx σ2 t:=fun vs' env S w t ht=>hR P vs' env S w t (hH P vs' env S w t ht);have hS:H0 P vs n0 Γ env0 cx σ2 KL:=fun vs' hv env S w hΓ t ht=>hI vs' env S w t (hi vs' hv env S w hΓ t ht);have hj:σ2.nx=σ.nx:=hx2.trans hD;have hJ: ∀{vs' env S w},(∀p,p<n0->vs' p=vs p)->zA S Γ w->XF (KV P vs' KL) env0 env S w (xbz all.toArray o)->yD all.toArray env o=true:=fun{vs' env S w} hv hΓ hh=>hQ P vs' env S w fun t ht=>hc hv hΓ hh t ht;generalize hA:xbz all.toArray o=ts at h hc hJ;generalize hos:Kx ts σ2.rg=osn at h;generalize hbz:fzB fz o.dst=bz at h;cases hM:zeb cf cx ⟨σ2.nx,σ2.rg,Uy osn rs⟩ bz o.dst o.op<;>rw[hM]at h
   ·simp only[HV]at h;obtain⟨l,h,hes⟩:=zaQ (P:=P) (d:=o.dst) (ty:=o.type) (pos:=o.pos) (aft:=o.after) (g:=o.guard) (F:=[]) hT hL hC hX h;obtain⟨hl,h⟩:=yi h;obtain⟨Ls,is',σ',rs',h1,h2,h3,h4,h5,h6,h7,h8,h9,hy,hz⟩:=Dk hT hL hC hX hu (os:=os) h (mM hd hS) (eF hd hn) (ho2.trans (hN.trans ho)) (eK hg (AD hl)) (zii fun r hs=>by show r.o<σ2.nx;rw[hj];exact hr r hs) (zbX hO) (by show n0<=σ2.nx;rw[hj];exact h0);obtain⟨g1,g2,g3,g4⟩:=Rj hO h4;refine⟨l::Ls,⟨σ2.nx,σ2.nx,de l⟩::is',σ',rs',by simp[h1],by simp[h2],by rw[<-h3];simp,g1,⟨⟨(by show n0<=σ2.nx;rw[hj];exact h0),xac _,fun e he p hp=>⟨AD hl e he p hp,fL he hp⟩,fun e he=>(by rw[g3]at he;cases he),fun vs' hv env F G w hb=>⟨fun _=> ?_,fun hw=> ?_⟩⟩,h5⟩,h6,h7,h8,h9,hy,hz⟩
    ·rw[g2]at hb;rw[g3];obtain⟨k1,k2,k3,S,k4,k5,k6,k7,k8⟩:=hb;have hE:MS vs' cx.ob=MS vs cx.ob:=x8 fun e he=>hv _ (hu e he);refine(hes env w S vs' k5 (kV.2 fun mf hmf=> ?_) fun t ht=> ?_).mono ?_
     ·rcases Nm.1 hmf with hmf|hmf
      ·obtain⟨e,he,rfl⟩:=xai.1 hmf;exact kV.1 k7 _ (Nm.2 (.inl (xai.2 ⟨e,g4 e he,rfl⟩)))
      ·rw[xbN]at hmf;have hmf:mf∈MS vs' cx.ob:=hmf;rw[hE]at hmf;exact kV.1 k7 _ (Nm.2 (.inr (Nm.2 (.inl (Nm.2 (.inl hmf))))))
     ·have hh:XF (KV P vs' KL) env0 env S w (xbz all.toArray o):=k8.1;exact hI vs' env S w t (hc hv (zA.left k8.2) (hA▸hh) t (hA▸Nm.2 (.inl ht)))
     ·rintro v w' ⟨hx,hf⟩;refine⟨vs',fun _ _=>rfl,k1.trans hx,k2,k3,S,k4,fun k hk=>k5 k (xao hx.size hk),k6,yv.keep hx.to (fun m hm i hi=>hx.block i (yv.lt k7 m hm i hi) trivial) k7,zA.append (qT.2 fun f hf'=> ?_) (zA.keep hx.to k8.2)⟩;obtain⟨e,he,rfl⟩:=xai.1 hf';exact hf e he
    ·exfalso;obtain⟨S,_,hΓ⟩:=hb.ex;have hh:XF (KV P vs' KL) env0 env S w (xbz all.toArray o):=hΓ.1;have:=hJ hv (zA.left hΓ.2) (hA▸hh);rw[hw]at this;cases this
   ·simp only[HV]at h;obtain⟨τ,h,hle,hm⟩:=zdT (P:=P) (cx:=⟨0,[],cx.ob⟩) (d:=o.dst) (ty:=o.type) (pos:=o.pos) (aft:=o.after) (g:=o.guard) hT hL hC hX (by cases o.dst<;>rfl) h;obtain⟨τ2,hτ⟩: ∃τ2,τ2=zht bz o.dst τ:=⟨_,rfl⟩;simp only at h;rw[<-hτ]at h;have hU:τ2.nx=τ.nx:=by rw[hτ];cases bz<;>first|rfl|exact FE _ _
    have hK: ∀{frm:Fr} {vs2:Nat->Value} {env w},UF P frm ⟨0,[],cx.ob⟩ τ vs2 env w->UF P frm ⟨0,[],cx.ob⟩ τ2 vs2 env w:=fun{frm vs2 env w} hq=>by rw[hτ];cases bz<;>first|exact hq|exact aH _ hq
    unfold zdL at h;obtain⟨hl,h⟩:=yi h;rw[xam]at hl;obtain⟨hl,hF⟩:=hl;have hF: ∀e∈τ2.ob,e.1<τ2.nx:=fun e he=>by
     have:=xaR.1 hF e he;have:=xbJ this;omega
    have ha:σ2.nx<=τ2.nx:=by rw[hU];exact hle
    have hi3:H0 P vs n0 Γ env0 cx ⟨τ2.nx,va σ2.rg o.dst (iw o.dst τ2.rg),[]⟩ (Br o.dst (iw o.dst τ2.rg) KL):=fun vs' hv=>mM (l:=iw o.dst τ2.rg) hd hS vs' hv;have hB3:Bd cx ⟨τ2.nx,va σ2.rg o.dst (iw o.dst τ2.rg),[]⟩:=by
     refine⟨fun e he=>absurd he xaa,fun e he=>xap (hg.o2 e he) ha,fun e he p hp=> ?_,fun e he p hp=>xap (hg.r2 e he p hp) ha⟩;have he:e∈va σ2.rg o.dst (iw o.dst τ2.rg):=he;unfold va at he;split at he
     ·rcases Nm.1 he with he|he
      ·obtain⟨e',he',rfl⟩:=xai.1 he;exact AD hl e' he' p hp
      ·exact xap (hg.r1 e (xbY.1 he).1 p hp) ha
     ·exact xap (hg.r1 e he p hp) ha
    obtain⟨Ls,is',σ',rs',h1,h2,h3,h4,h5,h6,h7,h8,h9,hy,hz⟩:=Dk hT hL hC hX hu (os:=os) h hi3 (eF hd hn) rfl hB3 (fun q hq=>by
     rcases Nm.1 hq with hq|hq
     ·exact xap (zhz (n:=σ2.nx) (fun r hs=>by rw[hj];exact hr r hs) q hq) ha
     ·obtain⟨e,he,rfl⟩:=xai.1 hq;exact hF e he) (zbv (zbu hO)) (xao (by rw[hj];exact h0) ha)
    obtain⟨g1,g2,g3,g4⟩:=O8 hO h4;refine⟨iw o.dst τ2.rg::Ls,⟨σ2.nx,τ2.nx,de (iw o.dst τ2.rg)⟩::is',σ',rs',by simp[h1],by simp[h2],by rw[<-h3];simp,g1,⟨⟨(by show n0<=σ2.nx;rw[hj];exact h0),ha,fun e he p hp=>⟨AD hl e he p hp,fL he hp⟩,fun e he=>hF e (by rw[g3]at he;exact he),fun vs' hv env F G w hb=>⟨fun _=> ?_,fun hw=> ?_⟩⟩,h5⟩,h6,h7,h8,h9,hy,hz⟩
    ·rw[g2,g4,xbN]at hb;rw[g3,g4];have hE: ∀{vs2:Nat->Value},(∀p,p<n0->vs2 p=vs p)->MS vs2 cx.ob=MS vs cx.ob:=fun hv=>x8 fun e he=>hv _ (hu e he);have hV:UF P ⟨fr.we,fr.Se,fr.F++F,Γ++G⟩ ⟨0,[],cx.ob⟩ ⟨σ2.nx,dd (Jb ts (σ2.rg++cx.rg)),Uy osn rs⟩ vs' env w:=by
      refine⟨⟨fun e he=>RH (fun r hs=>by rw[hj];exact hr r hs) e he,hg.o2,fun e he p hp=> ?_,fun e he=>absurd he xaa⟩,?_⟩
      ·have:=(Ja (KY he)).1;rcases Nm.1 this with h|h
       ·exact hg.r1 e h p hp
       ·exact hg.r2 e h p hp
      ·show St fr.we fr.Se (MS vs' (Uy osn rs)++(MS vs' cx.ob++(fr.F++F))) (RS P vs' env (dd (Jb ts (σ2.rg++cx.rg)))++([]++(Γ++G))) w;rw[hE hv,<-xal (MS vs cx.ob)];refine hb.weak fun S w hΓ=>zA.append (qT.2 fun f hf=> ?_) hΓ.2;obtain⟨e,he,rfl⟩:=xai.1 hf;have hh:XF (KV P vs' KL) env0 env S w (xbz all.toArray o):=hΓ.1;have hW:=(Ja (KY he)).2;have hY:=A8 he;rw[aq hW,L8]at hY;exact hI vs' env S w e.1 (hc hv (zA.left hΓ.2) (hA▸hh) e.1 (zc5 hW)) e.2.1 e.2.2 hY
     refine(hm _ vs' env w hV).mono ?_;rintro v w' ⟨vs2,hZ,hrv⟩;obtain⟨_,hG⟩:=hK hrv;refine⟨vs2,hZ,?_⟩;have hG:St fr.we fr.Se (MS vs2 τ2.ob++(MS vs2 cx.ob++(fr.F++F))) (RS P vs2 (put env o.dst v) τ2.rg++([]++(Γ++G))) w':=hG;rw[hE (vs2:=vs2) (fun p hp=>(hZ p (xap hp (by show n0<=σ2.nx;rw[hj];exact h0))).trans (hv p hp)),<-xal (MS vs cx.ob)]at hG;refine St.weak (show St fr.we fr.Se (MS vs2 τ2.ob++(MS vs' []++(MS vs cx.ob++fr.F++F))) _ w' from hG) fun S w hΓ=>zA.append (qT.2 fun f hf=> ?_) (zA.right hΓ);obtain⟨e,he,rfl⟩:=xai.1 hf;obtain⟨t,ht,hm'⟩:=zaf he;have:=Ji (zA.left hΓ) hm';rw[ht,pT]at this;exact this
    ·exfalso;obtain⟨S,_,hΓ⟩:=hb.ex;have hh:XF (KV P vs' KL) env0 env S w (xbz all.toArray o):=hΓ.1;have:=hJ hv (zA.left hΓ.2) (hA▸hh);rw[hw]at this;cases this
theorem zeg(hm:P.follows .mixedOrders=true)(hT:zT P cf.tt)(hL:jE P cf.tt)(hC: ∀s∈cf.cs,y5 P s)(hX:rm P cf){N:Nd}{id m:Nat}{l:List Oper}{Q:Qs}{k:Sg->Option R}
 (hK: ∀σ',k σ'=some r-> ∀env' w,cq cx env env'->uU P fr cx σ' env' w->Q .normal env' w) (hN:(l.all fun o=>qg N.n o.dst)=true) (hc:Ys l m=true) (h:zfH cf cx id l m σ k=some r) (hR:uU P fr cx σ env w):Wp P N (.region id l.toArray true) Q env w:=by
 unfold zfH at h;simp only at h;obtain⟨hA,vs,hs⟩:=hR;obtain⟨ha,hu⟩:=aH (Kx (zeS cf id) σ.rg) ⟨hA,hs⟩;generalize pV σ (Kx (zeS cf id) σ.rg)=σ0 at h ha hu;have hM:m<=l.length:=(jO hc).1
 obtain⟨Ls,is,σ',rs,h1,h2,h3,h4,h5,hw,hy,hO,hp,hB,hP⟩:=Dk (P:=P) (fr:=fr) (vs:=vs) (env0:=env) (Γ:=GS P vs env fr cx σ0) (n0:=σ0.nx) (KL:=[]) hT hL hC hX ha.o2 h
  (fun vs' hv env' S w' hΓ t ht i dv hd=>by
   have ht:env' t=env t:=ht;rw[ht];have hg:get cx σ0 t i=some dv:=hd;have:=ZT hΓ t i dv hg;have hD:xG P vs' dv (env t) i=xG P vs dv (env t) i:=by
    unfold xG;simp only[cG (P:=P) (vs':=vs') (vs:=vs) (d:=dv) fun o ho=>hv o (by
     rcases BB hg with hm|hm
     ·exact ha.r1 _ hm o ho
     ·exact ha.r2 _ hm o ho)]
   rw[hD];exact this) (fun _ he=>absurd he xaa) rfl ⟨fun _ he=>absurd he xaa,ha.o2,ha.r1,ha.r2⟩ (fun q hq=>by
    obtain⟨e,he,rfl⟩:=xai.1 hq;exact ha.o1 e he) (fun q hq=>by
    obtain⟨e,he,rfl⟩:=xai.1 hq;exact⟨fun j hj=>(by cases hj),fun j hj=>(by cases hj),fun j hj=>absurd hj xaa⟩) (xac _)
 simp only[xbF]at h3;obtain⟨hx,h3⟩:=yi h3;have hE:=zaE h4;refine ze2 (we:=fr.we) (Se:=fr.Se) (ms:=OS vs fr cx σ0.ob) (mE:=MS vs cx.ob++fr.F) m Ls is rs (σ'.rg.map (·.1)++cx.rg.map (·.1)) vs σ0.nx hm hc (by rw[h1,xay];omega) (by rw[h2,xay];omega) hx (by rw[hE]) hN h5 ?_ w hu;intro env1 w1 vs' hr hl;have hn:EA rs=dP (fun r=>r.c.isNone) rs:=LN rs;have hz: ∀e∈EA rs,e.1<σ'.nx:=fun e he=>by
  rw[hn]at he;obtain⟨q,hq,he⟩:=xfa.1 he;split at he
  ·cases he;exact hB q hq
  ·cases he
 obtain⟨S1,_,hF⟩:=hl.ex;have hG:cq cx env env1:=fun e0 hi=>by
  have h1:=ZY hF.1 e0.1 (Nm.2 (.inr (xai.2 ⟨e0,hi,rfl⟩)));unfold uO at h1;have hf:(KV P vs' (iM ((l.take m).zip Ls) [])).find? (fun x=>xan x.1 e0.1)=none:=by
   rw[List.find?_eq_none];intro e he hb;obtain⟨e1,hH,rfl⟩:=xai.1 he;have:=hy e1 hH;simp only[ZU,xaR]at this;have:=this e0 hi;rw[ya hb]at this;simp at this
  rw[hf]at h1;exact h1
 refine nS (P:=P) (fr:=fr) hT hL hC hX hK hG (MO hN m) h3 ⟨⟨hz,hp.o2,fun e he=>hp.r1 e (KY he),hp.r2⟩,vs',?_⟩;show St fr.we fr.Se (MS vs' (EA rs)++(MS vs' cx.ob++fr.F)) (RS P vs' env1 (dd σ'.rg)++(RS P vs' env1 cx.rg++fr.G)) w1;rw[hn,x8 (ob:=cx.ob) fun e he=>hr _ (ha.o2 e he)];refine hl.weak fun S w2 hΓ=> ?_;have hk:=ZY hΓ.1;have hI: ∀t∈cx.rg.map (·.1),env1 t=env t:=fun t ht=>by
  have h1:=hk t (Nm.2 (.inr ht));unfold uO at h1;have hf:(KV P vs' (iM ((l.take m).zip Ls) [])).find? (fun x=>xan x.1 t)=none:=by
   rw[List.find?_eq_none];intro e he hb;obtain⟨e0,hi,rfl⟩:=xai.1 he;have:=hy e0 hi;obtain⟨e',hJ,rfl⟩:=xai.1 ht;simp only[ZU,xaR]at this;have:=this e' hJ;rw[ya hb]at this;simp at this
  rw[hf]at h1;exact h1
 refine zA.append ?_ (zA.append ?_ (zA.right (zA.right hΓ.2)))
 ·refine qT.2 fun f hf=> ?_;obtain⟨e,he,rfl⟩:=xai.1 hf;have hg:get cx σ' e.1 e.2.1=some e.2.2:=by unfold get;rw[A8 he]
  exact hw vs' hr env1 S w2 hΓ.2 e.1 (hk e.1 (Nm.2 (.inl (xai.2 ⟨e,KY he,rfl⟩)))) _ _ hg
 ·rw[qB (vs:=vs) (env:=env) (fun e he o ho=>hr o (ha.r2 e he o ho)) fun e he=>hI e.1 (xai.2 ⟨e,he,rfl⟩)];exact zA.left (zA.right hΓ.2)
theorem TM(hm:P.follows .mixedOrders=true)(hT:zT P cf.tt)(hL:jE P cf.tt)(hC: ∀s∈cf.cs,y5 P s)(hX:rm P cf){N:Nd}{id:Nat}{l:List Oper}{draw:Bool}{Q:Qs}{k:Sg->Option R}
 (hK: ∀σ',k σ'=some r-> ∀env' w,cq cx env env'->uU P fr cx σ' env' w->Q .normal env' w) (hN:(l.all fun o=>qg N.n o.dst)=true) (h:zeW cf cx id l draw σ k=some r) (hR:uU P fr cx σ env w):Wp P N (.region id l.toArray draw) Q env w:=by
 unfold zeW at h;cases draw
 ·exact fun a h1 h2 h3=>wpIn_region_lit (nS hT hL hC hX hK cq.refl hN h hR a h1 h2 h3)
 ·simp only[HV]at h;obtain⟨hc,h⟩:=yi h;generalize H7 l l.length l.length=m at hc h;cases hw:zil cf id<;>rw[hw]at h
  case true=>exact zeg hm hT hL hC hX hK hN hc h hR
  simp only at h;have hi:=Gz (cf:=cf) (l.take m) [] hR;generalize zbf cf cx (l.take m) [] σ=σ0 at h hi;obtain⟨hB,vs,hr⟩:=hi;have hy:m<=l.length:=(jO hc).1
  obtain⟨Φs,σ',hl,hj,h,hn,hs,hu,ha⟩:=IK (P:=P) (fr:=fr) (vs:=vs) (env0:=env) (σ0:=σ0) (Γ:=GS P vs env fr cx σ0) (K:=[]) hT hL hC hX h
   (fun env' S w' hΓ t ht i dv hd=>by
    have ht:env' t=env t:=ht;rw[ht];exact ZT hΓ t i dv hd) (fun _ he=>absurd he xaa) rfl hB
  refine Hg (we:=fr.we) (Se:=fr.Se) (ms:=OS vs fr cx σ0.ob) (Γ:=GS P vs env fr cx σ0) m Φs (σ'.rg.map (·.1)++cx.rg.map (·.1)) hm hc (by rw[hl,xay];omega) hN hj ?_ w hr;intro S w1 env1 hS hΓ hh;have hk:=ZY hh;have ho: ∀t∈cx.rg.map (·.1),env1 t=env t:=fun t ht=>by
   have h1:=hk t (Nm.2 (.inr ht));unfold uO at h1;have hf:(Fx ((l.take m).zip Φs) []).find? (fun x=>xan x.1 t)=none:=by
    rw[List.find?_eq_none];intro e he hb;have:=hs e he;obtain⟨e',hv,rfl⟩:=xai.1 ht;simp only[ZU,xaR]at this;have:=this e' hv;rw[ya hb]at this;simp at this
   rw[hf]at h1;exact h1
  have hd:zA S (RS P vs env1 (dd σ'.rg)) w1:=qT.2 fun f hf=>by
   obtain⟨e,he,rfl⟩:=xai.1 hf;have hg:get cx σ' e.1 e.2.1=some e.2.2:=by unfold get;rw[A8 he]
   exact hn env1 S w1 hΓ e.1 (hk e.1 (Nm.2 (.inl (xai.2 ⟨e,KY he,rfl⟩)))) _ _ hg
  have hx:zA S (RS P vs env1 cx.rg) w1:=by
   rw[qB (env:=env) (fun _ _ _ _=>rfl) fun e he=>ho e.1 (xai.2 ⟨e,he,rfl⟩)];exact zA.left (zA.right hΓ)
  refine⟨GS P vs env1 fr cx ⟨σ'.nx,dd σ'.rg,σ'.ob⟩,(σ'.rg.map (·.1)++cx.rg.map (·.1)).map fun t=>(t,env1 t),zA.append hd (zA.append hx (zA.right (zA.right hΓ))),pA _,fun rest w2 hp=> ?_⟩;refine nS (P:=P) (fr:=fr) hT hL hC hX hK (fun e0 hq=>(Bh (Nm.2 (.inr (xai.2 ⟨e0,hq,rfl⟩)))).trans (ho e0.1 (xai.2 ⟨e0,hq,rfl⟩))) (MO hN m) h ⟨⟨ha.o1,ha.o2,fun e he=>ha.r1 e (KY he),ha.r2⟩,vs,?_⟩;have e1:RS P vs (L ((σ'.rg.map (·.1)++cx.rg.map (·.1)).map fun t=>(t,env1 t)) rest) (dd σ'.rg)=RS P vs env1 (dd σ'.rg):=qB (fun _ _ _ _=>rfl) fun e he=>Bh (Nm.2 (.inl (xai.2 ⟨e,KY he,rfl⟩)));have e2:RS P vs (L ((σ'.rg.map (·.1)++cx.rg.map (·.1)).map fun t=>(t,env1 t)) rest) cx.rg=RS P vs env1 cx.rg:=qB (fun _ _ _ _=>rfl) fun e he=>Bh (Nm.2 (.inr (xai.2 ⟨e,he,rfl⟩)));show St _ _ (OS vs fr cx σ'.ob) (RS P vs _ (dd σ'.rg)++(RS P vs _ cx.rg++fr.G)) w2;rw[e1,e2,hu];exact hp
end
end
section
section
variable{P:Program}{cf:Cf}{fr:Fr}{cx kp σ:Sg}{vs vs':Nat->Value}{env env0:yP}{w:World}{R:Type}{r:R}
def zdl(u:Value)(r:Nat):Option Value:=(vb u)[r]?
def tfF:(f:TF)->f.D->(Nat->Value)->Value->Value->FF
 | .d t,x,_,_,v=>fV t.rep x v
 | .q t,x,_,_,v=>fP t.rep x v
 | .own _ _,_,_,u,v=>nM (v=u)
 | .var _ _,_,_,u,v=>nM (v=u/\ ∃b,v= .pointer (some ⟨b,0,none⟩))
 | .mat _ _ _,_,_,u,v=>nM (v=yY u)
 | .matv _ _ _,x,_,u,v=>nM (Dw (yY u) x.2.1 x.2.2 v)
 | .row j,r,U,_,v=>nM (zdl (U j) r=some v)
 | .view j,r,U,_,v=>nM (Dw (yY (U j)) r.1 r.2 v)
 | .bo _ _ _,_,_,u,v=>nM (v=yY u)
def IH:(f:TF)->f.D->Value->List MF
 | .own t E,xs,u=>[mO t.rep E u xs]
 | .var t E,z,u=>[mP t.rep.c E u z]
 | .mat t E E1,x,u=>[gn t.rep E E1 u x.1 x.2]
 | .matv t E E1,x,u=>[gn t.rep E E1 u x.1.1 x.1.2]
 | .bo t E E0,xs,u=>[mBo t.rep E E0 u xs]
 |_,_,_=>[]
def dsF(U:Nat->Value)(env:yP):(l:List (Nat×TF))->Wg l->Nat->List FF
 |[],_,_=>[]
 |[a],x,i=>[tfF a.2 x U (U i) (env a.1)]
 |a::b::r,x,i=>tfF a.2 x.1 U (U i) (env a.1)::dsF U env (b::r) x.2 (i+1)
def Xj(U:Nat->Value):(l:List (Nat×TF))->Wg l->Nat->List MF
 |[],_,_=>[]
 |[a],x,i=>IH a.2 x (U i)
 |a::b::r,x,i=>IH a.2 x.1 (U i)++Xj U (b::r) x.2 (i+1)
def YM(f:TF)(dv:Option Dv)(vs:Nat->Value)(v:Value):Value:=match f,dv with
 | .mat _ _ _,some .nil=>KH v []
 | .mat _ _ _,some (.mw o)=>vs o
 | .matv _ _ _,some (.mv o _ _)=>vs o
 | .bo _ _ _,some (.mw o)=>vs o
 |_,_=>v
def Qu(cx σ:Sg)(ds:List (Nat×TF))(vs:Nat->Value)(env:yP)(j:Nat):Value:=match ds[j]? with
 |some (t,f)=>YM f (get cx σ t 0) vs (env t)
 |none=>undef
theorem St.mid{we:World}{Se:Nat->Prop}{A B:List MF}{m:MF}{Γ:List FF}{w:World}(h:St we Se (A++m::B) Γ w):St we Se (m::(A++B)) Γ w:=St.perm h xcr
theorem Dq: ∀{os l:List Nat},pX os l=true-> ∀o∈l,aN os o=false
 |os,o::r,h,p,hp=>by
  simp only[pX,xam,xdm]at h;rcases xae.1 hp with rfl|hp
  ·exact h.1
  ·exact Dq h.2 p hp
theorem Hj{ds:List (Nat×TF)}{t:Nat}{f:TF}{k:f.D->List Nat->Option R}(h:aA cx σ ds t f k=some r): ∃x os,k x os=some r/\(∀j,pj f=some j->j<ds.length)/\
 (∀(P:Program) vs env S w,(∀t,Lk P vs env S w cx σ t)->(tfF f x (Qu cx σ ds vs env) (YM f (get cx σ t 0) vs (env t)) (env t)).p S w)/\
 (∀(P:Program) vs (fr:Fr) env (A:List MF) (Γ:List FF) w (os':List Nat),(∀S w,zA S Γ w->Lk P vs env S w cx σ t)->(∀o∈os,aN os' o=false)->St fr.we fr.Se (A++OS vs fr cx (w6 σ.ob os')) Γ w->
  St fr.we fr.Se (IH f x (YM f (get cx σ t 0) vs (env t))++(A++OS vs fr cx (w6 σ.ob (os++os')))) Γ w):=by
 have nr: ∀{f:TF},(∀j,pj f≠some j)-> ∀j,pj f=some j->j<ds.length:=fun h j e=>absurd e (h j)
 cases f with
 |d s=>
  obtain⟨y,h,hy⟩:=Ru h;refine⟨y,[],h,nr (fun j e=>by cases e),fun P vs env S w hl=> ?_,fun P vs fr env A Γ w os' _ _ h=>h⟩
  cases hg:get cx σ t 0 with
  |none=>rename_i h0;simp only[aA]at h0;rw[hg]at h0;cases h0
  |some v=>exact hy P vs S w v _ hg (hl t 0 v hg)
 |q s=>
  simp only[aA]at h;split at h
  ·next s' x hg=>
   obtain⟨e,h⟩:=ym h;subst e;exact⟨_,[],h,nr (fun j e=>by cases e),fun P vs env S w hl=>hl t 0 _ hg,fun P vs fr env A Γ w os' _ _ h=>h⟩
  ·cases h
 |own s E=>
  simp only[aA]at h;split at h
  ·next o hg=>
   split at h
   ·next s' E' xs ho=>
    obtain⟨hE,h1⟩:=yi h;have hE:=ya hE;subst hE;obtain⟨e,h2⟩:=ym h1;cases e;refine⟨_,[o],h2,nr (fun j e=>by cases e),fun _ _ _ _ _ _=>by simp only[hg,YM];exact rfl,fun P vs fr env A Γ w os' hl hn ha=> ?_⟩;have hp:=kF (vs:=vs) (fr:=fr) (cx:=cx) ((jJ (hn o (FS))).trans ho);have h3:=St.mid (St.perm ha (xca _ hp));obtain⟨S,_,hΓ⟩:=ha.ex;have hv:env t=vs o:=hl S w hΓ 0 _ hg;simp only[hg,YM];show St _ _ (mO s.rep E (env t) _::(A++_)) _ _;rw[hv];exact h3
   ·cases h
  ·next hg=>
   refine⟨_,[],h,nr (fun j e=>by cases e),fun _ _ _ _ _ _=>by simp only[hg,YM];exact rfl,fun P vs fr env A Γ w os' hl hn ha=> ?_⟩;obtain⟨S,_,hΓ⟩:=ha.ex;have hv:env t= .slice none 0 0:=hl S w hΓ 0 _ hg;simp only[hg,YM];show St _ _ (mO s.rep E (env t) _::(A++_)) _ _;rw[hv];exact ha.nilO
  ·cases h
 |var s E=>
  simp only[aA]at h;split at h
  ·next o s0 hg=>
   split at h
   ·next s' E' z ho=>
    obtain⟨hE,h1⟩:=yi h;have hE:=ya hE;subst hE;obtain⟨e,h2⟩:=ym h1;subst e;refine⟨_,[o],h2,nr (fun j e=>by cases e),fun P vs env S w hl=> ?_,fun P vs fr env A Γ w os' hl hn ha=> ?_⟩
    ·obtain⟨h3,b,h4⟩:=hl t 0 _ hg;simp only[hg,YM];exact⟨rfl,b,h3.trans h4⟩
    ·have hp:=kF (vs:=vs) (fr:=fr) (cx:=cx) ((jJ (hn o (FS))).trans ho);have h3:=St.mid (St.perm ha (xca _ hp));obtain⟨S,_,hΓ⟩:=ha.ex;have hv:env t=vs o:=(hl S w hΓ 0 _ hg).1;simp only[hg,YM];show St _ _ (mP s'.rep.c E (env t) _::(A++_)) _ _;rw[hv];exact h3
   ·cases h
  ·cases h
 |mat s E E1=>
  simp only[aA]at h;split at h
  ·next o hg=>
   split at h
   ·next s' E' F' xss ix ho=>
    obtain⟨hE,h1⟩:=yi h;rw[xam]at hE;have hc:=ya hE.1;have hd:=ya hE.2;subst hc;subst hd;obtain⟨e,h2⟩:=ym h1;cases e;refine⟨_,[o],h2,nr (fun j e=>by cases e),fun P vs env S w hl=> ?_,fun P vs fr env A Γ w os' hl hn ha=> ?_⟩
    ·simp only[hg,YM];exact hl t 0 _ hg
    ·have hp:=kF (vs:=vs) (fr:=fr) (cx:=cx) ((jJ (hn o (FS))).trans ho);simp only[hg,YM];have h3:=St.mid (St.perm ha (xca _ hp));exact h3
   ·cases h
  ·next hg=>
   refine⟨_,[],h,nr (fun j e=>by cases e),fun P vs env S w hl=>by simp only[hg,YM];exact rfl,fun P vs fr env A Γ w os' hl hn ha=> ?_⟩;obtain⟨S,_,hΓ⟩:=ha.ex;have hv:env t= .slice none 0 0:=hl S w hΓ 0 _ hg;simp only[hg,YM];refine EH (u:=KH (env t) []) rfl ?_;show St _ _ (mO (u4 []) E (env t) []::(A++_)) _ _;rw[hv];exact ha.nilO
  ·cases h
 |matv s E E1=>
  simp only[aA]at h;split at h
  ·next o lo n hg=>
   split at h
   ·next s' E' F' xss ix ho=>
    obtain⟨hE,h1⟩:=yi h;rw[xam]at hE;have hc:=ya hE.1;have hd:=ya hE.2;subst hc;subst hd;obtain⟨e,h2⟩:=ym h1;cases e;refine⟨_,[o],h2,nr (fun j e=>by cases e),fun P vs env S w hl=> ?_,fun P vs fr env A Γ w os' hl hn ha=> ?_⟩
    ·simp only[hg,YM];exact hl t 0 _ hg
    ·have hp:=kF (vs:=vs) (fr:=fr) (cx:=cx) ((jJ (hn o (FS))).trans ho);simp only[hg,YM];have h3:=St.mid (St.perm ha (xca _ hp));exact h3
   ·cases h
  ·cases h
 |row j=>
  simp only[aA]at h
  have fin: ∀(o o' p:Nat),j<ds.length->get cx σ t 0=some (.rw o p)->xan o o'=true->k p []=some r->(∀vs env,Qu cx σ ds vs env j=vs o')-> ∃(x:Nat) (os:List Nat),k x os=some r/\(∀i,pj (TF.row j)=some i->i<ds.length)/\
   (∀(P:Program) vs env S w,(∀t,Lk P vs env S w cx σ t)->(tfF (.row j) x (Qu cx σ ds vs env) (YM (.row j) (get cx σ t 0) vs (env t)) (env t)).p S w)/\
   (∀(P:Program) vs (fr:Fr) env (A:List MF) (Γ:List FF) w (os':List Nat),(∀S w,zA S Γ w->Lk P vs env S w cx σ t)->(∀o∈os,aN os' o=false)->St fr.we fr.Se (A++OS vs fr cx (w6 σ.ob os')) Γ w->
    St fr.we fr.Se (IH (.row j) x (YM (.row j) (get cx σ t 0) vs (env t))++(A++OS vs fr cx (w6 σ.ob (os++os')))) Γ w):=by
   intro o o' p he hg h2 h3 h4;refine⟨p,[],h3,fun i e=>by cases e;exact he,fun P vs env S w hl=> ?_,fun P vs fr env A Γ w os' _ _ h=>h⟩;have h5:(vb (vs o))[p]? =some (env t):=hl t 0 _ hg;rw[ya h2]at h5;show zdl (Qu cx σ ds vs env j) p=some (env t);rw[h4];exact h5
  split at h
  ·next o p s _ _ _ hg hj=>
   split at h
   ·next o' hs=>
    obtain⟨hb,h⟩:=yi h;exact fin o o' p (xat.1 hj).1 hg hb h fun vs env=>by unfold Qu;rw[hj];simp only[hs,YM]
   ·cases h
  ·next o p s _ _ _ hg hj=>
   split at h
   ·next o' lo n hs=>
    obtain⟨hb,h⟩:=yi h;exact fin o o' p (xat.1 hj).1 hg hb h fun vs env=>by unfold Qu;rw[hj];simp only[hs,YM]
   ·cases h
  ·cases h
 |view j=>
  simp only[aA]at h
  have fin: ∀(o o' p q:Nat),j<ds.length->get cx σ t 0=some (.mv o p q)->xan o o'=true->k (p,q) []=some r->(∀vs env,Qu cx σ ds vs env j=vs o')-> ∃(x:Nat×Nat) (os:List Nat),k x os=some r/\(∀i,pj (TF.view j)=some i->i<ds.length)/\
   (∀(P:Program) vs env S w,(∀t,Lk P vs env S w cx σ t)->(tfF (.view j) x (Qu cx σ ds vs env) (YM (.view j) (get cx σ t 0) vs (env t)) (env t)).p S w)/\
   (∀(P:Program) vs (fr:Fr) env (A:List MF) (Γ:List FF) w (os':List Nat),(∀S w,zA S Γ w->Lk P vs env S w cx σ t)->(∀o∈os,aN os' o=false)->St fr.we fr.Se (A++OS vs fr cx (w6 σ.ob os')) Γ w->
    St fr.we fr.Se (IH (.view j) x (YM (.view j) (get cx σ t 0) vs (env t))++(A++OS vs fr cx (w6 σ.ob (os++os')))) Γ w):=by
   intro o o' p q he hg h2 h3 h4;refine⟨(p,q),[],h3,fun i e=>by cases e;exact he,fun P vs env S w hl=> ?_,fun P vs fr env A Γ w os' _ _ h=>h⟩;have h5:Dw (yY (vs o)) p q (env t):=hl t 0 _ hg;rw[ya h2]at h5;show Dw (yY (Qu cx σ ds vs env j)) p q (env t);rw[h4];exact h5
  split at h
  ·next o p q s _ _ _ hg hj=>
   split at h
   ·next o' hs=>
    obtain⟨hb,h⟩:=yi h;exact fin o o' p q (xat.1 hj).1 hg hb h fun vs env=>by unfold Qu;rw[hj];simp only[hs,YM]
   ·cases h
  ·next o p q s _ _ _ hg hj=>
   split at h
   ·next o' lo n hs=>
    obtain⟨hb,h⟩:=yi h;exact fin o o' p q (xat.1 hj).1 hg hb h fun vs env=>by unfold Qu;rw[hj];simp only[hs,YM]
   ·cases h
  ·cases h
 |bo s E E0=>
  simp only[aA]at h;split at h
  ·next o hg=>
   split at h
   ·next s' E' F' xs ho=>
    obtain⟨hE,h1⟩:=yi h;rw[xam]at hE;have hc:=ya hE.1;have hd:=ya hE.2;subst hc;subst hd;obtain⟨e,h2⟩:=ym h1;cases e;refine⟨_,[o],h2,nr (fun j e=>by cases e),fun P vs env S w hl=> ?_,fun P vs fr env A Γ w os' hl hn ha=> ?_⟩
    ·simp only[hg,YM];exact hl t 0 _ hg
    ·have hp:=kF (vs:=vs) (fr:=fr) (cx:=cx) ((jJ (hn o (FS))).trans ho);simp only[hg,YM];have h3:=St.mid (St.perm ha (xca _ hp));exact h3
   ·cases h
  ·cases h
theorem lk{ds:List (Nat×TF)}{i:Nat}{t:Nat}{f:TF}{env:yP}(h:ds[i]? =some (t,f)):Qu cx σ ds vs env i=YM f (get cx σ t 0) vs (env t):=by unfold Qu;rw[h]
theorem zdV{ds:List (Nat×TF)}: ∀{l:List (Nat×TF)} {i:Nat} {k:Wg l->List Nat->Option R},(∀j a,l[j]? =some a->ds[i+j]? =some a)->gat cx σ ds l k=some r-> ∃x os,k x os=some r/\(∀a∈l,∀j,pj a.2=some j->j<ds.length)/\
 (∀(P:Program) vs env S w,(∀t,Lk P vs env S w cx σ t)->zA S (dsF (Qu cx σ ds vs env) env l x i) w)/\
 (∀(P:Program) vs (fr:Fr) env (Γ:List FF) w,(∀S w,zA S Γ w-> ∀t,Lk P vs env S w cx σ t)->St fr.we fr.Se (OS vs fr cx σ.ob) Γ w->St fr.we fr.Se (Xj (Qu cx σ ds vs env) l x i++OS vs fr cx (w6 σ.ob os)) Γ w)
 |[],i,k,_,h=>⟨(),[],h,fun _ h=>absurd h xaa,fun _ _ _ _ _ _=>trivial,fun _ _ _ _ _ _ _ h=>h⟩
 |[a],i,k,hd,h=>by
  obtain⟨x,os,h1,h0,h2,h3⟩:=Hj (h:aA cx σ ds a.1 a.2 k=some r);have ha:ds[i]? =some (a.1,a.2):=hd 0 a rfl;refine⟨x,os,h1,fun b hb j e=> ?_,fun P vs env S w hl=>⟨?_,trivial⟩,fun P vs fr env Γ w hl he=> ?_⟩
  ·obtain rfl:=xah.1 hb;exact h0 j e
  ·rw[lk ha];exact h2 P vs env S w hl
  ·have:=h3 P vs fr env [] Γ w [] (fun S w hΓ=>hl S w hΓ a.1) (fun _ _=>rfl) he;rw[xbN]at this;show St _ _ (IH a.2 x (Qu cx σ ds vs env i)++_) _ _;rw[lk ha];exact this
 |a::b::l,i,k,hd,h=>by
  obtain⟨x,o,h1,h0,h2,h3⟩:=Hj (h:aA cx σ ds a.1 a.2 _=some r);obtain⟨y,os,h4,hf,h5,h6⟩:=zdV (l:=b::l) (i:=i+1) (fun j c hj=>by
   have:=hd (j+1) c (by simpa using hj);rw[show i+1+j=i+(j+1)by omega];exact this) h1
  obtain⟨hn,h4⟩:=yi h4;have ha:ds[i]? =some (a.1,a.2):=hd 0 a rfl;refine⟨(x,y),o++os,h4,fun c hc j e=> ?_,fun P vs env S w hl=>⟨?_,h5 P vs env S w hl⟩,fun P vs fr env Γ w hl he=> ?_⟩
  ·rcases xae.1 hc with rfl|hc
   ·exact h0 j e
   ·exact hf c hc j e
  ·rw[lk ha];exact h2 P vs env S w hl
  ·have:=h3 P vs fr env (Xj (Qu cx σ ds vs env) (b::l) y (i+1)) Γ w os (fun S w hΓ=>hl S w hΓ a.1) (Dq hn) (h6 P vs fr env Γ w hl he);show St _ _ ((IH a.2 x (Qu cx σ ds vs env i)++Xj (Qu cx σ ds vs env) (b::l) y (i+1))++_) _ _;rw[lk ha,xal];exact this
def nvs(vs:Nat->Value)(U:Nat->Value)(n:Nat):Nat->Value:=fun k=>if k<n then vs k else U (k-n)
theorem HJ{n0:Nat}: ∀{l:List (Nat×TF)} {x:Wg l} {o:Nat},∀e∈(U5 n0 l x o).2,o<=e.1/\e.1<o+l.length
 |[],_,_,e,he=>absurd he xaa
 |[(t,f)],x,o,e,he=>by
  cases f<;>simp only[U5,iG]at he<;>first|exact absurd he xaa|(obtain rfl:=xah.1 he;exact⟨xac _,xbV _⟩)
 |(t,f)::b::l,x,o,e,he=>by
  have ih: ∀e∈(U5 n0 (b::l) x.2 (o+1)).2,o<=e.1/\e.1<o+((t,f)::b::l).length:=fun e he=>by
   have:=HJ e he;simp only[xav]at this⊢;omega
  cases f<;>simp only[U5,iG]at he<;>first
   |exact ih e he
   |exact(xae.1 he).elim (fun he=>by subst he;exact⟨xac _,by simp only[xav];omega⟩) (fun he=>ih e he)
theorem Gn{n0 o p n:Nat}{f:TF}{x:f.D}(hn: ∀j,pj f=some j->j<n)(h:wa (iG n0 o f x).1=some p):p=o\/p<n0+n:=by
 cases f<;>simp only[iG,wa,xaw,reduceCtorEq]at h
 ·exact .inl h.symm
 ·exact .inl h.symm
 ·exact .inl h.symm
 ·exact .inl h.symm
 ·next j=>have:=hn j rfl;exact .inr (by omega)
 ·next j=>have:=hn j rfl;exact .inr (by omega)
 ·exact .inl h.symm
theorem BR{n0 n:Nat}: ∀{l:List (Nat×TF)} {x:Wg l} {o:Nat},(∀a∈l,∀j,pj a.2=some j->j<n)-> ∀e∈(U5 n0 l x o).1,∀p,wa e.2.2=some p->p<o+l.length\/p<n0+n
 |[],_,_,_,e,he=>absurd he xaa
 |[(t,f)],x,o,hn,e,he=>by
  intro p hp;obtain rfl:=xah.1 (show e∈[(t,0,(iG n0 o f x).1)]from he);rcases Gn (hn _ (FS)) hp with rfl|h
  ·exact .inl (xbV _)
  ·exact .inr h
 |(t,f)::b::l,x,o,hn,e,he=>by
  intro p hp;have he:e=(t,0,(iG n0 o f x.1).1)\/e∈(U5 n0 (b::l) x.2 (o+1)).1:=xae.1 he;rcases he with rfl|he
  ·rcases Gn (hn _ (FS)) hp with rfl|h
   ·exact .inl (by simp only[xav];omega)
   ·exact .inr h
  ·rcases BR (fun a ha=>hn a (H1 _ ha)) e he p hp with h|h
   ·simp only[xav]at h⊢;exact .inl (by omega)
   ·exact .inr h
theorem C2{U:Nat->Value}{n0:Nat}: ∀{l:List (Nat×TF)} {x:Wg l} {o i:Nat},(∀j,j<l.length->vs (o+j)=U (i+j))->MS vs (U5 n0 l x o).2=Xj U l x i
 |[],_,_,_,_=>rfl
 |[(t,f)],x,o,i,h=>by
  have h0:vs o=U i:=h 0 (by simp);cases f<;>simp only[U5,iG,MS,xbR,xer,VQ,Xj,IH,h0]
 |(t,f)::b::l,x,o,i,h=>by
  have h0:vs o=U i:=h 0 (by simp);have ih:MS vs (U5 n0 (b::l) x.2 (o+1)).2=Xj U (b::l) x.2 (i+1):=C2 fun j hj=>by
   have:=h (j+1) (by simpa using hj);rw[show o+1+j=o+(j+1)by omega,show i+1+j=i+(j+1)by omega];exact this
  unfold MS at ih;cases f<;>simp only[U5,iG,MS,xbR,VQ,Xj,IH,h0,ih,xbF,xfr]
theorem sX{U:Nat->Value}{n0 n:Nat}{f:TF}{x:f.D}{o t:Nat}{u:Value}{S:Nat->Prop}(hv:vs o=u)(hn: ∀j,pj f=some j->j<n)(hU: ∀j,j<n->vs (n0+j)=U j)(h:(tfF f x U u (env t)).p S w):(xG P vs (iG n0 o f x).1 (env t) 0).p S w:=by
 subst hv;cases f
 ·exact h
 ·exact h
 ·exact h
 ·obtain⟨h1,b,h2⟩:=h;exact⟨h1,b,h1.symm.trans h2⟩
 ·exact h
 ·exact h
 ·next j=>
  have h:zdl (U j) x=some (env t):=h;show zdl (vs (n0+j)) x=some (env t);rw[hU j (hn j rfl)];exact h
 ·next j=>
  have h:Dw (yY (U j)) x.1 x.2 (env t):=h;show Dw (yY (vs (n0+j))) x.1 x.2 (env t);rw[hU j (hn j rfl)];exact h
 ·exact h
theorem Hp{U:Nat->Value}{n0 n:Nat}(hU: ∀j,j<n->vs (n0+j)=U j): ∀{l:List (Nat×TF)} {x:Wg l} {o i:Nat} {S:Nat->Prop},(∀a∈l,∀j,pj a.2=some j->j<n)->(∀j,j<l.length->vs (o+j)=U (i+j))->zA S (dsF U env l x i) w->zA S (RS P vs env (U5 n0 l x o).1) w
 |[],_,_,_,_,_,_,_=>trivial
 |[(t,f)],x,o,i,S,hn,h,hf=>⟨sX (h 0 (by simp)) (hn _ (FS)) hU hf.1,trivial⟩
 |(t,f)::b::l,x,o,i,S,hn,h,hf=>⟨sX (h 0 (by simp)) (hn _ (FS)) hU hf.1,Hp hU (fun a ha=>hn a (H1 _ ha)) (fun j hj=>by
  have:=h (j+1) (by simpa using hj);rw[show o+1+j=o+(j+1)by omega,show i+1+j=i+(j+1)by omega];exact this) hf.2⟩
theorem Si: ∀{ns:List (Nat×NF)},zb0 cx σ ns=true-> ∀t f,(t,f)∈ns->(match f,get cx σ t 0 with
 | .kb b,some (.kb c)=>b==c
 | .nil,some .nil=>true
 | .ci x,some (.d .i y)=>eqI x y
 | .cu x,some (.d .u y)=>eqU x y
 | .al s,some (.ow o)=>(match get cx σ s 0 with
  |some (.ow o')=>xan o o'
  |_=>false)
 | .al s,some (.vs o _)=>(match get cx σ s 0 with
  |some (.vs o' _)=>xan o o'
  |_=>false)
 | .al s,some (.mw o)=>(match get cx σ s 0 with
  |some (.mw o')=>xan o o'
  |_=>false)
 |_,_=>false)=true
 |(t',f')::r,h,t,f,hm=>by
  unfold zb0 at h;rw[xam]at h;rcases xae.1 hm with ha|hm
  ·cases ha;exact h.1
  ·exact Si h.2 t f hm
theorem L5{rg:List (Nat×Nat×Dv)}{S:Nat->Prop}(hr:zA S (RS P vs env rg) w): ∀{ns:List (Nat×NF)},(∀t f,(t,f)∈ns->match f with
 | .kb b=>env t= .bool b
 | .nil=>env t= .slice none 0 0
 | .ci x=>(fV eI x (env t)).p S w
 | .cu x=>(fV eU x (env t)).p S w
 | .al s=>env t=env s)->zA S (RS P vs env (CJ rg ns)) w
 |[],_=>hr
 |(t,f)::r,h=>by
  have ih:=L5 hr (ns:=r) fun t f hm=>h t f (H1 _ hm);have h0:=h t f (FS);unfold CJ;show zA S (RS P vs env (_++_)) w;rw[show RS P vs env (_++CJ rg r)=RS P vs env _++RS P vs env (CJ rg r)from xaO];refine zA.append ?_ ih;cases f
  ·exact⟨h0,trivial⟩
  ·exact⟨h0,trivial⟩
  ·exact⟨h0,trivial⟩
  ·exact⟨h0,trivial⟩
  ·next s=>
   simp only;split
   ·next v hv=>
    have:=Ji hr (dI hv);have h0:env t=env s:=h0;refine⟨?_,trivial⟩;show(xG P vs v (env t) 0).p S w;rw[h0];exact this
   ·trivial
theorem Dz{rg:List (Nat×Nat×Dv)}{n:Nat}(hr: ∀e∈rg,∀p,wa e.2.2=some p->p<n): ∀{ns:List (Nat×NF)},∀e∈CJ rg ns,∀p,wa e.2.2=some p->p<n
 |[],e,he=>hr e he
 |(t,f)::r,e,he=>by
  intro p hp;unfold CJ at he;rcases Nm.1 he with he|he
  ·cases f
   ·obtain rfl:=xah.1 he;cases hp
   ·obtain rfl:=xah.1 he;cases hp
   ·obtain rfl:=xah.1 he;cases hp
   ·obtain rfl:=xah.1 he;cases hp
   ·simp only at he;split at he
    ·next v hv=>
     obtain rfl:=xah.1 he;exact hr _ (dI hv) p hp
    ·exact absurd he xaa
  ·exact Dz hr e he p hp
theorem kZ: ∀(l:List (Nat×TF)) {σ:Sg},uU P fr cx σ env w->uU P fr cx (R7 cx σ l) env w
 |[],_,h=>h
 |(t,.d _)::r,_,h=>kZ r (CW _ h)
 |(t,.q _)::r,_,h=>kZ r h
 |(t,.own _ _)::r,_,h=>kZ r h
 |(t,.var _ _)::r,_,h=>kZ r h
 |(t,.mat _ _ _)::r,_,h=>kZ r h
 |(t,.matv _ _ _)::r,_,h=>kZ r h
 |(t,.row _)::r,_,h=>kZ r h
 |(t,.view _)::r,_,h=>kZ r h
 |(t,.bo _ _ _)::r,_,h=>kZ r h
theorem St.dropM{we:World}{Se:Nat->Prop}{Γ:List FF}{w:World}: ∀{A B C:List MF},St we Se (A++(B++C)) Γ w->St we Se (A++C) Γ w
 |A,[],C,h=>h
 |A,b::B,C,h=>St.dropM (B:=B) (St.drop (i:=0) (St.mid h))
end
end
section
section
variable{P:Program}{cf:Cf}{fr:Fr}{cx kp σ:Sg}{vs vs':Nat->Value}{env env0:yP}{w:World}{R:Type}{r:R}{N:Nd}{Q:Qs}
theorem J5{a b:List (Nat×Nat×Dv)}:RS P vs env (a++b)=RS P vs env a++RS P vs env b:=xaO
theorem gm{sh:Sh}{k:Wg sh.ds->Option R}(h:fH (jl cx kp) sh σ k=some r)(hK:Bd cx kp): ∃x,k x=some r/\ ∀(fr:Fr) env w,uU P fr (jl cx kp) σ env w->uU P fr cx (VR sh x kp) env w:=by
 unfold fH at h;simp only at h;obtain⟨hr,h⟩:=yi h;obtain⟨x,os,h1,h0,h2,h3⟩:=zdV (ds:=sh.ds) (i:=0) (fun j a hj=>by rw[xaT];exact hj) h;refine⟨x,h1,fun fr env w hR=> ?_⟩;have hs:=kZ sh.ds hR;generalize R7 (jl cx kp) σ sh.ds=σ1 at*
 obtain⟨hB,vs,ht⟩:=hs;have hf:=h3 P vs fr env (GS P vs env fr (jl cx kp) σ1) w (fun S w hΓ=>ZT hΓ) ht;have hi:=St.dropM hf;generalize hu:Qu (jl cx kp) σ1 sh.ds vs env=U at*
 have hc: ∀o,o<kp.nx->nvs vs U kp.nx o=vs o:=fun o ho=>iq ho;have hd: ∀j,j<sh.ds.length->nvs vs U kp.nx (kp.nx+j)=U (0+j):=fun j hj=>by
  unfold nvs;rw[zx,show kp.nx+j-kp.nx=j by omega,xaT]
 have hv:=fun e he=>HJ (n0:=kp.nx) (l:=sh.ds) (x:=x) (o:=kp.nx) e he;have hk: ∀e∈(U5 kp.nx sh.ds x kp.nx).1,∀p,wa e.2.2=some p->p<kp.nx+sh.ds.length:=fun e he p hp=>by
  rcases BR (n0:=kp.nx) (n:=sh.ds.length) (l:=sh.ds) (x:=x) (o:=kp.nx) h0 e he p hp with h|h<;>exact h
 refine⟨⟨fun e he=> ?_,fun e he=> ?_,fun e he p hp=> ?_,fun e he p hp=> ?_⟩,nvs vs U kp.nx,?_⟩
 ·rcases Nm.1 he with he|he
  ·exact(hv e he).2
  ·exact xap (hK.o1 e he) (xbL _ _)
 ·exact xap (hK.o2 e he) (xbL _ _)
 ·rcases Nm.1 he with he|he
  ·rcases Nm.1 he with he|he
   ·exact Dz (fun e he p hp=>hk e he p hp) e he p hp
   ·exact hk e he p hp
  ·exact xap (hK.r1 e he p hp) (xbL _ _)
 ·exact xap (hK.r2 e he p hp) (xbL _ _)
 ·have e1:OS (nvs vs U kp.nx) fr cx ((U5 kp.nx sh.ds x kp.nx).2++kp.ob)=Xj U sh.ds x 0++(MS vs (kp.ob++cx.ob)++fr.F):=by
   show MS _ (_++kp.ob)++(MS _ cx.ob++_)=_
   rw[show MS (nvs vs U kp.nx) ((U5 kp.nx sh.ds x kp.nx).2++kp.ob)=MS _ _++MS _ _ from xaO,C2 hd,x8 fun e he=>hc _ (hK.o1 e he),x8 (ob:=cx.ob) fun e he=>hc _ (hK.o2 e he),
    show MS vs (kp.ob++cx.ob)=MS _ _++MS _ _ from xaO,xal,xal]
  show St _ _ (OS (nvs vs U kp.nx) fr cx ((U5 kp.nx sh.ds x kp.nx).2++kp.ob)) _ _;rw[e1];refine hi.weak fun S w hΓ=> ?_;have hl: ∀t,Lk P vs env S w (jl cx kp) σ1 t:=ZT hΓ;have hy:zA S (RS P (nvs vs U kp.nx) env (U5 kp.nx sh.ds x kp.nx).1) w:=Hp (U:=U) (n:=sh.ds.length) (fun j hj=>by rw[hd j hj,xaT]) h0 hd (by rw[<-hu];exact h2 P vs env S w hl);have hq:zA S (RS P vs env kp.rg++RS P vs env cx.rg) w:=by
   have:=zA.left (zA.right hΓ);rwa[show RS P vs env (jl cx kp).rg=RS P vs env kp.rg++RS P vs env cx.rg from xaO]at this
  have hn:=L5 hy (ns:=sh.ns) fun t f hm=>by
   have hg:=Si hr t f hm;cases f
   ·split at hg<;>simp_all
    next b c h3=>exact hl t 0 _ h3
   ·split at hg<;>simp_all
    next h3=>exact hl t 0 _ h3
   ·split at hg<;>simp_all
    next a b h3=>
    have:=hl t 0 _ h3;simp only[eqI,decide_eq_true_eq]at hg;rw[hg];exact this
   ·split at hg<;>simp_all
    next a b h3=>
    have:=hl t 0 _ h3;simp only[eqU,decide_eq_true_eq]at hg;rw[hg];exact this
   ·next s=>
    cases hb:get (jl cx kp) σ1 t 0 with
    |none=>rw[hb]at hg;cases hg
    |some v=>
     rw[hb]at hg;cases v<;>simp only[xak]at hg
     ·next o=>
      cases ha:get (jl cx kp) σ1 s 0 with
      |none=>rw[ha]at hg;cases hg
      |some v'=>
       rw[ha]at hg;cases v'<;>simp only[xak]at hg;have a1:env t=vs o:=hl t 0 _ hb;have a2:=hl s 0 _ ha;have:=ya hg;subst this;exact a1.trans (show env s=_ from a2).symm
     ·next o _=>
      cases ha:get (jl cx kp) σ1 s 0 with
      |none=>rw[ha]at hg;cases hg
      |some v'=>
       rw[ha]at hg;cases v'<;>simp only[xak]at hg;have a1:env t=vs o:=(hl t 0 _ hb).1;have a2:=(hl s 0 _ ha).1;have:=ya hg;subst this;exact a1.trans a2.symm
     ·next o=>
      cases ha:get (jl cx kp) σ1 s 0 with
      |none=>rw[ha]at hg;cases hg
      |some v'=>
       rw[ha]at hg;cases v'<;>simp only[xak]at hg;have a1:env t=yY (vs o):=hl t 0 _ hb;have a2:=hl s 0 _ ha;have:=ya hg;subst this;exact a1.trans (show env s=_ from a2).symm
  show zA S (RS P _ env ((CJ (U5 kp.nx sh.ds x kp.nx).1 sh.ns++(U5 kp.nx sh.ds x kp.nx).1)++kp.rg)++(RS P _ env cx.rg++fr.G)) w;refine zA.append ?_ (zA.append ?_ (zA.right (zA.right hΓ)))
  ·rw[J5,J5];refine zA.append (zA.append hn hy) ?_;rw[qB (fun e he p hp=>hc _ (hK.r1 e he p hp)) (fun _ _=>rfl)];exact zA.left hq
  ·rw[qB (fun e he p hp=>hc _ (hK.r2 e he p hp)) (fun _ _=>rfl)];exact zA.right hq
theorem Mi{a t:Tg}(h:N0 a t=true):a=t:=by
 cases a<;>cases t<;>first|rfl|cases h|skip
 rw[ya (show xan _ _=true from h)]
theorem LG{t:Tg}(hK:Bd cx kp): ∀{l:List (Tg×Sh)} {k:SmD l->Option R},zas (jl cx kp) σ t l k=some r-> ∃(y:SmD l) (σt:Sg),k y=some r/\(∀{R':Type} (K:Tg->Sg->Option R'),FK kp K l y=K t σt)/\ ∀(fr:Fr) env w,uU P fr (jl cx kp) σ env w->uU P fr cx σt env w
 |[],k,h=>by cases h
 |[a],k,h=>by
  obtain⟨ht,h⟩:=yi h;obtain⟨x,h1,h2⟩:=gm (P:=P) h hK;have:=Mi ht;subst this;exact⟨x,_,h1,fun K=>rfl,h2⟩
 |a::b::l,k,h=>by
  unfold zas at h;cases ht:N0 a.1 t<;>rw[ht]at h
  ·obtain⟨y,σt,h1,h2,h3⟩:=LG hK (l:=b::l) h;exact⟨.inr y,σt,h1,fun K=>h2 K,h3⟩
  ·obtain⟨x,h1,h2⟩:=gm (P:=P) h hK;have:=Mi ht;subst this;exact⟨.inl x,_,h1,fun K=>rfl,h2⟩
abbrev Qd:=Exit->List Nat->yP->World->Prop
def wH(D:Nat):MF where
 blk k:=k=D
 p _ w:=w.heap[D]? =some (.deferred (some []))
 keep h _ hb:=(hb D rfl).trans h
 sub h _:=h
 lt h k hk:=by subst hk;exact(xbj.1 h).1
def mkD(D:Nat):Deferred:={target:= .collected D,args:= #[]}
def Nd.wd(N:Nd)(Ds:List Nat):Nd:=⟨N.n,Ds.map mkD,N.rd⟩
def Fr.wd(fr:Fr)(Ds:List Nat):Fr:=⟨fr.we,fr.Se,Ds.map wH++fr.F,fr.G⟩
def zdE(N:Nd)(Q:Qd):Exit->Act->World->Prop:=fun e a w=>a.tmps.size=N.n/\ ∃Ds:List Nat,a.defers=Ds.map mkD/\Q e Ds (yr a) w
def C7(P:Program)(N:Nd)(c:Code)(Q:Qd)(Ds:List Nat)(env:yP)(w:World):Prop:=
 ∀a:Act,a.tmps.size=N.n->a.defers=Ds.map mkD->yr a=env->c.wpIn N.F 0 P (zdE N Q) a w
section
variable{N:Nd}{Q Q':Qd}{Ds:List Nat}
theorem zff{c:Code}(h:Wp P (N.wd Ds) c (fun e env w=>Q e Ds env w) env w):C7 P N c Q Ds env w:=fun a h1 h2 h3=>wpIn_mono (h a h1 h2 h3) fun e a' w' ⟨q1,q2,q3⟩=>⟨q1,Ds,q2,q3⟩
def zdF(K:List Nat->yP->World->Prop)(Q:Qd):Qd
 | .normal,Ds,env,w=>K Ds env w
 |e,Ds,env,w=>Q e Ds env w
def Cv(id:Nat)(Q:Qd):Qd
 | .exit id',Ds,env,w=>bif xan id' id then Q .normal Ds env w else Q (.exit id') Ds env w
 |e,Ds,env,w=>Q e Ds env w
def zib(Q:Qd):Qd
 | .goto _,_,_,_=>False
 |e,Ds,env,w=>Q e Ds env w
theorem lN{x y:Code}(h:C7 P N x (zdF (C7 P N y Q) Q) Ds env w):C7 P N (.seq x y) Q Ds env w:=by
 intro a h1 h2 h3;refine wpIn_seq (wpIn_mono (h a h1 h2 h3) ?_);intro e a' w' ⟨q1,Ds',q2,q3⟩;cases e<;>first|exact q3 a' q1 q2 rfl|exact⟨q1,Ds',q2,q3⟩
theorem SI{c:Code}(h:C7 P N c Q Ds env w)(hq: ∀e Ds env w,Q e Ds env w->Q' e Ds env w):C7 P N c Q' Ds env w:=
 fun a h1 h2 h3=>wpIn_mono (h a h1 h2 h3) fun e a' w' ⟨q1,Ds',q2,q3⟩=>⟨q1,Ds',q2,hq e _ _ _ q3⟩
theorem Aq{id:Nat}{c:Code}(h:C7 P N c (Cv id Q) Ds env w):C7 P N (.block id c) Q Ds env w:=by
 intro a h1 h2 h3;refine wpIn_block (wpIn_mono (h a h1 h2 h3) ?_);intro e a' w' ⟨q1,Ds',q2,q3⟩
 cases e with
 |exit i=>
  simp only[Cv]at q3;simp only[Exit.inBlock];cases hb:xan i id
  ·rw[hb]at q3;rw[ir (fun e=>by subst e;simp at hb)];exact⟨q1,Ds',q2,q3⟩
  ·rw[hb]at q3;rw[iq (xcH hb)];exact⟨q1,Ds',q2,q3⟩
 |_=>exact⟨q1,Ds',q2,q3⟩
theorem NG{c:Code}(h:C7 P N c (zib Q) Ds env w):C7 P N (.scope c) Q Ds env w:=by
 intro a h1 h2 h3;refine Hr (wpIn_mono (h a h1 h2 h3) ?_);intro e a' w' ⟨q1,Ds',q2,q3⟩;cases e<;>first|exact⟨q1,Ds',q2,q3⟩|exact q3.elim
theorem DV{c:Code}{G:Type}(I:G->List Nat->yP->World->Prop)(μ:G->Nat)(g₀:G)(h₀:I g₀ Ds env w)(round: ∀g Ds env w,I g Ds env w->C7 P N c (zdF (fun Ds' env' w'=> ∃g',I g' Ds' env' w'/\μ g'<μ g) Q) Ds env w):C7 P N (.loop c) Q Ds env w:=by
 intro a h1 h2 h3;refine IM (fun g a w=>a.tmps.size=N.n/\ ∃Ds:List Nat,a.defers=Ds.map mkD/\I g Ds (yr a) w) μ g₀ ⟨h1,Ds,h2,h3▸h₀⟩ ?_;intro g a w ⟨h1,Ds,h2,hI⟩;refine wpIn_mono (round g Ds (yr a) w hI a h1 h2 rfl) ?_;intro e a' w' ⟨q1,Ds',q2,q3⟩
 cases e with
 |normal=>obtain⟨g',o1,o2⟩:=q3;exact⟨g',⟨q1,Ds',q2,o1⟩,o2⟩
 |_=>exact⟨q1,Ds',q2,q3⟩
theorem mG{c:Operand}{x y:Code}(hc:ev env c= .bool true)(h:C7 P N x Q Ds env w):C7 P N (.cond c x y) Q Ds env w:=
 fun a h1 h2 h3=>wpIn_cond_true (by rw[Uw,h3];exact hc) (h a h1 h2 h3)
theorem oh{c:Operand}{x y:Code}(hc:ev env c= .bool false)(h:C7 P N y Q Ds env w):C7 P N (.cond c x y) Q Ds env w:=
 fun a h1 h2 h3=>wpIn_cond_false (by rw[Uw,h3];exact hc) (h a h1 h2 h3)
end
theorem Ao{α:Type _}(p:α->Bool): ∀l:List α,l.Perm ((l.filter fun a=> !p a)++l.filter p)
 |[]=>xdB _
 |a::l=>by
  have ih:=Ao p l;rw[xdh,xdh];cases hp:p a
  ·simpa using ih.cons a
  ·simp only[xdL,xak,if_false,if_true];exact(ih.cons a).trans xcr.symm
theorem nP{ag ro:List Nat}(h:uU P fr cx σ env w):Bd cx (keep σ ag ro)/\uU P fr (jl cx (keep σ ag ro)) (rest σ ag ro) env w:=by
 obtain⟨hB,vs,ha⟩:=h;have hb:Bd cx (keep σ ag ro):=⟨fun e he=>hB.o1 e (xbY.1 he).1,hB.o2,fun e he=>hB.r1 e (xbY.1 he).1,hB.r2⟩;refine⟨hb,⟨fun e he=>hB.o1 e (xbY.1 he).1,fun e he=> ?_,fun e he=>hB.r1 e (xbY.1 he).1,fun e he=> ?_⟩,vs,?_⟩
 ·rcases Nm.1 he with he|he
  ·exact hb.o1 e he
  ·exact hb.o2 e he
 ·rcases Nm.1 he with he|he
  ·exact hb.r1 e he
  ·exact hb.r2 e he
 ·have hp:(OS vs fr cx σ.ob).Perm (OS vs fr (jl cx (keep σ ag ro)) (rest σ ag ro).ob):=by
   show List.Perm (MS vs σ.ob++(MS vs cx.ob++fr.F)) (MS vs (rest σ ag ro).ob++(MS vs ((keep σ ag ro).ob++cx.ob)++fr.F));have e:MS vs (rest σ ag ro).ob++(MS vs ((keep σ ag ro).ob++cx.ob)++fr.F)=(MS vs (rest σ ag ro).ob++MS vs (keep σ ag ro).ob)++(MS vs cx.ob++fr.F):=by
    rw[show MS vs ((keep σ ag ro).ob++cx.ob)=MS _ _++MS _ _ from xaO];simp only[xal]
   rw[e];refine xfh _ ?_;have:=(Ao (fun e:Nat×Od=>aN (sZ σ ro) e.1) σ.ob).map (VQ vs);rw[xaO]at this;exact this
  refine(St.perm ha hp).sub' ?_;intro f hf;rcases Nm.1 hf with hf|hf
  ·obtain⟨e,he,rfl⟩:=xai.1 hf;exact Nm.2 (.inl (xai.2 ⟨e,(xbY.1 he).1,rfl⟩))
  ·rcases Nm.1 hf with hf|hf
   ·obtain⟨e,he,rfl⟩:=xai.1 hf;rcases Nm.1 he with he|he
    ·exact Nm.2 (.inl (xai.2 ⟨e,(xbY.1 he).1,rfl⟩))
    ·exact Nm.2 (.inr (Nm.2 (.inl (xai.2 ⟨e,he,rfl⟩))))
   ·exact Nm.2 (.inr (Nm.2 (.inr hf)))
end
end
section
def JM(l:Nat)(r:Loop):MF where
 blk k:=k=l
 p _ w:=w.heap[l]? =some (.loop r)
 keep h _ hb:=(hb l rfl).trans h
 sub h _:=h
 lt h k hk:=by subst hk;exact(xbj.1 h).1
def mFF(Γ:List FF):MF where
 blk _:=False
 p S w:=zA S Γ w
 keep h k _:=zA.keep k h
 sub h k:=zA.sub k h
 lt _ _ hk:=hk.elim
section
variable{we:World}{Se:Nat->Prop}{ms:List MF}{Γ Δ:List FF}{w:World}
theorem St.ffIn(h:St we Se ms (Δ++Γ) w):St we Se (mFF Δ::ms) Γ w:=by
 obtain⟨h1,h2,h3,S,h4,h5,h6,h7,h8⟩:=h;refine⟨h1,h2,⟨fun k hk=>hk.elim,h3⟩,S,h4,h5,fun m hm k hk=> ?_,⟨zA.left h8,h7⟩,zA.right h8⟩;rcases xae.1 hm with rfl|hm
 ·exact hk.elim
 ·exact h6 m hm k hk
theorem St.ffOut(h:St we Se (mFF Δ::ms) Γ w):St we Se ms (Δ++Γ) w:=by
 obtain⟨h1,h2,h3,S,h4,h5,h6,h7,h8⟩:=h;exact⟨h1,h2,h3.2,S,h4,h5,fun m hm=>h6 m (H1 _ hm),h7.2,zA.append h7.1 h8⟩
theorem St.putObj{l:Nat}{m m':MF}{o:Obj}(h:St we Se (m::ms) Γ w)(hb: ∀k,m.blk k↔k=l)(he: ∀k,m'.blk k->k=l)(hp: ∀S w',w'.heap[l]? =some o->m'.p S w'):St we Se (m'::ms) Γ (w.putObj l o):=by
 obtain⟨h1,h2,h3,S,h4,h5,h6,h7,h8⟩:=h;have hl:=h6 m (FS) l ((hb l).2 rfl);have hf:l<w.heap.size:=yv.lt h7 m (FS) l ((hb l).2 rfl);have hd:(w.putObj l o).heap.size=w.heap.size:=World.putObj_size;have ha: ∀k,k≠l->(w.putObj l o).heap[k]? =w.heap[k]? :=fun k hk=>World.putObj_heap_other hk;have hk:yp S w (w.putObj l o):=⟨rfl,rfl,rfl,Nat.le_of_eq hd.symm,fun k _ hS=>ha k fun e=>hl.1 (e▸hS)⟩;have hx:VX we (w.putObj l o):=⟨h1.os,h1.tape,h1.output,xao h1.size (Nat.le_of_eq hd.symm),fun k hk hS=>(ha k fun e=>by omega).trans (h1.block k hk hS)⟩;refine⟨hx,h2,⟨fun k hk m2 hm2=>h3.1 k ((hb k).2 (he k hk)) m2 hm2,h3.2⟩,S,h4,fun k hk=>h5 k (by rw[hd]at hk;exact hk),fun m2 hm2 k hc=> ?_,⟨hp S _ (World.putObj_heap_same hf),yv.keep hk (fun m2 hm2 k hc=>ha k fun e=> ?_) h7.2⟩,zA.keep hk h8⟩
 ·rcases xae.1 hm2 with rfl|hm2
  ·exact h6 m (FS) k ((hb k).2 (he k hc))
  ·exact h6 m2 (H1 _ hm2) k hc
 ·subst e;exact h3.1 k ((hb k).2 rfl) m2 hm2 hc
theorem St.allocObj{o:Obj}{m:MF}(h:St we Se ms Γ w)(hb: ∀k,m.blk k->k=w.heap.size)(hp: ∀S w',w'.heap[w.heap.size]? =some o->m.p S w'):St we Se (m::ms) Γ (w.alloc o):=by
 obtain⟨h1,h2,h3,S,h4,h5,h6,h7,h8⟩:=h;have he:(w.alloc o).heap.size=w.heap.size+1:=World.size_alloc ..;have vg: ∀k,k<w.heap.size->(w.alloc o).heap[k]? =w.heap[k]? :=fun k hk=>by
  show(w.heap.push o)[k]? =_;rw[Array.getElem?_push];rw[zx]
 have hd:(w.alloc o).heap[w.heap.size]? =some o:=World.alloc_heap_new w o;let S':Nat->Prop:=fun k=>S k/\k≠w.heap.size
 have hk:yp S' w (w.alloc o):=⟨rfl,rfl,rfl,by omega,fun k hk _=>vg k hk⟩;have hc: ∀k,k<w.heap.size->S k->S' k:=fun k hk hS=>⟨hS,by omega⟩;refine⟨⟨h1.os,h1.tape,h1.output,by have:=h1.size;omega,fun k hk hS=>(vg k (xap hk h1.size)).trans (h1.block k hk hS)⟩,h2,⟨fun k hk m2 hm2 ha=> ?_,h3⟩,S',fun k hk=>h4 k hk.1,fun k hk=>⟨h5 k (by omega),by omega⟩,fun m2 hm2 k ha=> ?_,⟨hp _ _ hd,yv.keep hk (fun m2 hm2 k ha=>vg k (yv.lt h7 m2 hm2 k ha)) (yv.sub hc h7)⟩,zA.keep hk (zA.sub hc h8)⟩
 ·have:=yv.lt h7 m2 hm2 k ha;have:=hb k hk;omega
 ·rcases xae.1 hm2 with rfl|hm2
  ·exact⟨fun hS=>hS.2 (hb k ha),by have:=hb k ha;have:=h1.size;omega⟩
  ·exact⟨fun hS=>(h6 m2 hm2 k ha).1 hS.1,(h6 m2 hm2 k ha).2⟩
end
section
variable{P:Program}{cf:Cf}{fr:Fr}{cx kp σ:Sg}{vs vs':Nat->Value}{env env':yP}{w:World}
theorem Bq{cx σ:Sg}(h:Bd cx σ):Bd (jl cx σ) ⟨σ.nx,[],[]⟩where
 o1:=fun _ he=>absurd he xaa
 o2:=fun e he=>by
  rcases Nm.1 he with he|he
  ·exact h.o1 e he
  ·exact h.o2 e he
 r1:=fun _ he=>absurd he xaa
 r2:=fun e he=>by
  rcases Nm.1 he with he|he
  ·exact h.r1 e he
  ·exact h.r2 e he
def fK(f:TF)(v u:Value):Prop:=match f with
 | .own _ _=>v=u
 | .var _ _=>v=u/\ ∃b,v= .pointer (some ⟨b,0,none⟩)
 | .mat _ _ _=>v=yY u
 | .bo _ _ _=>v=yY u
 |_=>False
def Vj(ds:List (Nat×TF))(env:yP)(U:Nat->Value):Prop:= ∀(j t:Nat) (f:TF),ds[j]? =some (t,f)->fK f (env t) (U j)
theorem Du: ∀{ds:List (Nat×TF)},JO ds=true-> ∀(j t:Nat) (f:TF),ds[j]? =some (t,f)->(∃s E,f= .own s E)\/(∃s E,f= .var s E)\/(∃s E F,f= .mat s E F)\/(∃s E F,f= .bo s E F)
 |[],_,j,t,f,h=>by simp at h
 |(t',f')::ds,hm,0,t,f,h=>by
  simp only[xbA,xaw,xcu]at h;obtain⟨rfl,rfl⟩:=h;cases f'<;>simp only[JO,xak]at hm
  ·exact .inl ⟨_,_,rfl⟩
  ·exact .inr (.inl ⟨_,_,rfl⟩)
  ·exact .inr (.inr (.inl ⟨_,_,_,rfl⟩))
  ·exact .inr (.inr (.inr ⟨_,_,_,rfl⟩))
 |(t',f')::ds,hm,j+1,t,f,h=>by
  refine Du (ds:=ds) ?_ j t f (by simpa using h);cases f'<;>simp only[JO,xak]at hm<;>exact hm
theorem Eb{ds:List (Nat×TF)}(hm:JO ds=true): ∀a∈ds,∀j,pj a.2=some j->j<ds.length:=fun a ha j e=>by
 obtain⟨i,hi⟩:=List.mem_iff_getElem?.1 ha;rcases Du hm i a.1 a.2 hi with⟨_,_,h⟩|⟨_,_,h⟩|⟨_,_,_,h⟩|⟨_,_,_,h⟩<;>rw[h]at e<;>cases e
theorem Mv{U:Nat->Value}{S:Nat->Prop}: ∀{ds:List (Nat×TF)} {x:Wg ds} {i:Nat},(∀(j t:Nat) (f:TF),ds[j]? =some (t,f)->fK f (env t) (U (i+j)))->zA S (dsF U env ds x i) w
 |[],_,_,_=>trivial
 |[(t,f)],x,i,h=>by
  have h0:=h 0 t f rfl;refine⟨?_,trivial⟩;cases f<;>first|exact h0|exact h0.elim
 |(t,f)::b::l,x,i,h=>by
  have h0:=h 0 t f rfl;refine⟨?_,Mv fun j t f hj=>by
   have:=h (j+1) t f (by simpa using hj);rw[show i+1+j=i+(j+1)by omega];exact this⟩
  cases f<;>first|exact h0|exact h0.elim
theorem Pv{n0:Nat}: ∀{ds:List (Nat×TF)} {x:Wg ds} {o j t:Nat} {f:TF},ds[j]? =some (t,f)-> ∃y:f.D,(t,0,(iG n0 (o+j) f y).1)∈(U5 n0 ds x o).1
 |[],_,_,_,_,_,h=>by simp at h
 |[(t',f')],x,o,0,t,f,h=>by
  simp only[xbA,xaw,xcu]at h;obtain⟨rfl,rfl⟩:=h;exact⟨x,FS⟩
 |[(t',f')],x,o,j+1,t,f,h=>by simp at h
 |(t',f')::b::l,x,o,0,t,f,h=>by
  simp only[xbA,xaw,xcu]at h;obtain⟨rfl,rfl⟩:=h;exact⟨x.1,FS⟩
 |(t',f')::b::l,x,o,j+1,t,f,h=>by
  obtain⟨y,hy⟩:=Pv (n0:=n0) (ds:=b::l) (x:=x.2) (o:=o+1) (j:=j) (t:=t) (f:=f) (by simpa using h);rw[show o+1+j=o+(j+1)by omega]at hy;exact⟨y,H1 _ hy⟩
theorem TX{ds:List (Nat×TF)}{x:Wg ds}{n:Nat}{S:Nat->Prop}(hm:JO ds=true)(h:zA S (RS P vs env (U5 n ds x n).1) w):Vj ds env fun j=>vs (n+j):=by
 intro j t f hj;obtain⟨y,hy⟩:=Pv (n0:=n) (x:=x) (o:=n) hj;have:=Ji h hy;rcases Du hm j t f hj with⟨_,_,rfl⟩|⟨_,_,rfl⟩|⟨_,_,_,rfl⟩|⟨_,_,_,rfl⟩
 ·exact this
 ·obtain⟨h1,b,h2⟩:=this;exact⟨h1,b,h1.trans h2⟩
 ·exact this
 ·exact this
theorem zdW{ds:List (Nat×TF)}{x:Wg ds}(hm:JO ds=true)(o1: ∀e∈kp.ob,e.1<kp.nx+ds.length)(o2: ∀e∈cx.ob,e.1<kp.nx+ds.length)(r1: ∀e∈kp.rg,∀o,wa e.2.2=some o->o<kp.nx+ds.length)(r2: ∀e∈cx.rg,∀o,wa e.2.2=some o->o<kp.nx+ds.length):Bd cx (VR ⟨ds,[]⟩ x kp):=by
 refine⟨fun e he=> ?_,o2,fun e he p hp=> ?_,r2⟩
 ·rcases Nm.1 he with he|he
  ·exact(HJ (n0:=kp.nx) (l:=ds) (x:=x) (o:=kp.nx) e he).2
  ·exact o1 e he
 ·have hr: ∀e∈(U5 kp.nx ds x kp.nx).1,∀p,wa e.2.2=some p->p<kp.nx+ds.length:=fun e he p hp=>by
   rcases BR (n0:=kp.nx) (n:=ds.length) (l:=ds) (x:=x) (o:=kp.nx) (Eb hm) e he p hp with h|h<;>exact h
  rcases Nm.1 he with he|he
  ·rcases Nm.1 he with he|he
   ·exact hr e he p hp
   ·exact hr e he p hp
  ·exact r1 e he p hp
theorem SA{ds:List (Nat×TF)}{x:Wg ds}(hm:JO ds=true)(hc:Vj ds env fun j=>vs (kp.nx+j))(hb:Bd cx (VR ⟨ds,[]⟩ x kp))
 (hd:St fr.we fr.Se (Xj (fun j=>vs (kp.nx+j)) ds x 0++(MS vs kp.ob++(MS vs cx.ob++fr.F))) (RS P vs env kp.rg++(RS P vs env cx.rg++fr.G)) w):uU P fr cx (VR ⟨ds,[]⟩ x kp) env w:=by
 refine⟨hb,vs,?_⟩;have ha: ∀j,j<ds.length->vs (kp.nx+j)=(fun j=>vs (kp.nx+j)) (0+j):=fun j _=>by simp only[xaT]
 have e1:OS vs fr cx (VR ⟨ds,[]⟩ x kp).ob=Xj (fun j=>vs (kp.nx+j)) ds x 0++(MS vs kp.ob++(MS vs cx.ob++fr.F)):=by
  show MS vs ((U5 kp.nx ds x kp.nx).2++kp.ob)++(MS vs cx.ob++fr.F)=_;rw[show MS vs ((U5 kp.nx ds x kp.nx).2++kp.ob)=MS vs (U5 kp.nx ds x kp.nx).2++MS vs kp.ob from xaO,C2 (U:=fun j=>vs (kp.nx+j)) (i:=0) ha,xal]
 show St _ _ (OS vs fr cx (VR ⟨ds,[]⟩ x kp).ob) _ _;rw[e1];refine hd.weak fun S w hΓ=> ?_;have hy:zA S (RS P vs env (U5 kp.nx ds x kp.nx).1) w:=Hp (U:=fun j=>vs (kp.nx+j)) (n:=ds.length) (i:=0) (fun j _=>rfl) (Eb hm) ha (Mv fun j t f hj=>by rw[xaT];exact hc j t f hj);show zA S (RS P vs env (((U5 kp.nx ds x kp.nx).1++(U5 kp.nx ds x kp.nx).1)++kp.rg)++(RS P vs env cx.rg++fr.G)) w;rw[J5,J5];exact zA.append (zA.append (zA.append hy hy) (zA.left hΓ)) (zA.right hΓ)
theorem LQ{ds:List (Nat×TF)}{x:Wg ds}{n:Nat}(hm:JO ds=true)(hR:uU P fr cx (VR ⟨ds,[]⟩ x ⟨n,[],[]⟩) env w): ∃vs,Vj ds env (fun j=>vs (n+j))/\Bd cx (VR ⟨ds,[]⟩ x ⟨n,[],[]⟩)/\St fr.we fr.Se (Xj (fun j=>vs (n+j)) ds x 0++(MS vs cx.ob++fr.F)) (RS P vs env cx.rg++fr.G) w:=by
 obtain⟨hB,vs,ha⟩:=hR;obtain⟨S,_,hΓ⟩:=ha.ex;have h1:zA S (RS P vs env (((U5 n ds x n).1++(U5 n ds x n).1)++[])) w:=zA.left hΓ;rw[J5,J5]at h1;refine⟨vs,TX hm (zA.right (zA.left h1)),hB,?_⟩;have e1:OS vs fr cx (VR ⟨ds,[]⟩ x ⟨n,[],[]⟩).ob=Xj (fun j=>vs (n+j)) ds x 0++(MS vs cx.ob++fr.F):=by
  show MS vs ((U5 n ds x n).2++[])++(MS vs cx.ob++fr.F)=_;rw[xbN,C2 (U:=fun j=>vs (n+j)) (i:=0) fun j _=>by simp only[xaT]]
 have h2:St fr.we fr.Se (OS vs fr cx (VR ⟨ds,[]⟩ x ⟨n,[],[]⟩).ob) (GS P vs env fr cx (VR ⟨ds,[]⟩ x ⟨n,[],[]⟩)) w:=ha;rw[e1]at h2;exact h2.weak fun S w h=>zA.right h
theorem Fc{U:Nat->Value}{a:Nat×TF}: ∀{l:List (Nat×TF)} {y:a.2.D} {x:Wg l} {i:Nat},Xj U (a::l) (sO y x) i=IH a.2 y (U i)++Xj U l x (i+1)
 |[],y,x,i=>by show IH a.2 y (U i)=_++[];rw[xbN]
 |_::_,y,x,i=>rfl
theorem Um{U V:Nat->Value}: ∀{l:List (Nat×TF)} {x:Wg l} {i k:Nat},(∀j,j<l.length->U (i+j)=V (k+j))->Xj U l x i=Xj V l x k
 |[],_,_,_,_=>rfl
 |[a],x,i,k,h=>by
  have h0:U i=V k:=h 0 (by simp);show IH a.2 x (U i)=IH a.2 x (V k);rw[h0]
 |a::b::l,x,i,k,h=>by
  have h0:U i=V k:=h 0 (by simp);show IH a.2 x.1 (U i)++Xj U (b::l) x.2 (i+1)=IH a.2 x.1 (V k)++Xj V (b::l) x.2 (k+1);rw[h0,Um (l:=b::l) (x:=x.2) (i:=i+1) (k:=k+1) fun j hj=>by
   have:=h (j+1) (by simpa using hj);rw[show i+1+j=i+(j+1)by omega,show k+1+j=k+(j+1)by omega];exact this]
theorem Ra{a:Nat×TF}: ∀{l:List (Nat×TF)} (z:Wg (a::l)),z=sO (aa z).1 (aa z).2
 |[],_=>rfl
 |_::_,_=>rfl
theorem Dn{we:World}{Se:Nat->Prop}{A B:List MF}{G:List FF}{l:Nat}{m m':MF}{o:Obj}(h:uU P ⟨we,Se,A++m::B,G⟩ cx σ env w)(hb: ∀k,m.blk k↔k=l)(ha: ∀k,m'.blk k->k=l)(hp: ∀S w',w'.heap[l]? =some o->m'.p S w'):uU P ⟨we,Se,A++m'::B,G⟩ cx σ env (w.putObj l o):=by
 obtain⟨hB,vs,hc⟩:=h;refine⟨hB,vs,?_⟩;have h1:St we Se ((MS vs σ.ob++(MS vs cx.ob++A))++m::B) (GS P vs env ⟨we,Se,A++m::B,G⟩ cx σ) w:=by
  have:St we Se (MS vs σ.ob++(MS vs cx.ob++(A++m::B))) (GS P vs env ⟨we,Se,A++m::B,G⟩ cx σ) w:=hc;simpa only[xal]using this
 have h2:=St.putObj (St.mid h1) hb ha hp;have h3:St we Se ((MS vs σ.ob++(MS vs cx.ob++A))++m'::B) (GS P vs env ⟨we,Se,A++m::B,G⟩ cx σ) (w.putObj l o):=h2.perm xcr.symm;show St we Se (MS vs σ.ob++(MS vs cx.ob++(A++m'::B))) _ _;simpa only[xal]using h3
theorem za8{n:Nat}{S:Nat->Prop}: ∀{ds:List (Nat×TF)} {i:Nat},JO ds=true->(∀(j t:Nat) (f:TF),ds[j]? =some (t,f)->fK f (env t) (vs (n+(i+j))))->zA S (RS P vs env (gZ ds (n+i))) w
 |[],_,_,_=>trivial
 |(t,f)::r,i,hm,h=>by
  have h0:=h 0 t f rfl;have ih:JO r=true->zA S (RS P vs env (gZ r (n+i+1))) w:=fun hm=>za8 (i:=i+1) hm fun j t f hj=>by
   have:=h (j+1) t f (by simpa using hj);rw[show i+1+j=i+(j+1)by omega];exact this
  cases f<;>simp only[JO,xak]at hm
  ·exact⟨h0,ih hm⟩
  ·exact⟨h0.1,ih hm⟩
  ·exact⟨h0,ih hm⟩
  ·exact⟨h0,ih hm⟩
theorem GH: ∀{ds:List (Nat×TF)} {n:Nat},∀e∈gZ ds n,∀o,wa e.2.2=some o->o<n+ds.length
 |[],_,e,he=>absurd he xaa
 |(t,f)::r,n,e,he=>by
  intro o ho;have ih:e∈gZ r (n+1)->o<n+((t,f)::r).length:=fun he=>by
   have:=GH e he o ho;simp only[xav];omega
  cases f<;>rcases xae.1 he with rfl|he<;>first|exact ih he|(cases ho;simp only[xav];omega)
theorem my: ∀{ds:List (Nat×TF)} {n j t:Nat} {f:TF},ds[j]? =some (t,f)-> ∃e∈gZ ds n,e.1=t
 |[],_,_,_,_,h=>by simp at h
 |(t',f')::r,n,0,t,f,h=>by
  simp only[xbA,xaw,xcu]at h;obtain⟨rfl,rfl⟩:=h;cases f'<;>exact⟨_,FS,rfl⟩
 |(t',f')::r,n,j+1,t,f,h=>by
  obtain⟨e,he,h1⟩:=my (ds:=r) (n:=n+1) (j:=j) (t:=t) (f:=f) (by simpa using h);cases f'<;>exact⟨e,H1 _ he,h1⟩
theorem zc1{a:Nat×TF}{ds:List (Nat×TF)}(h:SB (a::ds)=true){j t:Nat}{f:TF}(hj:ds[j]? =some (t,f)):t≠a.1:=by
 simp only[SB,PX,xam,xaR]at h;have:=h.1 (t,f) (xbr hj);intro e;subst e;simp at this
end
end
section
def Ax(P:Program)(cf:Cf)(n:Nat)(c:Code):Prop:= ∀{R:Type} {r:R} {fr:Fr} {cx σ:Sg} {K:Tg->Sg->Option R} {Q:Qd} {N:Nd},N.n=n->(N.rd=none\/Da c=true)->UG cf c cx σ K=some r-> ∀{Ds:List Nat} {env:yP} {w:World},
 (∀t σ',K t σ'=some r-> ∀Ds' env' w',cq cx env env'->uU P (fr.wd Ds') cx σ' env' w'->Q (tgE t) Ds' env' w')->uU P (fr.wd Ds) cx σ env w->C7 P N c Q Ds env w
def zik:Value->List Value
 | .tuple us=>us.toList
 |_=>[]
def ZI(u:Value)(k:Nat):Value:=(zik u).getD k undef
def Ff(vs:Nat->Value)(m:Nat):Value:= .tuple ((xbc m).map vs).toArray
theorem zbd{vs:Nat->Value}{m k:Nat}(h:k<m):ZI (Ff vs m) k=vs k:=by
 simp[ZI,Ff,zik,UV,h]
def tgC:Tg->Code
 | .n=> .skip
 | .x i=> .exit i
 | .r=> .ret
section
variable{P:Program}{cf:Cf}{fr:Fr}{cx cx' kp σ:Sg}{vs vs':Nat->Value}{env env':yP}{w:World}{we:World}{Se:Nat->Prop}{F:List MF}{G:List FF}{n D l:Nat}{ds:List (Nat×TF)}{x:Wg ds}{u:Value}{rc:Loop}
def OI(P:Program)(env:yP)(cx':Sg)(n:Nat)(ds:List (Nat×TF))(D l:Nat)(rc:Loop)(x:Wg ds)(u:Value):MF:=
 Fy (mPr (Vj ds env fun j=>ZI u (n+j))::mFF (RS P (ZI u) env cx'.rg)::JM l rc::wH D::(Xj (fun j=>ZI u (n+j)) ds x 0++MS (ZI u) cx'.ob))
theorem LK(h:St we Se (OI P env cx' n ds D l rc x u::F) G w):Vj ds env (fun j=>ZI u (n+j))/\St we Se (JM l rc::wH D::(Xj (fun j=>ZI u (n+j)) ds x 0++(MS (ZI u) cx'.ob++F))) (RS P (ZI u) env cx'.rg++G) w:=by
 obtain⟨h1,h2⟩:=St.unpr (St.grp.1 h);refine⟨h1,?_⟩;have h3:=St.ffOut (show St we Se (mFF (RS P (ZI u) env cx'.rg)::(JM l rc::wH D::(Xj (fun j=>ZI u (n+j)) ds x 0++MS (ZI u) cx'.ob)++F)) G w from h2);simpa only[xbP,xal]using h3
theorem Tu(ha:Vj ds env fun j=>vs (n+j))(ho: ∀e∈cx'.ob,e.1<n)(hr: ∀e∈cx'.rg,∀o,wa e.2.2=some o->o<n)(h:St we Se (JM l rc::wH D::(Xj (fun j=>vs (n+j)) ds x 0++(MS vs cx'.ob++F))) (RS P vs env cx'.rg++G) w):
 St we Se (OI P env cx' n ds D l rc x (Ff vs (n+ds.length))::F) G w:=by
 have e0: ∀k,k<n+ds.length->ZI (Ff vs (n+ds.length)) k=vs k:=fun k hk=>zbd hk;have e1:RS P (ZI (Ff vs (n+ds.length))) env cx'.rg=RS P vs env cx'.rg:=qB (fun e he o ho=>e0 o (by have:=hr e he o ho;omega)) fun _ _=>rfl;have e2:MS (ZI (Ff vs (n+ds.length))) cx'.ob=MS vs cx'.ob:=x8 fun e he=>e0 e.1 (by have:=ho e he;omega);have e3:Xj (fun j=>ZI (Ff vs (n+ds.length)) (n+j)) ds x 0=Xj (fun j=>vs (n+j)) ds x 0:=Um fun j hj=>e0 _ (by omega);refine St.grp.2 (St.pr ?_ ?_)
 ·intro j t f hj;have:=(xat.1 hj).1;show fK f (env t) (ZI (Ff vs (n+ds.length)) (n+j));rw[e0 _ (by omega)];exact ha j t f hj
 ·have h2:St we Se (mFF (RS P vs env cx'.rg)::(JM l rc::wH D::(Xj (fun j=>vs (n+j)) ds x 0++MS vs cx'.ob)++F)) G w:=St.ffIn (by simpa only[xbP,xal]using h);rw[e1,e2,e3];exact h2
theorem AH{m:MF}{p:Prop}(h:uU P fr cx σ env w)(hm:m∈fr.F)(hp: ∀S,m.p S w->p):p:=by
 obtain⟨_,vs,_,_,_,S,_,_,_,h7,_⟩:=h;exact hp S (kV.1 h7 m (Nm.2 (.inr (Nm.2 (.inr hm)))))
theorem zck{it:sj}{pt:Nat}{τ:Tg}{a c:Code}{N:Nat}{fn:FuncId}{tmps:Array Value}(hA:Ax P cf N a)(hC:Ax P cf N c)(hV:Da a=true)(hW:Da c=true)(hpt:pt<N)(hX:tmps.size=N)(hN:yr ⟨tmps,[]⟩=env)(hm:JO ds=true)
 (hY:SB (jr pt it.t it.E ds).ds=true) (hH:ZU cx'.rg pt=true) (ho: ∀e∈cx'.ob,e.1<n) (hr: ∀e∈cx'.rg,∀o,wa e.2.2=some o->o<n):
 Ek P l it.t.rep it.E (fun x u=>OI P env cx' n ds D l {state:= .ready,pending:=none,fn:=fn,tmps:=tmps,params:= #[pt],assign:=a,body:=c,defers:=D} x u)
  (fun x u=>OI P env cx' n ds D l {state:= .done,pending:=some (tgC τ),fn:=fn,tmps:=tmps,params:= #[pt],assign:=a,body:=c,defers:=D} x u)
  (zhF cx' n ds it.t it.E pt τ (fun cx σ K=>UG cf a cx σ K) fun cx σ K=>UG cf c cx σ K):=by
 obtain⟨rR,hg⟩: ∃rR:Loop,rR={state:= .ready,pending:=none,fn:=fn,tmps:=tmps,params:= #[pt],assign:=a,body:=c,defers:=D}:=⟨_,rfl⟩;obtain⟨rB,hF⟩: ∃rB:Loop,rB={rR with state:= .busy}:=⟨_,rfl⟩;rw[<-hg];intro ys x ys' q hq v u we Se F G w hZ;obtain⟨h0,h1⟩:=LK hZ;have hl:w.heap[l]? =some (.loop rR):=xO h1 (i:=0) rfl fun S hp=>hp;have hy:=run_yield (P:=P) (args:= #[v]) hl (by rw[hg];rfl);refine⟨fn,tmps.setIfInBounds pt v,a,c,by rw[hg]at hy;simpa using hy,roundIn_of_wpIn trivial ?_⟩;obtain⟨sh,hv⟩: ∃sh,sh=jr pt it.t it.E ds:=⟨_,rfl⟩;have hlen:sh.ds.length=ds.length+1:=by rw[hv];rfl
 have hG:JO sh.ds=true:=by rw[hv];exact hm
 obtain⟨cp,hb⟩: ∃cp,cp=cpR cx' n sh:=⟨_,rfl⟩;have hO: ∀{j t:Nat} {f:TF},ds[j]? =some (t,f)->t≠pt:=fun hj=>zc1 (a:=(pt,.own it.t it.E)) hY hj;obtain⟨env1,hi⟩: ∃env1,env1=put env (some pt) v:=⟨_,rfl⟩;have e_pt:env1 pt=v:=by rw[hi];exact pT
 have e_ne: ∀t,t≠pt->env1 t=env t:=fun t ht=>by rw[hi];exact aQ (fun e=>ht (by cases e;rfl))
 have e_cx: ∀e∈cx'.rg,env1 e.1=env e.1:=fun e he=>e_ne e.1 fun h=>by
  simp only[ZU,xaR]at hH;have:=hH e he;rw[h]at this;simp at this
 obtain⟨vs1,hx⟩: ∃vs1:Nat->Value,vs1=fun k=>if k<n then ZI u k else if k=n then v else ZI u (k-1):=⟨_,rfl⟩;have v_lo: ∀k,k<n->vs1 k=ZI u k:=fun k hk=>by rw[hx];exact iq hk
 have v_n:vs1 n=v:=by rw[hx];simp
 have v_hi: ∀j,vs1 (n+(j+1))=ZI u (n+j):=fun j=>by
  rw[hx];simp only;rw[zx,zx,show n+(j+1)-1=n+j by omega]
 have hI:Vj sh.ds env1 fun j=>vs1 (n+j):=by
  rw[hv];intro j t f hj
  cases j with
  |zero=>
   simp only[jr,xbA,xaw,xcu]at hj;obtain⟨rfl,rfl⟩:=hj;show env1 pt=vs1 (n+0);rw[e_pt,xch,v_n]
  |succ j=>
   have hj:ds[j]? =some (t,f):=by simpa[jr]using hj
   show fK f (env1 t) (vs1 (n+(j+1)));rw[v_hi,e_ne t (hO hj)];exact h0 j t f hj
 have hB:Bd cp ⟨n+sh.ds.length,[],[]⟩:=by
  rw[hb];refine⟨fun _ he=>absurd he xaa,fun e he=> ?_,fun _ he=>absurd he xaa,fun e he o hd=> ?_⟩
  ·have:=ho e he;show e.1<n+_;omega
  ·show o<n+_;rcases Nm.1 (show e∈gZ sh.ds n++cx'.rg from he)with he|he
   ·exact GH e he o hd
   ·have:=hr e he o hd;omega
 have h9:uU P (Fr.wd ⟨we,Se,JM l rR::wH D::F,G⟩ []) cp (VR sh (hv▸sO (a:=(pt,.own it.t it.E)) ys x) ⟨n,[],[]⟩) env1 w:=by
  subst hv;refine SA (vs:=vs1) (kp:=⟨n,[],[]⟩) hG hI (zdW hG (fun _ he=>absurd he xaa) (fun e he=>hB.o2 e he) (fun _ he=>absurd he xaa) fun e he o hd=>hB.r2 e he o hd) ?_;have e1:Xj (fun j=>vs1 (n+j)) (jr pt it.t it.E ds).ds (sO (a:=(pt,.own it.t it.E)) ys x) 0=mO it.t.rep it.E v ys::Xj (fun j=>ZI u (n+j)) ds x 0:=by
   refine(Fc (U:=fun j=>vs1 (n+j)) (a:=(pt,.own it.t it.E)) (l:=ds) (y:=ys) (x:=x) (i:=0)).trans ?_;show mO it.t.rep it.E (vs1 (n+0)) ys::Xj _ ds x (0+1)=_;rw[xch,v_n,Um (U:=fun j=>vs1 (n+j)) (V:=fun j=>ZI u (n+j)) (i:=0+1) (k:=0) fun j _=>by
    show vs1 (n+(0+1+j))=ZI u (n+(0+j));rw[show 0+1+j=j+1 by omega,v_hi,xaT]]
  have e2:MS vs1 cp.ob=MS (ZI u) cx'.ob:=by rw[hb];exact x8 fun e he=>v_lo _ (ho e he)
  show St we Se (Xj (fun j=>vs1 (n+j)) (jr pt it.t it.E ds).ds (sO (a:=(pt,.own it.t it.E)) ys x) 0++([]++(MS vs1 cp.ob++([]++(JM l rR::wH D::F))))) ([]++(RS P vs1 env1 cp.rg++G)) w;rw[e1,e2];have h2:St we Se (mO it.t.rep it.E v ys::Xj (fun j=>ZI u (n+j)) ds x 0++([]++(MS (ZI u) cx'.ob++([]++(JM l rR::wH D::F))))) (RS P (ZI u) env cx'.rg++G) w:=by
   refine h1.perm ?_;simp only[xbF,xbP];have p1:(JM l rR::wH D::(Xj (fun j=>ZI u (n+j)) ds x 0++(MS (ZI u) cx'.ob++mO it.t.rep it.E v ys::F))).Perm (mO it.t.rep it.E v ys::(JM l rR::wH D::(Xj (fun j=>ZI u (n+j)) ds x 0++(MS (ZI u) cx'.ob++F)))):=by
    have:=xcr (a:=mO it.t.rep it.E v ys) (l₁:=JM l rR::wH D::(Xj (fun j=>ZI u (n+j)) ds x 0++MS (ZI u) cx'.ob)) (l₂:=F);simpa only[xbP,xal]using this
   refine p1.trans (List.Perm.cons _ ?_);have p2:([JM l rR,wH D]++((Xj (fun j=>ZI u (n+j)) ds x 0++MS (ZI u) cx'.ob)++F)).Perm ((Xj (fun j=>ZI u (n+j)) ds x 0++MS (ZI u) cx'.ob)++([JM l rR,wH D]++F)):=xdE ..;simpa only[xbP,xal,xbF]using p2
  refine h2.weak (Δ:=RS P vs1 env1 cp.rg++G) fun S w ha=>zA.append ?_ (zA.right ha);rw[hb];show zA S (RS P vs1 env1 (gZ (jr pt it.t it.E ds).ds n++cx'.rg)) w;rw[J5];refine zA.append (za8 (i:=0) hG fun j t f hj=>by rw[xaT];exact hI j t f hj) ?_;rw[qB (vs:=ZI u) (env:=env) (fun e he o hd=>v_lo o (hr e he o hd)) e_cx];exact zA.left ha
 obtain⟨N1,hw⟩: ∃N1:Nd,N1=⟨N,[],some l⟩:=⟨_,rfl⟩;have hP:(⟨tmps.setIfInBounds pt v,[]⟩:Act).tmps.size=N1.n:=by rw[hw];simpa using hX
 have hQ:yr ⟨tmps.setIfInBounds pt v,[]⟩=env1:=by
  have:=Yo (a:=⟨tmps,[]⟩) (d:=some pt) (v:=v) (fun t ht=>by cases ht;show pt<tmps.size;omega);rw[hi,<-hN];exact this
 subst hv
 have h':=hA (N:=N1) (fr:=⟨we,Se,JM l rR::wH D::F,G⟩) (Ds:=[]) (by rw[hw]) (.inr hV) (show UG cf a cp _ _=some (ys',q)from by rw[hb];exact hq)
  (Q:=fun e Ds' env' w'=>e= .normal/\ ∃σ',UG cf c cp σ' (ze5 cp ds it.t it.E pt τ)=some (ys',q)/\cq cp env1 env'/\uU P (Fr.wd ⟨we,Se,JM l rR::wH D::F,G⟩ Ds') cp σ' env' w')
  (fun t σ' hk Ds' env' w' hs hR=>by
   cases t with
   |n=>exact⟨rfl,σ',by rw[hb];exact hk,hs,hR⟩
   |x i=>cases hk
   |r=>cases hk) h9
 have hS:=h' ⟨tmps.setIfInBounds pt v,[]⟩ hP rfl hQ;rw[hw]at hS;refine wpIn_mono hS ?_;rintro e a1 w1 ⟨q1,Ds',q2,rfl,σ',hk,hs,hR⟩;have hl1:w1.heap[l]? =some (.loop rR):=AH hR (m:=JM l rR) (Nm.2 (.inr (FS))) fun S hp=>hp;refine⟨w1.putObj l (.loop rB),by rw[hF];exact run_beginRound hl1 (by rw[hg]),?_⟩;have hR1:uU P (Fr.wd ⟨we,Se,JM l rB::wH D::F,G⟩ Ds') cp σ' (yr a1) (w1.putObj l (.loop rB)):=Dn (A:=Ds'.map wH) (m:=JM l rR) (m':=JM l rB) (B:=wH D::F) hR (fun k=>Iff.rfl) (fun k h=>h) fun S w' h=>h
 have hwC:=hC (N:=N1) (fr:=⟨we,Se,JM l rB::wH D::F,G⟩) (Ds:=Ds') (by rw[hw]) (.inr hW) hk
  (Q:=fun e Ds'' env' w'=> ∃t σ'',e=tgE t/\ze5 cp ds it.t it.E pt τ t σ''=some (ys',q)/\cq cp (yr a1) env'/\uU P (Fr.wd ⟨we,Se,JM l rB::wH D::F,G⟩ Ds'') cp σ'' env' w')
  (fun t σ'' hk Ds'' env' w' hs hR=>⟨t,σ'',rfl,hk,hs,hR⟩) hR1
 have hT:=hwC a1 (by rw[hw];exact q1) q2 rfl;rw[hw]at hT;refine wpIn_mono hT ?_;rintro e a2 w2 ⟨p1,Ds'',p2,t,σ'',rfl,hc,hs2,hn⟩;have hL:w2.heap[l]? =some (.loop rB):=AH hn (m:=JM l rB) (Nm.2 (.inr (FS))) fun S hp=>hp;have hM:=hs.trans hs2
 have close: ∀(z:Wg (jr pt it.t it.E ds).ds) (rc:Loop),uU P (Fr.wd ⟨we,Se,JM l rB::wH D::F,G⟩ Ds'') cp (VR (jr pt it.t it.E ds) z ⟨n+(jr pt it.t it.E ds).ds.length,[],[]⟩) (yr a2) w2->
  ∃u',St we Se (OI P env cx' n ds D l rc (aa z).2 u'::mO it.t.rep it.E v (aa z).1::F) G (w2.putObj l (.loop rc)):=by
  intro z rc hu;have hRp:=Dn (A:=Ds''.map wH) (m:=JM l rB) (m':=JM l rc) (B:=wH D::F) hu (fun k=>Iff.rfl) (fun k h=>h) (o:= .loop rc) fun S w' h=>h;obtain⟨vs2,hD,hB2,hJ⟩:=LQ (ds:=(jr pt it.t it.E ds).ds) hG hRp;obtain⟨m,hm2⟩: ∃m,m=n+(jr pt it.t it.E ds).ds.length:=⟨_,rfl⟩;rw[<-hm2]at hD hJ;have z0:vs2 m=v:=by
   have h2:yr a2 pt=vs2 (m+0):=hD 0 pt (.own it.t it.E) rfl;obtain⟨e,he,h3⟩:=my (ds:=(jr pt it.t it.E ds).ds) (n:=n) (j:=0) (t:=pt) (f:= .own it.t it.E) rfl;have h4:=hM e (by rw[hb];exact Nm.2 (.inl he));rw[h3,e_pt]at h4;rw[xch]at h2;exact h2.symm.trans h4
  obtain⟨vs3,hK⟩: ∃vs3:Nat->Value,vs3=fun k=>if k<n then vs2 k else vs2 (m+1+(k-n)):=⟨_,rfl⟩;have w_lo: ∀k,k<n->vs3 k=vs2 k:=fun k hk=>by rw[hK];exact iq hk
  have w_hi: ∀j,vs3 (n+j)=vs2 (m+(j+1)):=fun j=>by
   rw[hK];simp only;rw[zx,show m+1+(n+j-n)=m+(j+1)by omega]
  have hU:Vj ds env fun j=>vs3 (n+j):=by
   intro j t f hj;have h2:=hD (j+1) t f (by simpa[jr]using hj);obtain⟨e,he,h3⟩:=my (ds:=(jr pt it.t it.E ds).ds) (n:=n) (j:=j+1) (t:=t) (f:=f) (by simpa[jr]using hj);have h4:=hM e (by rw[hb];exact Nm.2 (.inl he));rw[h3,e_ne t (hO hj)]at h4;show fK f (env t) (vs3 (n+j));rw[w_hi,<-h4];exact h2
  refine⟨_,Tu (F:=mO it.t.rep it.E v (aa z).1::F) hU ho hr ?_⟩;have e1:Xj (fun j=>vs2 (m+j)) (jr pt it.t it.E ds).ds z 0=mO it.t.rep it.E v (aa z).1::Xj (fun j=>vs3 (n+j)) ds (aa z).2 0:=by
   refine(congrArg (fun z=>Xj (fun j=>vs2 (m+j)) (jr pt it.t it.E ds).ds z 0) (Ra (a:=(pt,.own it.t it.E)) (l:=ds) z)).trans ?_;refine(Fc (U:=fun j=>vs2 (m+j)) (a:=(pt,.own it.t it.E)) (l:=ds) (y:=(aa (a:=(pt,.own it.t it.E)) z).1) (x:=(aa (a:=(pt,.own it.t it.E)) z).2) (i:=0)).trans ?_;show mO it.t.rep it.E (vs2 (m+0)) (aa z).1::Xj _ ds (aa z).2 (0+1)=_;rw[xch,z0,Um (U:=fun j=>vs2 (m+j)) (V:=fun j=>vs3 (n+j)) (i:=0+1) (k:=0) fun j _=>by
    show vs2 (m+(0+1+j))=vs3 (n+(0+j));rw[show 0+1+j=j+1 by omega,xaT,w_hi]]
  have e2:MS vs2 cp.ob=MS vs3 cx'.ob:=by rw[hb];exact x8 fun e he=>(w_lo _ (ho e he)).symm
  have h5:St we Se (Xj (fun j=>vs2 (m+j)) (jr pt it.t it.E ds).ds z 0++(MS vs2 cp.ob++(Ds''.map wH++JM l rc::wH D::F))) (RS P vs2 (yr a2) cp.rg++G) (w2.putObj l (.loop rc)):=hJ;rw[e1,e2]at h5;have h6:St we Se ((mO it.t.rep it.E v (aa z).1::Xj (fun j=>vs3 (n+j)) ds (aa z).2 0++MS vs3 cx'.ob)++(JM l rc::wH D::F)) (RS P vs2 (yr a2) cp.rg++G) (w2.putObj l (.loop rc)):=St.dropM (B:=Ds''.map wH) (by simpa only[xal]using h5);have h7:St we Se (JM l rc::wH D::(Xj (fun j=>vs3 (n+j)) ds (aa z).2 0++(MS vs3 cx'.ob++(mO it.t.rep it.E v (aa z).1::F)))) (RS P vs2 (yr a2) cp.rg++G) (w2.putObj l (.loop rc)):=by
   refine h6.perm ?_;have p1:((Xj (fun j=>vs3 (n+j)) ds (aa z).2 0++MS vs3 cx'.ob)++([JM l rc,wH D]++F)).Perm ([JM l rc,wH D]++((Xj (fun j=>vs3 (n+j)) ds (aa z).2 0++MS vs3 cx'.ob)++F)):=xdE ..;have p2:=xcr (a:=mO it.t.rep it.E v (aa z).1) (l₁:=JM l rc::wH D::(Xj (fun j=>vs3 (n+j)) ds (aa z).2 0++MS vs3 cx'.ob)) (l₂:=F);have p3:=(p1.cons (mO it.t.rep it.E v (aa z).1)).trans (by simpa only[xbP,xal,xbF]using p2.symm);simpa only[xbP,xal,xbF]using p3
  refine h7.weak fun S w ha=>zA.append ?_ (zA.right ha);have h8:zA S (RS P vs2 (yr a2) (gZ (jr pt it.t it.E ds).ds n++cx'.rg)) w:=by
   have:=zA.left ha;rw[hb]at this;exact this
  rw[J5]at h8;rw[qB (vs:=vs2) (env:=yr a2) (fun e he o hd=>w_lo o (hr e he o hd)) fun e he=> ?_]
  ·exact zA.right h8
  ·have h4:=hM e (by rw[hb];exact Nm.2 (.inr he));rw[e_cx e he]at h4;exact h4.symm
 cases t with
 |n=>
  obtain⟨z,hz,hf⟩:=gm (P:=P) (cx:=cp) (kp:=⟨n+(jr pt it.t it.E ds).ds.length,[],[]⟩) (show fH (jl cp ⟨n+(jr pt it.t it.E ds).ds.length,[],[]⟩) (jr pt it.t it.E ds) σ'' (fun z=>some ((aa z).1,Sum.inl (aa z).2))=some (ys',q)from by rw[hb]at hc⊢;exact hc) hB;cases hz;have hu:=hf (Fr.wd ⟨we,Se,JM l rB::wH D::F,G⟩ Ds'') (yr a2) w2 (by rw[hb]at hn⊢;exact hn);refine⟨_,_,run_endRound none hL,rfl,?_⟩;have hE:({rB with state:=if(none:Option Code).isNone then .ready else .done,pending:=none}:Loop)=rR:=by rw[hF,hg];rfl
  rw[hE];exact close z rR hu
 |x i=>
  obtain⟨ht,hc⟩:=yi hc;obtain⟨z,hz,hf⟩:=gm (P:=P) (cx:=cp) (kp:=⟨n+(jr pt it.t it.E ds).ds.length,[],[]⟩) (show fH (jl cp ⟨n+(jr pt it.t it.E ds).ds.length,[],[]⟩) (jr pt it.t it.E ds) σ'' (fun z=>some ((aa z).1,Sum.inr (aa z).2))=some (ys',q)from by rw[hb]at hc⊢;exact hc) hB;cases hz;have hu:=hf (Fr.wd ⟨we,Se,JM l rB::wH D::F,G⟩ Ds'') (yr a2) w2 (by rw[hb]at hn⊢;exact hn);refine⟨_,_,run_endRound (some (.exit i)) hL,rfl,?_⟩;have hE:({rB with state:=if(some (Code.exit i)).isNone then .ready else .done,pending:=some (.exit i)}:Loop)={state:= .done,pending:=some (tgC τ),fn:=fn,tmps:=tmps,params:= #[pt],assign:=a,body:=c,defers:=D}:=by rw[hF,hg,Mi ht];rfl
  rw[hE];exact close z _ hu
 |r=>
  obtain⟨ht,hc⟩:=yi hc;obtain⟨z,hz,hf⟩:=gm (P:=P) (cx:=cp) (kp:=⟨n+(jr pt it.t it.E ds).ds.length,[],[]⟩) (show fH (jl cp ⟨n+(jr pt it.t it.E ds).ds.length,[],[]⟩) (jr pt it.t it.E ds) σ'' (fun z=>some ((aa z).1,Sum.inr (aa z).2))=some (ys',q)from by rw[hb]at hc⊢;exact hc) hB;cases hz;have hu:=hf (Fr.wd ⟨we,Se,JM l rB::wH D::F,G⟩ Ds'') (yr a2) w2 (by rw[hb]at hn⊢;exact hn);refine⟨_,_,run_endRound (some .ret) hL,rfl,?_⟩;have hE:({rB with state:=if(some Code.ret).isNone then .ready else .done,pending:=some .ret}:Loop)={state:= .done,pending:=some (tgC τ),fn:=fn,tmps:=tmps,params:= #[pt],assign:=a,body:=c,defers:=D}:=by rw[hF,hg,Mi ht];rfl
  rw[hE];exact close z _ hu
end
end
section
section
variable{P:Program}{cf:Cf}{fr:Fr}{cx σ:Sg}{env:yP}{w:World}{R:Type}{r:R}
theorem zbW(hX:rm P cf){g:Operand}{a c:Code}{N:Nd}{K:Tg->Sg->Option R}{Q:Qd}{s:Lp}{it:sj}{y:Kc it.dom}{τ:Tg}{pt:Nat}{ags:List Nat}{cs:List PD}{Ds:List Nat}
 (hA:Ax P cf N.n a) (hC:Ax P cf N.n c) (hP:Da a=true) (hQ:Da c=true) (hS:N.rd=none) (hT:pt<N.n) (hg:xW cx σ g=some (.fn it.f cs)) (hU:it∈cf.is) (hy:Ju it.dom cs=some y) (hv:s.hd.ns=[])
 (h:HQ cx σ K s it y τ pt ags (fun cx σ K=>UG cf a cx σ K) (fun cx σ K=>UG cf c cx σ K)=some r)
 (hK: ∀t σ',K t σ'=some r-> ∀Ds' env' w',cq cx env env'->uU P (fr.wd Ds') cx σ' env' w'->Q (tgE t) Ds' env' w') (hR:uU P (fr.wd Ds) cx σ env w):C7 P N (.rangeFunc g #[pt] a c) Q Ds env w:=by
 obtain⟨⟨ds,ns⟩,sg⟩:=s;simp only at hv;subst hv;obtain⟨h8,hx⟩:=BP hy;obtain⟨hB,vs,hz⟩:=hR;obtain⟨S0,_,hΓ⟩:=hz.ex;obtain⟨cvs,hD,h7,h9⟩:=zk hg (zW hΓ g);have hV:uU P ⟨fr.we,fr.Se,Ds.map wH++fr.F,kL P it.dom y cvs++fr.G⟩ cx σ env w:=⟨hB,vs,hz.weak fun S w ha=>zA.append (zA.left ha) (zA.append (zA.left (zA.right ha)) (zA.append (by
  obtain⟨cvs',hE,hY,hF⟩:=zk hg (zW ha g);rw[hD]at hE;have:cvs=cvs':=by simpa using hE
  subst this;exact hx hY hF) (zA.right (zA.right ha))))⟩
 unfold HQ at h;simp only at h;obtain⟨hi,h⟩:=yi h;simp only[xam]at hi;obtain⟨hm,hZ,hl⟩:=hi;obtain⟨hc,hG⟩:=nP (ag:=ags) (ro:=sg.ro) hV;obtain⟨kp,h0⟩: ∃kp,kp=keep σ ags sg.ro:=⟨_,rfl⟩;rw[<-h0]at h hc hG hl;obtain⟨x0,h1,h2⟩:=gm (P:=P) (cx:=jl cx kp) (kp:=⟨kp.nx,[],[]⟩) h (Bq hc);obtain⟨r',h3,h4⟩:=py h1;obtain⟨vs0,hH,h',hI⟩:=LQ (ds:=ds) hm (h2 _ env w hG);obtain⟨hb,hJ⟩:=hX.is it hU;have ho: ∀e∈(jl cx kp).ob,e.1<kp.nx:=fun e he=>by
  rcases Nm.1 he with he|he
  ·exact hc.o1 e he
  ·exact hc.o2 e he
 have hr: ∀e∈(jl cx kp).rg,∀o,wa e.2.2=some o->o<kp.nx:=fun e he o hf=>by
  rcases Nm.1 he with he|he
  ·exact hc.r1 e he o hf
  ·exact hc.r2 e he o hf
 intro a0 g1 g2 g3;refine wpIn_rangeFunc ?_;intro fn hfn;rw[show N.F.round=none from hS];obtain⟨rR,hj⟩: ∃rR:Loop,rR={state:= .ready,pending:=none,fn:=fn,tmps:=a0.tmps,params:= #[pt],assign:=a,body:=c,defers:=w.heap.size}:=⟨_,rfl⟩;obtain⟨rD,hn⟩: ∃rD:Loop,rD={state:= .done,pending:=some (tgC τ),fn:=fn,tmps:=a0.tmps,params:= #[pt],assign:=a,body:=c,defers:=w.heap.size}:=⟨_,rfl⟩;have hL:=run_enterLoop_outer (P:=P) (w:=w) fn a0.tmps #[pt] a c;rw[<-hj]at hL;have hW:St fr.we fr.Se (JM (w.heap.size+1) rR::wH w.heap.size::(Xj (fun j=>vs0 (kp.nx+j)) ds x0 0++(MS vs0 (jl cx kp).ob++(Ds.map wH++fr.F)))) (RS P vs0 env (jl cx kp).rg++(kL P it.dom y cvs++fr.G)) ((w.alloc (.deferred (some []))).alloc (.loop rR)):=by
  have q1:=St.allocObj (o:= .deferred (some [])) (m:=wH w.heap.size) hI (fun k hk=>hk) (fun S w' hw=>hw);have hM:(w.alloc (.deferred (some []))).heap.size=w.heap.size+1:=World.size_alloc ..;refine St.allocObj (o:= .loop rR) (m:=JM (w.heap.size+1) rR) q1 (fun k hk=>by rw[hM];exact hk) (fun S w' hw=> ?_);rw[hM]at hw;exact hw
 have h5:=Tu (x:=x0) hH ho hr hW;have hN:=zck (P:=P) (cf:=cf) (cx':=jl cx kp) (env:=env) (n:=kp.nx) (D:=w.heap.size) (l:=w.heap.size+1) (ds:=ds) (it:=it) (pt:=pt) (τ:=τ) (a:=a) (c:=c) (N:=N.n) (fn:=fn) (tmps:=a0.tmps) hA hC hP hQ hT g1 g3 hm hZ hl ho hr;rw[<-hj,<-hn]at hN;have hq:=hJ y _ _ _ _ _ x0 r' h3 (w.heap.size+1) cvs (by omega) hN _ fr.we fr.Se _ fr.G _ h5
 have close: ∀(rc:Loop) (x:Wg ds) (u':Value) (w3:World),St fr.we fr.Se (OI P env (jl cx kp) kp.nx ds w.heap.size (w.heap.size+1) rc x u'::(Ds.map wH++fr.F)) fr.G w3->
  w3.heap[w.heap.size+1]? =some (.loop rc)/\ ∀o,uU P (fr.wd (w.heap.size::Ds)) cx (VR ⟨ds,[]⟩ x kp) env (w3.putObj (w.heap.size+1) (.loop o)):=by
  intro rc x u' w3 hs;obtain⟨h6,q1⟩:=LK hs;refine⟨xO q1 (i:=0) rfl fun S hp=>hp,fun o=> ?_⟩;have q2:=St.putObj (m':=JM (w.heap.size+1) o) (o:= .loop o) q1 (fun k=>Iff.rfl) (fun k hk=>hk) (fun S w' hw=>hw);have q3:St fr.we fr.Se ([wH w.heap.size]++(Xj (fun j=>ZI u' (kp.nx+j)) ds x 0++(MS (ZI u') (jl cx kp).ob++(Ds.map wH++fr.F)))) (RS P (ZI u') env (jl cx kp).rg++fr.G) (w3.putObj (w.heap.size+1) (.loop o)):=St.drop (i:=0) q2;refine SA (vs:=ZI u') hm h6 (zdW hm (fun e he=>xap (hc.o1 e he) (xbL _ _)) (fun e he=>xap (hc.o2 e he) (xbL _ _)) (fun e he o hf=>xap (hc.r1 e he o hf) (xbL _ _)) fun e he o hf=>xap (hc.r2 e he o hf) (xbL _ _)) ?_;have e1:MS (ZI u') (jl cx kp).ob=MS (ZI u') kp.ob++MS (ZI u') cx.ob:=xaO;have e2:RS P (ZI u') env (jl cx kp).rg=RS P (ZI u') env kp.rg++RS P (ZI u') env cx.rg:=xaO;rw[e1,e2]at q3;have q4:St fr.we fr.Se ((Xj (fun j=>ZI u' (kp.nx+j)) ds x 0++(MS (ZI u') kp.ob++MS (ZI u') cx.ob))++([wH w.heap.size]++(Ds.map wH++fr.F))) ((RS P (ZI u') env kp.rg++RS P (ZI u') env cx.rg)++fr.G) (w3.putObj (w.heap.size+1) (.loop o)):=by
   refine q3.perm ?_;rw[<-xal (Xj _ _ _ _)];exact xdE ..
  show St fr.we fr.Se (Xj _ ds x 0++(MS (ZI u') kp.ob++(MS (ZI u') cx.ob++((wH w.heap.size::Ds.map wH)++fr.F)))) (RS P (ZI u') env kp.rg++(RS P (ZI u') env cx.rg++fr.G)) _;simpa only[xal,xbP,xbF]using q4
 refine⟨w.heap.size+1,[mkD w.heap.size],((w.alloc (.deferred (some []))).alloc (.loop rR)),{target:= .fn (.func it.f) cvs.toArray,args:= #[.func (.yield (w.heap.size+1)) #[] #[]]},((w.alloc (.deferred (some []))).alloc (.loop rR)),it.f,#[.func (.yield (w.heap.size+1)) #[] #[]]++cvs.toArray,((w.alloc (.deferred (some []))).alloc (.loop rR)),hL,?_,fun _ _=>trivial,?_,fun e=>by simp[Nd.F,xfP]at e,?_⟩
 ·have:a0.eval g= .func (.func it.f) #[] cvs.toArray:=by rw[Uw,g3];exact hD
  simp only[resolve,this];simp[go_sem]
 ·simp[invoke,go_sem,kJ hb]
 ·have ht:(#[.func (.yield (w.heap.size+1)) #[] #[]]++cvs.toArray:Array Value)=(Value.func (.yield (w.heap.size+1)) #[] #[]::cvs).toArray:=by simp
  rw[ht];refine CallsIn.mono (callsIn_wide.2 hq) ?_;rintro e w3 ⟨⟨v,rfl⟩,u',hs⟩
  cases hO:r' with
  |inl x=>
   rw[hO]at hs h4;obtain⟨hu,hd⟩:=close rR x u' w3 hs;refine⟨none,_,by have:=run_endLoop (P:=P) hu (by rw[hj];simp);rw[hj]at this;exact this,?_⟩;exact⟨g1,w.heap.size::Ds,by show[mkD w.heap.size]++a0.defers=_;rw[g2];rfl,hK .n _ h4 _ _ _ (by rw[<-g3];exact cq.refl) (by rw[<-g3]at hd;exact hd _)⟩
  |inr x=>
   rw[hO]at hs h4;obtain⟨hu,hd⟩:=close rD x u' w3 hs;refine⟨some (tgC τ),_,by have:=run_endLoop (P:=P) hu (by rw[hn];simp);rw[hn]at this;exact this,?_⟩;have fin: ∀o,zdE N Q (tgE τ) {a0 with defers:=[mkD w.heap.size]++a0.defers} (w3.putObj (w.heap.size+1) (.loop o)):=fun o=>⟨g1,w.heap.size::Ds,by show[mkD w.heap.size]++a0.defers=_;rw[g2];rfl,hK τ _ h4 _ _ _ (by rw[<-g3];exact cq.refl) (by rw[<-g3]at hd;exact hd _)⟩
   cases τ with
   |n=>exact wpIn_skip (fin _)
   |x i=>exact wpIn_exit (fin _)
   |r=>exact wpIn_ret (fin _)
end
end
section
section
variable{P:Program}{cf:Cf}
theorem ZS(hm:P.follows .mixedOrders=true)(hT:zT P cf.tt)(hL:jE P cf.tt)(hC: ∀s∈cf.cs,y5 P s)(hX:rm P cf){n:Nat}: ∀(c:Code),HG n c=true->Ax P cf n c
 | .skip,_,R,r,fr,cx,σ,K,Q,N,hN,ha,h,Ds,env,w,hK,hR=>fun _ h1 h2 h3=>wpIn_skip ⟨h1,Ds,h2,h3▸hK .n σ h Ds env w cq.refl hR⟩
 | .label _,_,R,r,fr,cx,σ,K,Q,N,hN,ha,h,Ds,env,w,hK,hR=>fun _ h1 h2 h3=>wpIn_label ⟨h1,Ds,h2,h3▸hK .n σ h Ds env w cq.refl hR⟩
 | .exit id,_,R,r,fr,cx,σ,K,Q,N,hN,ha,h,Ds,env,w,hK,hR=>fun _ h1 h2 h3=>wpIn_exit ⟨h1,Ds,h2,h3▸hK (.x id) σ h Ds env w cq.refl hR⟩
 | .ret,_,R,r,fr,cx,σ,K,Q,N,hN,ha,h,Ds,env,w,hK,hR=>fun _ h1 h2 h3=>wpIn_ret ⟨h1,Ds,h2,h3▸hK .r σ h Ds env w cq.refl hR⟩
 | .scope c,ho,R,r,fr,cx,σ,K,Q,N,hN,ha,h,Ds,env,w,hK,hR=>by
  refine NG (ZS hm hT hL hC hX c ho (K:=K) hN ha h (fun t σ' hk Ds' env' w' hs hR=> ?_) hR);have:=hK t σ' hk Ds' env' w' hs hR;cases t<;>exact this
 | .region id ops dr,ho,R,r,fr,cx,σ,K,Q,N,hN,ha,h,Ds,env,w,hK,hR=>by
  subst hN;refine zff ?_;have:=TM (id:=id) (N:=N.wd Ds) (fr:=fr.wd Ds) hm hT hL hC hX (Q:=fun e env w=>Q e Ds env w) (k:=fun σ=>K .n σ) (fun σ' hk env' w' hs hR=>hK .n σ' hk Ds env' w' hs hR) ho h hR;rwa[xde]at this
 | .cond c a b,ho,R,r,fr,cx,σ,K,Q,N,hN,ha,h,Ds,env,w,hK,hR=>by
  have ho:=(xam _ _).mp ho;have hd:N.rd=none\/Da a=true:=ha.imp id fun h=>((xam _ _).mp h).1;have hf:N.rd=none\/Da b=true:=ha.imp id fun h=>((xam _ _).mp h).2;simp only[UG]at h;obtain⟨hB,vs,ht⟩:=hR;have hR:uU P (fr.wd Ds) cx σ env w:=⟨hB,vs,ht⟩;obtain⟨S,_,hΓ⟩:=ht.ex;split at h
  ·next hv=>exact mG (zk hv (zW hΓ c)) (ZS hm hT hL hC hX a ho.1 hN hd h hK hR)
  ·next hv=>exact oh (zk hv (zW hΓ c)) (ZS hm hT hL hC hX b ho.2 hN hf h hK hR)
  ·next x hv=>
   have hx:ev env c= .bool x:=dM (zk hv (zW hΓ c));rcases Gi h with⟨rfl,h⟩|⟨rfl,h⟩
   ·exact mG hx (ZS hm hT hL hC hX a ho.1 hN hd h hK hR)
   ·exact oh hx (ZS hm hT hL hC hX b ho.2 hN hf h hK hR)
  ·cases h
 | .block id c,ho,R,r,fr,cx,σ,K,Q,N,hN,ha,h,Ds,env,w,hK,hR=>by
  refine Aq (ZS hm hT hL hC hX c ho (K:=fun t σ=>match t with
   | .x j=>HV (xan j id) (K .n σ) (K (.x j) σ)
   |t=>K t σ) hN ha h (fun t σ' hk Ds' env' w' hs hR=> ?_) hR)
  cases t with
  |n=>exact hK .n σ' hk Ds' env' w' hs hR
  |r=>exact hK .r σ' hk Ds' env' w' hs hR
  |x j=>
   simp only at hk;show Cv id Q (.exit j) Ds' env' w';simp only[Cv];cases hb:xan j id<;>rw[hb]at hk
   ·exact hK (.x j) σ' hk Ds' env' w' hs hR
   ·exact hK .n σ' hk Ds' env' w' hs hR
 | .seq a b,ho,R,r,fr,cx,σ,K,Q,N,hN,ha,h,Ds,env,w,hK,hR=>by
  have ho:=(xam _ _).mp ho;have hd:N.rd=none\/Da a=true:=ha.imp id fun h=>((xam _ _).mp h).1;have hf:N.rd=none\/Da b=true:=ha.imp id fun h=>((xam _ _).mp h).2;simp only[UG]at h;split at h
  ·refine lN (ZS hm hT hL hC hX a ho.1 hN hd h (fun t σ' hk Ds' env' w' hs hR=> ?_) hR)
   cases t with
   |n=>exact ZS hm hT hL hC hX b ho.2 hN hf hk (fun t σ2 hi Ds2 env2 w2 hj hn=>hK t σ2 hi Ds2 env2 w2 (hs.trans hj) hn) hR
   |x j=>exact hK (.x j) σ' hk Ds' env' w' hs hR
   |r=>exact hK .r σ' hk Ds' env' w' hs hR
  ·next s hs=>
   obtain⟨x,h1,h2⟩:=py h;obtain⟨hc,hp⟩:=nP (ag:=rk a) (ro:=s.ro) hR
   refine lN (SI (ZS hm hT hL hC hX a ho.1 (Q:=fun e Ds env' w=> ∃t σt,e=tgE t/\(match t with
    | .n=>UG cf b cx σt K
    |t=>K t σt)=some r/\cq cx env env'/\uU P (fr.wd Ds) cx σt env' w) hN hd h1 (fun t σ' hk Ds' env' w' hs hR=> ?_) hp) ?_)
   ·obtain⟨y,σt,e1,e2,e3⟩:=LG (P:=P) hc hk;cases e1
    have e4:=(e2 fun t σ=>match t with
     | .n=>UG cf b cx σ K
     |t=>K t σ).symm.trans h2
    exact⟨t,σt,rfl,by cases t<;>exact e4,fun e he=>hs e (Nm.2 (.inr he)),e3 _ env' w' hR⟩
   ·rintro e Ds' env' w' ⟨t,σt,rfl,hk,hq,hR⟩
    cases t with
    |n=>exact ZS hm hT hL hC hX b ho.2 hN hf hk (fun t σ2 hi Ds2 env2 w2 hj hn=>hK t σ2 hi Ds2 env2 w2 (hq.trans hj) hn) hR
    |x j=>exact hK (.x j) σt hk Ds' env' w' hq hR
    |r=>exact hK .r σt hk Ds' env' w' hq hR
 | .loop c,ho,R,r,fr,cx,σ,K,Q,N,hN,ha,h,Ds,env,w,hK,hR=>by
  simp only[UG]at h;split at h
  ·cases h
  ·next s hs=>
   obtain⟨hc,hp⟩:=nP (ag:=rk c) (ro:=s.sg.ro) hR;obtain⟨x,h1,h2⟩:=gm (P:=P) (cx:=jl cx (keep σ (rk c) s.sg.ro)) (kp:=⟨(keep σ (rk c) s.sg.ro).nx,[],[]⟩) h (Bq hc);obtain⟨s0,h3,h4⟩:=py h1;refine DV (G:=Nat×Wg s.hd.ds) (fun g Ds env' w=>zj _ g.1 g.2=some s0/\cq cx env env'/\uU P (fr.wd Ds) (jl cx (keep σ (rk c) s.sg.ro)) (VR s.hd g.2 ⟨(keep σ (rk c) s.sg.ro).nx,[],[]⟩) env' w) (fun g=>g.1) (cf.fu,x) ⟨h3,cq.refl,h2 _ env w hp⟩ ?_;rintro⟨n',x⟩ Ds env1 w ⟨hl,hA,hR⟩
   cases n' with
   |zero=>exact(LD hl).elim
   |succ n'=>
    refine ZS hm hT hL hC hX c ho hN ha (Mq hl) (fun t σ' hk Ds' env' w' hs hR=> ?_) hR;have hu:cq cx env env':=hA.trans fun e he=>hs e (Nm.2 (.inr he));have fin:(∀(y:SmD s.sg.tg) (σt:Sg),some y=some s0->(∀{R':Type} (K:Tg->Sg->Option R'),FK (keep σ (rk c) s.sg.ro) K s.sg.tg y=K t σt)->uU P (fr.wd Ds') cx σt env' w'->Q (tgE t) Ds' env' w'):=fun y σt e1 e2 e3=>by
     cases e1;exact hK t σt (by rw[<-h4];exact(e2 K).symm) Ds' env' w' hu e3
    cases t with
    |n=>
     obtain⟨x',h5,h6⟩:=gm (P:=P) (cx:=jl cx (keep σ (rk c) s.sg.ro)) (kp:=⟨(keep σ (rk c) s.sg.ro).nx,[],[]⟩) hk (Bq hc);exact⟨(n',x'),⟨h5,hu,h6 _ env' w' hR⟩,xbV n'⟩
    |x j=>
     obtain⟨y,σt,e1,e2,e3⟩:=LG (P:=P) hc hk;exact fin y σt e1 e2 (e3 _ env' w' hR)
    |r=>
     obtain⟨y,σt,e1,e2,e3⟩:=LG (P:=P) hc hk;exact fin y σt e1 e2 (e3 _ env' w' hR)
 | .rangeFunc g ps a c,ho,R,r,fr,cx,σ,K,Q,N,hN,ha,h,Ds,env,w,hK,hR=>by
  have ho:=(xam _ _).mp ho;have hw:=(xam _ _).mp ho.2;simp only[UG]at h;split at h
  ·next f cs s pt hg hs hI=>
   split at h
   ·next it τ sh hD hJ hE=>
    split at h
    ·next y hy=>
     obtain⟨hr,h⟩:=yi h;rw[xam]at hr;obtain⟨hF,hG⟩:=SG hD;subst hG;have hz:ps= #[pt]:=by cases ps;simp_all
     subst hz;have hH:pt<n:=by
      have:=ho.1;simpa using this
     subst hN;exact zbW hX (ZS hm hT hL hC hX a hw.1) (ZS hm hT hL hC hX c hw.2) hr.1 hr.2 (ha.resolve_right (by simp[Da])) hH hg hF hy hE h hK hR
    ·cases h
   ·cases h
  ·cases h
 | .refuse _,_,R,r,fr,cx,σ,K,Q,N,hN,ha,h,_,_,_,_,_=>by cases h
 | .goto _,_,R,r,fr,cx,σ,K,Q,N,hN,ha,h,_,_,_,_,_=>by cases h
end
end
section
def qh:List Nat->World->World
 |[],w=>w
 |D::Ds,w=>qh Ds (w.putObj D (.deferred none))
def ny:List Nat->World->Prop
 |[],_=>True
 |D::Ds,w=>w.heap[D]? =some (.deferred (some []))/\ny Ds (w.putObj D (.deferred none))
def mTk(D:Nat):MF where
 blk k:=k=D
 p _ w:=w.heap[D]? =some (.deferred none)
 keep h _ hb:=(hb D rfl).trans h
 sub h _:=h
 lt h k hk:=by subst hk;exact(xbj.1 h).1
section
variable{P:Program}{cf:Cf}{fr:Fr}{cx σ:Sg}{env:yP}
theorem Va: ∀{Ds:List Nat} {w:World},uU P (fr.wd Ds) cx σ env w->ny Ds w/\uU P fr cx σ env (qh Ds w)
 |[],w,h=>⟨trivial,h⟩
 |D::Ds,w,h=>by
  have h1:w.heap[D]? =some (.deferred (some [])):=AH h (m:=wH D) (FS) fun S hp=>hp;have h2:=Dn (A:=[]) (m:=wH D) (m':=mTk D) (B:=Ds.map wH++fr.F) h (fun k=>Iff.rfl) (fun k h=>h) (o:= .deferred none) fun S w' h=>h;have h3:uU P (fr.wd Ds) cx σ env (w.putObj D (.deferred none)):=by
   obtain⟨hB,vs,ha⟩:=h2;refine⟨hB,vs,?_⟩;have h4:St fr.we fr.Se ((MS vs σ.ob++MS vs cx.ob)++([mTk D]++(Ds.map wH++fr.F))) (RS P vs env σ.rg++(RS P vs env cx.rg++fr.G)) (w.putObj D (.deferred none)):=by
    have:St fr.we fr.Se (MS vs σ.ob++(MS vs cx.ob++([]++mTk D::(Ds.map wH++fr.F)))) (RS P vs env σ.rg++(RS P vs env cx.rg++fr.G)) (w.putObj D (.deferred none)):=ha;simpa only[xal,xbF,xfr]using this
   have h5:=St.dropM h4;show St fr.we fr.Se (MS vs σ.ob++(MS vs cx.ob++(Ds.map wH++fr.F))) (RS P vs env σ.rg++(RS P vs env cx.rg++fr.G)) _;simpa only[xal]using h5
  obtain⟨h4,h5⟩:=Va h3;exact⟨⟨h1,h4⟩,h5⟩
theorem KD{F:Fence}{n:Nat}{fn:Func}{tmps:Array Value}{Q:Ending->World->Prop}: ∀{Ds:List Nat} {w:World},ny Ds w->(∃v,(results fn tmps).run P (qh Ds w)= .ok v (qh Ds w)/\Q (.returned v) (qh Ds w))->LeavesInM F n P fn tmps Q (Ds.map mkD) .returning w
 |[],w,_,h=>h
 |D::Ds,w,hm,h=>⟨by simp,.inl ⟨D,_,rfl,run_takeDeferred hm.1,KD hm.2 h⟩⟩
theorem Qx{f:FuncId}{fn:Func}{c:Code}{args:List Value}{w:World}{Q:Ending->World->Prop}(hf:P.funcs[f]? =some fn)(hb:fn.body=some c)(hn:xfO args.length fn.ntmps=true)
 (h: ∀rest,C7 P (Nd.of fn.ntmps) c (fun e Ds env w=>(e= .normal\/e= .ret)/\ny Ds w/\ ∀a:Act,yr a=env-> ∃v,(results fn a.tmps).run P (qh Ds w)= .ok v (qh Ds w)/\Q (.returned v) (qh Ds w)) [] (L ((args.zipIdx 0).map fun x=>(x.2,x.1)) rest) w):
 Calls P f args.toArray w Q:=by
 have hn:=xbJ hn;refine callsIn_wide.1 (callsIn_of_wp_marks (n:=0) hf hb trivial ?_);have ha:Vm (yr ⟨args.toArray++xep (fn.ntmps-args.toArray.size) undef,[]⟩) ((args.zipIdx 0).map fun x=>(x.2,x.1)):=by
  refine aw args 0 _ fun j=> ?_;rw[o8];simp[xbl,UV]
 refine wpIn_mono (h _ _ (by simp[Nd.of];omega) rfl (Q6 ha).symm) ?_;rintro e a' w' ⟨q1,Ds,q2,he,hm,hv⟩;obtain⟨v,h1,h2⟩:=hv a' rfl;rcases he with rfl|rfl
 ·show LeavesInM _ _ P fn a'.tmps Q a'.defers .returning w';rw[q2];exact KD hm ⟨v,h1,h2⟩
 ·show LeavesInM _ _ P fn a'.tmps Q a'.defers .returning w';rw[q2];exact KD hm ⟨v,h1,h2⟩
end
end
section
section
variable{P:Program}{cf:Cf}{fr:Fr}{σ:Sg}{vs:Nat->Value}{env:yP}{w:World}{R:Type}{r:R}
theorem Fu{rest:yP}: ∀{l:List Value} {i j:Nat} {v:Value},l[j]? =some v->L ((l.zipIdx i).map fun x=>(x.2,x.1)) rest (i+j)=v
 |a::l,i,0,v,h=>by
  simp only[xbA,xaw]at h;simp[L,h]
 |a::l,i,j+1,v,h=>by
  simp only[List.zipIdx_cons,xbR,L];rw[SU (show i+(j+1)≠i by omega)];have:=Fu (rest:=rest) (l:=l) (i:=i+1) (j:=j) (v:=v) (by simpa using h);rw[show i+1+j=i+(j+1)by omega]at this;exact this
theorem Iv: ∀{dom:List AM} {x:Kc dom} {i:Nat} {l:List Value},l.length=dom.length->(∀j v,l[j]? =some v->vs (i+j)=v)->MS vs (Wi dom x i).2=YX dom x l
 |[],_,_,_,_,_=>rfl
 |a::dom,x,i,[],hl,_=>by cases hl
 |a::dom,x,i,v::l,hl,h=>by
  have ih:MS vs (Wi dom x.2 (i+1)).2=YX dom x.2 l:=Iv (by simpa using hl) fun j v hj=>by
   have:=h (j+1) v (by simpa using hj);rw[<-this];congr 1;omega
  have h0:vs i=v:=h 0 v rfl
  cases a with
  |own t E=>
   show mO t.rep E (vs i) x.1::MS vs (Wi dom x.2 (i+1)).2=mO t.rep E v x.1::YX dom x.2 l;rw[ih,h0]
  |_=>exact ih
theorem Ho{S:Nat->Prop}: ∀{dom:List AM} {x:Kc dom} {i:Nat} {l:List Value},l.length=dom.length->(∀j v,l[j]? =some v->vs (i+j)=v/\env (i+j)=v)->zA S (kL P dom x l) w->zA S (RS P vs env (Wi dom x i).1) w
 |[],_,_,_,_,_,_=>trivial
 |a::dom,x,i,[],hl,_,_=>by cases hl
 |a::dom,x,i,v::l,hl,h,hA=>by
  have ih:zA S (RS P vs env (Wi dom x.2 (i+1)).1) w:=Ho (l:=l) (by simpa using hl) (fun j v hj=>by
   have:=h (j+1) v (by simpa using hj);rw[show i+1+j=i+(j+1)by omega];exact this) hA.2
  have h0:vs i=v/\env i=v:=h 0 v rfl;have ha:(amF P a x.1 v).p S w:=hA.1
  cases a with
  |d t=>exact⟨show(fV t.rep x.1 (env i)).p S w by rw[h0.2];exact ha,ih⟩
  |q t=>exact⟨show(fP t.rep x.1 (env i)).p S w by rw[h0.2];exact ha,ih⟩
  |own t E=>exact⟨show env i=vs i by rw[h0.1,h0.2],ih⟩
  |fn dom' cod'=>exact⟨show(fnF P dom' cod' x.1 (env i)).p S w by rw[h0.2];exact ha,ih⟩
theorem H8: ∀{dom:List AM} {x:Kc dom} {i:Nat},∀e∈(Wi dom x i).2,e.1<i+dom.length
 |[],_,_,e,he=>absurd he xaa
 |a::dom,x,i,e,he=>by
  have ih: ∀e∈(Wi dom x.2 (i+1)).2,e.1<i+(a::dom).length:=fun e he=>by
   have:=H8 e he;simp only[xav];omega
  cases a with
  |own t E=>
   rcases xae.1 (show e∈(i,Od.own t E x.1)::(Wi dom x.2 (i+1)).2 from he)with rfl|he
   ·simp only[xav];omega
   ·exact ih e he
  |_=>exact ih e he
theorem BW: ∀{dom:List AM} {x:Kc dom} {i:Nat},∀e∈(Wi dom x i).1,∀p,wa e.2.2=some p->p<i+dom.length
 |[],_,_,e,he=>absurd he xaa
 |a::dom,x,i,e,he=>by
  intro p hp;have ih: ∀e∈(Wi dom x.2 (i+1)).1,∀p,wa e.2.2=some p->p<i+(a::dom).length:=fun e he p hp=>by
   have:=BW e he p hp;simp only[xav];omega
  cases a with
  |own t E=>
   rcases xae.1 (show e∈(i,0,Dv.ow i)::(Wi dom x.2 (i+1)).1 from he)with rfl|he
   ·cases hp;simp only[xav];omega
   ·exact ih e he p hp
  |d t=>
   rcases xae.1 (show e∈(i,0,Dv.d t x.1)::(Wi dom x.2 (i+1)).1 from he)with rfl|he
   ·cases hp
   ·exact ih e he p hp
  |q t=>
   rcases xae.1 (show e∈(i,0,Dv.q t x.1)::(Wi dom x.2 (i+1)).1 from he)with rfl|he
   ·cases hp
   ·exact ih e he p hp
  |fn d c=>
   rcases xae.1 (show e∈(i,0,Dv.fp d c x.1)::(Wi dom x.2 (i+1)).1 from he)with rfl|he
   ·cases hp
   ·exact ih e he p hp
theorem KB: ∀(l:List ResultVar) (ms:List RM) {σ:Sg},uU P fr ⟨0,[],[]⟩ σ env w->uU P fr ⟨0,[],[]⟩ (KA σ l ms) env w
 |[],_,_,h=>by unfold KA;exact h
 | .tmp t::l,[],_,h=>by unfold KA;exact h
 | .tmp t::l,.d _::ms,_,h=>by unfold KA;exact KB l ms (CW _ h)
 | .tmp t::l,.own _ _::ms,_,h=>by unfold KA;exact KB l ms h
 | .cell t E::l,[],_,h=>by unfold KA;exact h
 | .cell t E::l,m::ms,_,h=>by unfold KA;exact KB l ms h
theorem P4(hT:zT P cf.tt){rv:ResultVar}{m:RM}{k:m.D->List Nat->Option R}(h:B8 cf σ rv m k=some r): ∃x os,k x os=some r/\
 ∀vs (fr:Fr) env (A:List MF) (Γ:List FF) w (os':List Nat),(∀S w,zA S Γ w-> ∀t,Lk P vs env S w ⟨0,[],[]⟩ σ t)->(∀o∈os,aN os' o=false)->St fr.we fr.Se (A++OS vs fr ⟨0,[],[]⟩ (w6 σ.ob os')) Γ w->
  ∃v,zbL P w env rv v/\St fr.we fr.Se (rmM m x v++(A++OS vs fr ⟨0,[],[]⟩ (w6 σ.ob (os++os')))) (rmF m x v++Γ) w:=by
 cases rv with
 |tmp t=>
  cases m with
  |d s=>
   simp only[B8]at h;have hc:=h;obtain⟨y,h,hy⟩:=Ru h;refine⟨y,[],h,fun vs fr env A Γ w os' hl _ ha=>⟨env t,rfl,?_⟩⟩;refine ha.weak fun S w hΓ=>⟨?_,hΓ⟩
   cases hg:get ⟨0,[],[]⟩ σ t 0 with
   |none=>rw[hg]at hc;cases hc
   |some v=>exact hy P vs S w v _ hg (hl S w hΓ t 0 v hg)
  |own s E=>
   simp only[B8]at h;obtain⟨x,os,h1,_,h2,h3⟩:=Hj h;refine⟨x,os,h1,fun vs fr env A Γ w os' hl hn ha=>⟨env t,rfl,?_⟩⟩;exact h3 P vs fr env A Γ w os' (fun S w hΓ=>hl S w hΓ t) hn ha
 |cell t E=>
  cases m with
  |own s E'=>simp only[B8]at h;cases h
  |d s=>
   simp only[B8]at h;split at h
   ·next o s0 ti hg he=>
    split at h
    ·next s' E' z ho=>
     obtain⟨hE,h1⟩:=yi h;have hE:=ya hE;subst hE;obtain⟨e,h2⟩:=ym h1;cases e;obtain⟨e,h3⟩:=ym h2;cases e;refine⟨_,[o],h3,fun vs fr env A Γ w os' hl hn ha=> ?_⟩;have hp:=kF (vs:=vs) (fr:=fr) (cx:=⟨0,[],[]⟩) ((jJ (hn o (FS))).trans ho);have h3:=St.mid (St.perm ha (xca _ hp));obtain⟨S,_,hΓ⟩:=ha.ex;obtain⟨hv,b,hb⟩:=hl S w hΓ t 0 _ hg;obtain⟨⟨zero,ht,_⟩,_⟩:=hT E ti he;have h4:St fr.we fr.Se (mP ti.ty.rep.c E (vs o) z::(A++OS vs fr ⟨0,[],[]⟩ (yC (w6 σ.ob os') o))) Γ w:=h3;obtain⟨b',hd,h5⟩:=h4.openP 0 rfl;rw[hb]at hd;cases hd;refine SN 0 h5 rfl (hv.trans hb) ht fun v hs hr=>⟨v,hr,?_⟩;exact St.drop (i:=0) hs
    ·cases h
   ·cases h
theorem HT(hT:zT P cf.tt): ∀{rvs:List ResultVar} {cod:List RM} {k:bj cod->List Nat->Option R},GP cf σ rvs cod k=some r-> ∃x os,k x os=some r/\
 ∀vs (fr:Fr) env (Γ:List FF) w,(∀S w,zA S Γ w-> ∀t,Lk P vs env S w ⟨0,[],[]⟩ σ t)->St fr.we fr.Se (OS vs fr ⟨0,[],[]⟩ σ.ob) Γ w->
  ∃us,us.length=cod.length/\KO P w env rvs us/\St fr.we fr.Se (uY cod x us++OS vs fr ⟨0,[],[]⟩ (w6 σ.ob os)) (uI cod x us++Γ) w
 |[],[],k,h=>⟨(),[],h,fun vs fr env Γ w _ ha=>⟨[],rfl,trivial,ha⟩⟩
 |[v],[m],k,h=>by
  obtain⟨x,os,h1,h2⟩:=P4 hT (h:B8 cf σ v m k=some r);refine⟨x,os,h1,fun vs fr env Γ w hl ha=> ?_⟩;obtain⟨u,h3,h4⟩:=h2 vs fr env [] Γ w [] hl (fun _ _=>rfl) ha;rw[xbN]at h4;exact⟨[u],rfl,⟨h3,trivial⟩,h4⟩
 |v::v'::rvs,m::m'::ms,k,h=>by
  obtain⟨x,o,h1,h2⟩:=P4 hT (h:B8 cf σ v m _=some r);obtain⟨y,os,h3,h4⟩:=HT hT h1;obtain⟨hn,h3⟩:=yi h3;refine⟨(x,y),o++os,h3,fun vs fr env Γ w hl ha=> ?_⟩;obtain⟨us,h5,h6,h7⟩:=h4 vs fr env Γ w hl ha;obtain⟨u,h8,h9⟩:=h2 vs fr env (uY (m'::ms) y us) (uI (m'::ms) y us++Γ) w os (fun S w hΓ=>hl S w (zA.right hΓ)) (Dq hn) h7;refine⟨u::us,by simpa using h5,⟨h8,h6⟩,?_⟩;show St _ _ ((rmM m x u++uY (m'::ms) y us)++_) ((rmF m x u++uI (m'::ms) y us)++Γ) w;rw[xal,xal];exact h9
 |[],_::_,_,h=>by cases h
 |[_],[],_,h=>by cases h
 |[_],_::_::_,_,h=>by cases h
 |_::_::_,[],_,h=>by cases h
 |_::_::_,[_],_,h=>by cases h
theorem Im(hm:P.follows .mixedOrders=true)(hT:zT P cf.tt)(hL:jE P cf.tt)(hC: ∀s∈cf.cs,y5 P s)(hX:rm P cf){s:Vb}{fn:Func}
 (hf:P.funcs[s.f]? =some fn) (hb:rf P s.f=true) (hk:s.bk=0) (hM: ∀x r,s.M x=some r->Ik cf fn s.dom s.cod x=some r):y5 P s:=by
 refine⟨hb,fun x r h vs hd=> ?_⟩;rw[hk];show MA P s.f vs.toArray (YX s.dom x vs) (kL P s.dom x vs) ZR (fun us=>uY s.cod r us) (fun us=>uI s.cod r us) (fun us=>us.length=s.cod.length);have h:=hM x r h;unfold Ik at h;split at h
 ·next c hc=>
  obtain⟨ho,h⟩:=yi h;rw[xam]at ho;intro we Se F G w hg;refine Qx hf hc (by rw[hd];exact ho.2) fun rest=> ?_;refine ZS (fr:=⟨we,Se,F,G⟩) (N:=Nd.of fn.ntmps) hm hT hL hC hX c ho.1 rfl (.inl rfl) h (fun t σ' hk Ds env w _ hR=> ?_) ?_
  ·obtain⟨hi,hR⟩:=Va hR
   have fin:GP cf (KA σ' fn.results.toList s.cod) fn.results.toList s.cod (fun y _=>some y)=some r-> ∀a:Act,yr a=env->
    ∃v,(results fn a.tmps).run P (qh Ds w)= .ok v (qh Ds w)/\ ∃u:List Value,xet v= .returned (ZR u)/\u.length=s.cod.length/\St we Se (uY s.cod r u++F) (uI s.cod r u++G) (qh Ds w):=fun h a ha=>by
    have hl:=KB fn.results.toList s.cod hR;generalize KA σ' fn.results.toList s.cod=σ1 at h hl;obtain⟨hB,vs,hg⟩:=hl;obtain⟨y,os,e1,e2⟩:=HT hT h;cases e1;obtain⟨us,h1,h2,h3⟩:=e2 vs ⟨we,Se,F,G⟩ env _ _ (fun S w hΓ t=>ZT hΓ t) hg;refine⟨_,Y8 (rs:=fn.results.toList) (by rw[xde]) (ha▸h2),us,rfl,h1,?_⟩;exact(St.dropM (B:=MS vs (w6 σ1.ob os)) h3).weak fun S w hΓ=>zA.append (zA.left hΓ) (zA.right (zA.right hΓ))
   cases t with
   |n=>exact⟨.inl rfl,hi,fin hk⟩
   |r=>exact⟨.inr rfl,hi,fin hk⟩
   |x j=>cases hk
  ·have e0: ∀j v,vs[j]? =some v->vs.getD (0+j) undef=v:=fun j v hj=>by rw[xaT,UV,hj];rfl
   refine⟨⟨fun e he=> ?_,fun _ he=>absurd he xaa,fun e he p hp=> ?_,fun _ he=>absurd he xaa⟩,fun o=>vs.getD o undef,?_⟩
   ·have:=H8 e he;simpa using this
   ·have:=BW e he p hp;simpa using this
   ·have e1:MS (fun o=>vs.getD o undef) (Wi s.dom x 0).2=YX s.dom x vs:=Iv hd e0;show St we Se (MS _ (Wi s.dom x 0).2++([]++F)) _ w;rw[e1];exact hg.weak fun S w hΓ=>zA.append (Ho hd (fun j v hj=>⟨e0 j v hj,Fu hj⟩) (zA.left hΓ)) (zA.right hΓ)
 ·cases h
theorem Tk{S:Nat->Prop}{pn:Nat->Value}: ∀{dom:List AM} {i:Nat},(∀j,j<dom.length->env (i+j)=pn (i+j))->zA S (RS P vs env (C6 pn dom i)) w
 |[],_,_=>trivial
 |a::dom,i,h=>by
  have ih:zA S (RS P vs env (C6 pn dom (i+1))) w:=Tk fun j hj=>by
   have:=h (j+1) (by simp only[xav];omega);rw[show i+1+j=i+(j+1)by omega];exact this
  cases a with
  |own t E=>exact⟨h 0 (by simp),ih⟩
  |_=>exact ih
theorem cL{S:Nat->Prop}{l:List Value}: ∀{dom:List AM} {i:Nat} {us:List Value},zA S (RS P vs env (C6 (fun o=>l.getD o undef) dom i)) w->KO P w env (BE dom i) us->us=Kb dom (l.drop i)
 |[],_,[],_,_=>rfl
 |[],_,_::_,_,h=>h.elim
 |a::dom,i,us,hA,h=>by
  have e0:(l.drop i).headD undef=l.getD i undef:=by rw[List.headD_eq_head?_getD,List.head?_drop,UV]
  have e1:(l.drop i).tail=l.drop (i+1):=by rw[List.tail_drop]
  cases a with
  |own t E=>
   cases us with
   |nil=>exact h.elim
   |cons u us=>
    have h1:env i=u:=h.1;have h2:env i=l.getD i undef:=hA.1;have ih:=cL (dom:=dom) (i:=i+1) hA.2 h.2;show u::us=(l.drop i).headD undef::Kb dom (l.drop i).tail;rw[e0,e1,<-ih,<-h1,h2]
  |d t=>
   have ih:=cL (dom:=dom) (i:=i+1) hA h;show us=Kb dom (l.drop i).tail;rw[e1];exact ih
  |q t=>
   have ih:=cL (dom:=dom) (i:=i+1) hA h;show us=Kb dom (l.drop i).tail;rw[e1];exact ih
  |fn d c=>
   have ih:=cL (dom:=dom) (i:=i+1) hA h;show us=Kb dom (l.drop i).tail;rw[e1];exact ih
theorem oj: ∀{a b:List ResultVar} {us:List Value},KO P w env (a++b) us->KO P w env a (us.take a.length)/\KO P w env b (us.drop a.length)
 |[],b,us,h=>⟨trivial,h⟩
 |r::a,b,[],h=>h.elim
 |r::a,b,u::us,h=>by
  obtain⟨h1,h2⟩:=oj (a:=a) (b:=b) h.2;exact⟨⟨h.1,h1⟩,h2⟩
theorem cM{pn:Nat->Value}: ∀{dom:List AM} {i:Nat},∀e∈C6 pn dom i,wa e.2.2=none
 |[],_,e,he=>absurd he xaa
 |a::dom,i,e,he=>by
  cases a with
  |own t E=>
   rcases xae.1 (show e∈(i,0,Dv.pin (pn i))::C6 pn dom (i+1)from he)with rfl|he
   ·rfl
   ·exact cM e he
  |d t=>exact cM (dom:=dom) (i:=i+1) e he
  |q t=>exact cM (dom:=dom) (i:=i+1) e he
  |fn d c=>exact cM (dom:=dom) (i:=i+1) e he
theorem zeM(hm:P.follows .mixedOrders=true)(hT:zT P cf.tt)(hL:jE P cf.tt)(hC: ∀s∈cf.cs,y5 P s)(hX:rm P cf){s:Vb}{fn:Func}
 (hf:P.funcs[s.f]? =some fn) (hb:rf P s.f=true) (hM: ∀pn x r,s.M x=some r->zbo cf fn s.dom s.cod s.bk pn x=some r):y5 P s:=by
 refine⟨hb,fun x r h vs hd=> ?_⟩;have h:=hM (fun o=>vs.getD o undef) x r h;unfold zbo at h;split at h
 ·next c hc=>
  obtain⟨ho,h⟩:=yi h;simp only[xam]at ho;obtain⟨⟨⟨⟨hx,hy⟩,hq⟩,hE⟩,hr⟩:=ho;have hq:=ya hq;have hr:0<s.bk:=Nat.blt_eq.mp hr;obtain⟨b,hz⟩: ∃b,s.bk=b+1:=⟨s.bk-1,by omega⟩;rw[hz];intro we Se F G w hl;refine Qx hf hc (by rw[hd];exact hy) fun rest=> ?_;have e0: ∀j v,vs[j]? =some v->vs.getD (0+j) undef=v:=fun j v hj=>by rw[xaT,UV,hj];rfl
  refine ZS (fr:=⟨we,Se,F,G⟩) (N:=Nd.of fn.ntmps) hm hT hL hC hX c hx rfl (.inl rfl) h (fun t σ' hk Ds env w _ hR=> ?_) ?_
  ·obtain⟨hs,hR⟩:=Va hR
   have fin:GP cf (KA σ' (fn.results.toList++BE s.dom 0) s.cod) (fn.results.toList++BE s.dom 0) s.cod (fun y _=>some y)=some r-> ∀a:Act,yr a=env->
    ∃v,(results fn a.tmps).run P (qh Ds w)= .ok v (qh Ds w)/\ ∃u:List Value,xet v= .returned (zgR (b+1) s.cod.length u)/\zdN s.dom vs (b+1) s.cod.length u/\St we Se (uY s.cod r u++F) (uI s.cod r u++G) (qh Ds w):=fun h a ha=>by
    obtain⟨ht,vs0,hi⟩:=hR;obtain⟨S0,_,hA⟩:=hi.ex;have hu:zA S0 (RS P vs0 env (C6 (fun o=>vs.getD o undef) s.dom 0)) _:=zA.left (zA.right hA);have hD:uU P ⟨we,Se,F,G⟩ ⟨0,[],[]⟩ σ' env (qh Ds w):=⟨⟨ht.o1,fun _ he=>absurd he xaa,ht.r1,fun _ he=>absurd he xaa⟩,vs0,hi.weak fun S w ha=>zA.append (zA.left ha) (zA.right (zA.right ha))⟩;have hv:=KB (fn.results.toList++BE s.dom 0) s.cod hD;generalize KA σ' (fn.results.toList++BE s.dom 0) s.cod=σ1 at h hv;obtain⟨hB,vs1,hl⟩:=hv;obtain⟨y,os,e1,e2⟩:=HT hT h;cases e1;obtain⟨us,h1,h2,h3⟩:=e2 vs1 ⟨we,Se,F,G⟩ env _ _ (fun S w hΓ t=>ZT hΓ t) hl;obtain⟨h4,h5⟩:=oj h2;have hn:s.cod.length-(b+1)=fn.results.toList.length:=by omega
    have hg:=cL hu h5;rw[List.drop_zero]at hg;refine⟨_,Y8 (rs:=fn.results.toList) (by rw[xde]) (ha▸h4),us,?_,⟨h1,by rw[hn];exact hg⟩,?_⟩
    ·show xet _= .returned (ZR (us.take (s.cod.length-(b+1))));rw[hn]
    ·exact(St.dropM (B:=MS vs1 (w6 σ1.ob os)) h3).weak fun S w hΓ=>zA.append (zA.left hΓ) (zA.right (zA.right hΓ))
   cases t with
   |n=>exact⟨.inl rfl,hs,fin hk⟩
   |r=>exact⟨.inr rfl,hs,fin hk⟩
   |x j=>cases hk
  ·refine⟨⟨fun e he=> ?_,fun _ he=>absurd he xaa,fun e he p hp=> ?_,fun e he p hp=> ?_⟩,fun o=>vs.getD o undef,?_⟩
   ·have:=H8 e he;simpa using this
   ·have:=BW e he p hp;simpa using this
   ·rw[cM e he]at hp;cases hp
   ·have e1:MS (fun o=>vs.getD o undef) (Wi s.dom x 0).2=YX s.dom x vs:=Iv hd e0;show St we Se (MS _ (Wi s.dom x 0).2++([]++F)) _ w;rw[e1];refine hl.weak fun S w hΓ=>zA.append (Ho hd (fun j v hj=>⟨e0 j v hj,Fu hj⟩) (zA.left hΓ)) (zA.append (Tk fun j hj=> ?_) (zA.right hΓ));have hw:vs[j]? =some (vs[j]'(by omega)):=IR (by omega);show L _ _ (0+j)=vs.getD (0+j) undef;rw[e0 j _ hw];exact Fu hw
 ·cases h
end
end
end Go.Proofs.YtmggkmchbdanfaaGreat
