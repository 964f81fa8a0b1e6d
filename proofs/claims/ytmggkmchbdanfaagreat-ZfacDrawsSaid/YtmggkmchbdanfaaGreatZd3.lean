/- What a proof needs: rules of walking, mirrors of functions and their plain laws. No condition. -/
import Derived.Test.YtmggkmchbdanfaaGreatZd2
import Derived.RangeFuncLeaves
set_option linter.unusedVariables false
set_option linter.unusedSimpArgs false
namespace Go.Proofs.YtmggkmchbdanfaaGreat
open Bool renaming and_eq_true->xam,false_eq_true->xah,false_or->xec,not_eq_true'->xdm,not_true->xdK,or_eq_true->xdT
open Deferred renaming ofValue->xdG
open Ending renaming returned->xer
open Fence renaming wide->xfO
open List renaming all_eq_true->xaP,any_eq_true->xeG,append_assoc->xak,append_nil->xbK,cons_append->xbN,filterMap_cons->xaO,filterMap_eq_nil_iff->xdR,filter_cons->xdh,getD_eq_getElem?_getD->UV,getElem?_append_left->xbn,getElem?_append_right->xci,getElem?_cons_zero->xbz,getElem?_eq_getElem->IR,getElem?_eq_some_iff->xar,getElem?_map->xaA,getElem?_take->xbT,length->xaF,length_cons->xav,length_eq_one_iff->xfd,length_eq_zero_iff->xbF,length_map->xaM,length_replicate->xaT,length_set->xcG,length_take->xay,map_append->xaN,map_congr_left->xbL,map_cons->xbP,map_nil->xep,mem_append->xaa,mem_cons->xad,mem_cons_of_mem->H1,mem_cons_self->FS,mem_filter->xbW,mem_filterMap->xeX,mem_map->xal,mem_of_getElem?->xbr,mem_of_mem_drop->xeD,mem_range->xaQ,mem_singleton->xai,nil_append->xbE,not_mem_nil->Nm,perm_append_comm_assoc->xdD,perm_middle->xcp,range->xbb,set->xfQ,singleton_append->xfq,take_length->xcR,take_of_length_le->xaX
open List.Perm renaming append_left->xbZ,append_right->xfe,refl->xdA,swap->xeF
open List.cons renaming injEq->xeq
open Nat renaming add_sub_cancel_left->xeT,add_zero->xcg,beq->xan,ble->xfN,blt->xdl,eq_of_beq_eq_true->xcH,le_add_right->xbI,le_mul_of_pos_right->xck,le_of_ble_eq_true->xbH,le_refl->xac,le_succ->xcc,le_trans->xao,lt_of_lt_of_le->xap,lt_or_ge->xch,lt_succ_of_lt->xfi,lt_succ_self->xbV,zero_add->xaS,zero_le->xaj,zero_lt_one->xdY
open Oper renaming looksAt->xby
open Option renaming isNone_none->xeW
open Option.some renaming injEq->xaw
open Prod.mk renaming injEq->xct
open Region renaming binds->xco
open Sum renaming elim->xfo
open Value renaming bool->xej,cells->xfD
open _root_.Array renaming getD_eq_getD_getElem?->xbl,getElem?_eq_some_iff->xbj,mem_toList_iff->xdf,replicate->xen,toArray_toList->xde
section
section
variable{P:Program}{cf:Cf}{fr:Fr}{cx σ:Sg}{vs vs':Nat->Value}{env:yM}{w:World}{R:Type}{r:R}
 {d:Option Tmp} {ty t yt:TypeId} {pos:String} {aft:Array Edge} {g:Option (Nat×Bool)} {x y:Operand}
theorem zaj{a b:Nat}(h:a≠b):xan a b=false:=uk h
theorem VX: ∀{ob:List (Nat×Od)} {o p:Nat},p≠o->xG (yD ob o) p=xG ob p
 |[],_,_,_=>rfl
 |(q,X)::r,o,p,h=>by
  unfold yD;cases hb:xan q o
  ·simp only[cond_false];unfold xG;rw[VX h]
  ·simp only[cond_true];have:=z8 hb;subst this;conv=>rhs;unfold xG
   rw[zaj (fun e=>h e.symm)];rfl
theorem jW{ob:List (Nat×Od)}{p:Nat}: ∀{os:List Nat},aN os p=false->xG (wU ob os) p=xG ob p
 |[],_=>rfl
 |o::r,h=>by
  simp only[aN,List.any_cons,Bool.or_eq_false_iff]at h;unfold wU;rw[VX (fun e=>by subst e;simp at h),jW h.2]
theorem Qu{ob:List (Nat×Od)}: ∀{os:List Nat},∀e∈wU ob os,e∈ob
 |[],_,h=>h
 |o::r,e,h=>Qu (os:=r) e (kT e h)
theorem LZ{α:Type _}: ∀{l:List α} {i:Nat} {a:α},l[i]? =some a->l.Perm (a::l.eraseIdx i)
 |[],_,_,h=>by simp at h
 |b::l,0,a,h=>by simp at h;subst h;exact xdA _
 |b::l,i+1,a,h=>((LZ (l:=l) (i:=i) (by simpa using h)).cons b).trans (xeF _ _ _)
theorem kg{ob:List (Nat×Od)}{o:Nat}{X:Od}(h:xG ob o=some X):(OS vs fr cx ob).Perm (VO vs (o,X)::OS vs fr cx (yD ob o)):=by
 obtain⟨i,h1,_,h3⟩:=x8 h;show(MS vs ob++(MS vs cx.ob++fr.F)).Perm (VO vs (o,X)::(MS vs (yD ob o)++(MS vs cx.ob++fr.F)));rw[h3,<-KC h1];exact LZ (Wz h1)
theorem K2(hC: ∀s∈cf.cs,y5 P s): ∀{dom:List AM} {xs:List Operand} {cs:List PD} {k:JW dom->List Nat->Option R},ZJ cf cx σ dom xs cs k=some r->
 ∃z os,k z os=some r/\xs.length+cs.length=dom.length/\(∀o∈os,∃X,(o,X)∈σ.ob)/\ ∀vs (fr:Fr) env S w,(∀x,ZA P vs env S w cx σ x)-> ∀cvs:List Value,cvs.length=cs.length->zz S (CC cs cvs) w->
  zz S (kE P dom z (xs.map (ev env)++cvs)) w/\(OS vs fr cx σ.ob).Perm (YM dom z (xs.map (ev env)++cvs)++OS vs fr cx (wU σ.ob os))/\J9 dom (xs.map (ev env)++cvs)=os.map vs
 |[],[],[],k,h=>⟨(),[],h,rfl,fun _ ho=>absurd ho Nm,fun _ _ _ _ _ _ _ _ _=>⟨trivial,xdA _,rfl⟩⟩
 | .q t::dom,[],c::cs,k,h=>by
  simp only[ZJ]at h;obtain⟨e,h⟩:=yi h;subst e;obtain⟨z,os,h1,h2,ho,h3⟩:=K2 hC h;refine⟨_,os,h1,by simp at h2⊢;omega,ho,fun vs fr env S w hl cvs ha hb=> ?_⟩
  cases cvs with
  |nil=>cases ha
  |cons v cvs=>obtain⟨h4,h5,h6⟩:=h3 vs fr env S w hl cvs (by simpa using ha) hb.2;exact⟨⟨hb.1,h4⟩,h5,h6⟩
 | .d t::dom,x::xs,cs,k,h=>by
  simp only[ZJ]at h;obtain⟨y,h,hy⟩:=Xv h;obtain⟨z,os,h1,h2,ho,h3⟩:=K2 hC h;exact⟨_,os,h1,by simp at h2⊢;omega,ho,fun vs fr env S w hl cvs ha hb=>by obtain⟨h4,h5,h6⟩:=h3 vs fr env S w hl cvs ha hb;exact⟨⟨hy P vs env S w (hl x),h4⟩,h5,h6⟩⟩
 | .q t::dom,x::xs,cs,k,h=>by
  simp only[ZJ]at h;split at h
  ·next s y hx=>
   obtain⟨e,h⟩:=yi h;subst e;obtain⟨z,os,h1,h2,ho,h3⟩:=K2 hC h;exact⟨_,os,h1,by simp at h2⊢;omega,ho,fun vs fr env S w hl cvs ha hb=>by obtain⟨h4,h5,h6⟩:=h3 vs fr env S w hl cvs ha hb;exact⟨⟨zk hx (hl x),h4⟩,h5,h6⟩⟩
  ·cases h
 | .own t E::dom,x::xs,cs,k,h=>by
  simp only[ZJ]at h;split at h
  ·next o hx=>
   split at h
   ·next s E' ys hc=>
    obtain⟨hE,h7⟩:=yh h;have hE:=z8 hE;subst hE;obtain⟨e,h8⟩:=yi h7;cases e;obtain⟨z,os,h9,h2,ho,h3⟩:=K2 hC h8;obtain⟨hn,h1⟩:=yh h9;simp only[xdm]at hn;refine⟨_,o::os,h1,by simp at h2⊢;omega,fun p hp=> ?_,fun vs fr env S w hl cvs ha hb=> ?_⟩
    ·rcases xad.1 hp with rfl|hp
     ·obtain⟨i,h4,_⟩:=x8 hc;exact⟨_,xbr h4⟩
     ·exact ho p hp
    obtain⟨h4,h5,h6⟩:=h3 vs fr env S w hl cvs ha hb;have hv:ev env x=vs o:=zk hx (hl x);refine⟨⟨trivial,h4⟩,h5.trans ?_,?_⟩
    ·have hp:=kg (vs:=vs) (fr:=fr) (cx:=cx) ((jW hn).trans hc);refine(xbZ _ hp).trans ?_;refine xcp.trans ?_;show List.Perm _ (mO t.rep E (ev env x) _::(YM dom z (xs.map (ev env)++cvs)++_));rw[hv];exact xdA _
    ·show ev env x::J9 dom (xs.map (ev env)++cvs)=vs o::os.map vs;rw[hv,h6]
   ·cases h
  ·cases h
 | .fn dom' cod::dom,x::xs,cs,k,h=>by
  simp only[ZJ]at h;obtain⟨f,h,hf⟩:=RU hC h;obtain⟨z,os,h1,h2,ho,h3⟩:=K2 hC h;refine⟨_,os,h1,by simp at h2⊢;omega,ho,fun vs fr env S w hl cvs ha hb=> ?_⟩;obtain⟨h4,h5,h6⟩:=h3 vs fr env S w hl cvs ha hb;refine⟨⟨?_,h4⟩,h5,h6⟩
  cases hv:xU cx σ x with
  |none=>rename_i h0;rw[hv]at h0;simp[asF]at h0
  |some v=>exact hf vs S w v _ hv (zk hv (hl x))
 |[],_::_,_,_,h=>by simp[ZJ]at h
 |[],[],_::_,_,h=>by simp[ZJ]at h
 | .d _::_,[],_,_,h=>by simp[ZJ]at h
 | .own _ _::_,[],_,_,h=>by simp[ZJ]at h
 | .fn _ _::_,[],_,_,h=>by simp[ZJ]at h
 | .q _::_,[],[],_,h=>by simp[ZJ]at h
def eD:List RM->List Value->Nat->(Nat->Value)->Nat->Value
 |[],_,_,vs=>vs
 | .d _::r,us,o,vs=>eD r us.tail o vs
 | .own _ _::r,us,o,vs=>YD (eD r us.tail (o+1) vs) o (us.headD undef)
theorem Vp: ∀{rs:List RM} {us:List Value} {o k:Nat},k<o->eD rs us o vs k=vs k
 |[],_,_,_,_=>rfl
 | .d _::r,us,o,k,h=>Vp (rs:=r) h
 | .own _ _::r,us,o,k,h=>by
  show YD _ o _ k=_;rw[kX h,Vp (rs:=r) (by omega)]
theorem IC{n o:Nat}{v:Value}(h:o≠n):YD vs n v o=vs o:=by unfold YD;rw[uk h];rfl
theorem bJ: ∀{rs:List RM} {x:aX rs} {i o:Nat},(∀e∈(Zx rs x i o).2,o<=e.1/\e.1<o+(Zx rs x i o).2.length)
 |[],_,_,_,e,he=>absurd he Nm
 |[.d _],_,_,_,e,he=>absurd he Nm
 |[.own _ _],_,_,o,e,he=>by
  obtain rfl:=xai.1 he;exact⟨xac _,xbV _⟩
 | .d t::n::r,x,i,o,e,he=>bJ (rs:=n::r) (x:=x.2) (i:=i+1) e he
 | .own t E::n::r,x,i,o,e,he=>by
  have he:e∈(o,Od.own t E x.1)::(Zx (n::r) x.2 (i+1) (o+1)).2:=he;have ha:(Zx (.own t E::n::r) x i o).2.length=(Zx (n::r) x.2 (i+1) (o+1)).2.length+1:=rfl;rw[ha];rcases xad.1 he with rfl|he
  ·exact⟨xac _,by show o<_;omega⟩
  ·have:=bJ (rs:=n::r) (x:=x.2) (i:=i+1) (o:=o+1) e he;omega
theorem ll: ∀{rs:List RM} {x:aX rs} {us:List Value} {i o:Nat},MS (eD rs us o vs) (Zx rs x i o).2=uA rs x us
 |[],_,_,_,_=>rfl
 |[.d _],_,_,_,_=>rfl
 |[.own t E],x,us,i,o=>by exact congrArg (fun m=>[m]) (Q8 (vs:=vs) (xs:=x))
 | .d t::n::r,x,us,i,o=>by
  show MS (eD (n::r) us.tail o vs) (Zx (n::r) x.2 (i+1) o).2=uA (n::r) x.2 us.tail;exact ll
 | .own t E::n::r,x,us,i,o=>by
  refine List.cons_eq_cons.2 ⟨Q8 (xs:=x.1),?_⟩;exact(xX (ob:=(Zx (n::r) x.2 (i+1) (o+1)).2) (vs:=eD (n::r) us.tail (o+1) vs) fun e he=>IC (by have:=bJ e he;omega)).trans ll
theorem bj: ∀{rs:List RM} {x:aX rs} {i o:Nat},∀e∈(Zx rs x i o).1,∀p,xZ e.2=some p->p<o+(Zx rs x i o).2.length
 |[],_,_,_,e,he=>absurd he Nm
 |[.d _],_,_,_,e,he=>by
  obtain rfl:=xai.1 he;intro p hp;cases hp
 |[.own _ _],_,_,o,e,he=>by
  obtain rfl:=xai.1 he;intro p hp;cases hp;exact xbV _
 | .d t::n::r,x,i,o,e,he=>by
  rcases xad.1 he with rfl|he
  ·intro p hp;cases hp
  ·exact bj (rs:=n::r) (x:=x.2) (i:=i+1) e he
 | .own t E::n::r,x,i,o,e,he=>by
  have ha:(Zx (.own t E::n::r) x i o).2.length=(Zx (n::r) x.2 (i+1) (o+1)).2.length+1:=rfl;rw[ha];rcases xad.1 he with rfl|he
  ·intro p hp;cases hp;omega
  ·intro p hp;have:=bj (rs:=n::r) (x:=x.2) (i:=i+1) (o:=o+1) e he p hp;omega
theorem Bm: ∀{rs:List RM} {x:aX rs} {i o:Nat},∀e∈(Zx rs x i o).1,∀p,xZ e.2=some p->o<=p
 |[],_,_,_,e,he=>absurd he Nm
 |[.d _],_,_,_,e,he=>by
  obtain rfl:=xai.1 he;intro p hp;cases hp
 |[.own _ _],_,_,o,e,he=>by
  obtain rfl:=xai.1 he;intro p hp;cases hp;exact xac _
 | .d t::n::r,x,i,o,e,he=>by
  rcases xad.1 he with rfl|he
  ·intro p hp;cases hp
  ·exact Bm (rs:=n::r) (x:=x.2) (i:=i+1) e he
 | .own t E::n::r,x,i,o,e,he=>by
  rcases xad.1 he with rfl|he
  ·intro p hp;cases hp;exact xac _
  ·intro p hp;have:=Bm (rs:=n::r) (x:=x.2) (i:=i+1) (o:=o+1) e he p hp;omega
theorem C5: ∀{rs:List RM} {x:aX rs} {us:List Value} {i o:Nat} {S:Nat->Prop},zz S (uD rs x us) w->us.length=rs.length-> ∀e∈(Zx rs x i o).1,∃j u,e.1=i+j/\us[j]? =some u/\(va P (eD rs us o vs) e.2 u).p S w
 |[],_,_,_,_,_,_,_,e,he=>absurd he Nm
 |[m],_,[],_,_,_,_,hl,_,_=>by cases hl
 |[.d _],x,u::us,i,o,S,h,hl,e,he=>by
  obtain rfl:=xai.1 he;exact⟨0,u,rfl,rfl,h.1⟩
 |[.own _ _],x,u::us,i,o,S,h,hl,e,he=>by
  obtain rfl:=xai.1 he;exact⟨0,u,rfl,rfl,(vn (vs:=vs)).symm⟩
 |_::n::r,x,[],_,_,_,_,hl,_,_=>by cases hl
 | .d t::n::r,x,u::us,i,o,S,h,hl,e,he=>by
  rcases xad.1 he with rfl|he
  ·exact⟨0,u,rfl,rfl,h.1⟩
  ·obtain⟨j,v,h1,h2,h3⟩:=C5 (rs:=n::r) (x:=x.2) (i:=i+1) (o:=o) h.2 (by simpa using hl) e he;exact⟨j+1,v,by omega,by simpa using h2,h3⟩
 | .own t E::n::r,x,u::us,i,o,S,h,hl,e,he=>by
  rcases xad.1 he with rfl|he
  ·exact⟨0,u,rfl,rfl,(vn (vs:=eD (n::r) us (o+1) vs)).symm⟩
  ·obtain⟨j,v,h1,h2,h3⟩:=C5 (rs:=n::r) (x:=x.2) (i:=i+1) (o:=o+1) h (by simpa using hl) e he;refine⟨j+1,v,by omega,by simpa using h2,?_⟩;have:va P (eD (.own t E::n::r) (u::us) o vs) e.2 v=va P (eD (n::r) us (o+1) vs) e.2 v:=bn (fun p hp=>IC (by have:=Bm (rs:=n::r) (x:=x.2) (i:=i+1) (o:=o+1) e he p hp;omega)) v;rw[this];exact h3
theorem SC{f:FuncId}{ags:List Operand}: ∀{cs:List W1} {s:W1},Hj cx σ f ags cs=some s->s∈cs/\s.f=f
 |c::cs,s,h=>by
  unfold Hj at h;split at h
  ·next hb=>
   simp only[xaw]at h;subst h;rw[xam]at hb;exact⟨FS,z8 hb.1⟩
  ·obtain⟨h1,h2⟩:=SC h;exact⟨H1 _ h1,h2⟩
theorem Ot{rs:List RM}{x:aX rs}{us:List Value}{o:Nat}{S:Nat->Prop}(h:zz S (uD rs x us) w)(hl:us.length=rs.length): ∀e∈(Zx rs x (bif QO rs then 0 else 1) o).1,(xF P (eD rs us o vs) e.2 (ZH us) e.1).p S w:=by
 intro e he;obtain⟨j,u,h1,h2,h3⟩:=C5 (P:=P) (vs:=vs) h hl e he;obtain⟨i,dv⟩:=e
 match us,hl,h2 with
 |[],_,h2=>simp at h2
 |[v],hl,h2=>
  obtain rfl:j=0:=by
   rcases j with _|j
   ·rfl
   ·simp at h2
  obtain⟨m,rfl⟩:=xfd.1 hl.symm;simp only[QO,cond_true]at h1;simp only[xbz,xaw]at h2;subst h1;subst h2;exact h3
 |v::v'::us,hl,h2=>
  have:QO rs=false:=by
   match rs,hl with
   |[],_=>rfl
   |_::_::_,_=>rfl
  rw[this]at h1;simp only[cond_false]at h1;obtain rfl:i=j+1:=by omega
  exact⟨(v::v'::us).toArray,u,rfl,by simpa using h2,h3⟩
def sM:List RM->List Value->List Value
 |[],_=>[]
 | .d _::r,us=>sM r us.tail
 | .own _ _::r,us=>us.headD undef::sM r us.tail
theorem fh: ∀{rs:List RM} {x:aX rs} {us:List Value} {i o:Nat},(Zx rs x i o).2.map (fun e=>eD rs us o vs e.1)=sM rs us
 |[],_,_,_,_=>rfl
 |[.d _],x,us,i,o=>rfl
 |[.own t E],x,us,i,o=>by
  show[YD vs o (us.headD undef) o]=[us.headD undef];rw[vn]
 | .d t::n::r,x,us,i,o=>fh (rs:=n::r) (x:=x.2) (us:=us.tail) (i:=i+1) (o:=o)
 | .own t E::n::r,x,us,i,o=>by
  show YD (eD (n::r) us.tail (o+1) vs) o (us.headD undef) o::(Zx (n::r) x.2 (i+1) (o+1)).2.map (fun e=>eD (.own t E::n::r) us o vs e.1)=us.headD undef::sM (n::r) us.tail;rw[vn,<-fh (rs:=n::r) (x:=x.2) (us:=us.tail) (i:=i+1) (o:=o+1)];congr 1;refine xbL fun e he=> ?_;exact IC (by have:=bJ e he;omega)
theorem Cu: ∀{m:Nat} {rs:List RM} {us:List Value},lJ m rs=true->us.length=rs.length->sM rs us=us.drop m
 |0,[],us,_,hl=>by
  obtain rfl:=xbF.1 hl;rfl
 |0,.own _ _::r,[],_,hl=>by cases hl
 |0,.own _ _::r,u::us,h,hl=>by
  show u::sM r us=u::us;rw[Cu (m:=0) (rs:=r) (us:=us) h (by simpa using hl)];rfl
 |m+1,.d _::r,[],_,hl=>by cases hl
 |m+1,.d _::r,u::us,h,hl=>Cu (m:=m) (rs:=r) (us:=us) h (by simpa using hl)
 |0,.d _::_,_,h,_=>by cases h
 |_+1,[],_,h,_=>by cases h
 |_+1,.own _ _::_,_,h,_=>by cases h
theorem Ln{vs':Nat->Value}: ∀{os:List Nat} {ob:List (Nat×Od)},os.map vs'=ob.map (fun e=>vs' e.1)->MS vs' (nW os ob)=MS vs' ob
 |[],[],_=>rfl
 |[],_::_,h=>by cases h
 |_::_,[],h=>by cases h
 |o::os,(p,X)::ob,h=>by
  simp only[xbP,xeq]at h;show VO vs' (o,X)::MS vs' (nW os ob)=VO vs' (p,X)::MS vs' ob;rw[Ln h.2];congr 1;cases X<;>simp only[VO]<;>rw[h.1]
theorem Gn: ∀{os:List Nat} {ob:List (Nat×Od)},∀e∈nW os ob,e.1∈os
 |[],_,e,he=>absurd he (by simp[nW])
 |_::_,[],e,he=>absurd he (by simp[nW])
 |o::os,p::ob,e,he=>by
  rcases xad.1 (show e∈(o,p.2)::nW os ob from he)with rfl|he
  ·exact FS
  ·exact H1 _ (Gn e he)
theorem IJ{rs:List RM}{x:aX rs}{us:List Value}{o m:Nat}{S:Nat->Prop}(h:zz S (uD rs x us) w)(hl:us.length=rs.length)(hm:m<=us.length): ∀e∈(Zx rs x (gY m) o).1.filter (fun e=>xdl e.1 (gY m+m)),(xF P (eD rs us o vs) e.2 (ZH (us.take m)) e.1).p S w:=by
 intro e he;obtain⟨he,hb⟩:=xbW.1 he;have hb:e.1<gY m+m:=Nat.blt_eq.mp hb;obtain⟨j,u,h1,h2,h3⟩:=C5 (P:=P) (vs:=vs) h hl e he;obtain⟨i,dv⟩:=e;simp only at h1 hb;have hj:j<m:=by omega
 have h4:(us.take m)[j]? =some u:=by rw[xbT,iq hj];exact h2
 have h5:(us.take m).length=m:=by rw[xay];omega
 generalize us.take m=vs' at*
 match vs',h5,h4 with
 |[],h5,h4=>simp at h4
 |[v],h5,h4=>
  obtain rfl:m=1:=h5.symm;obtain rfl:j=0:=by omega
  simp only[xbz,xaw]at h4;obtain rfl:i=0:=h1;subst h4;exact h3
 |v::v'::us',h5,h4=>
  have:gY m=1:=by
   unfold gY;rw[zaj (by simp at h5;omega)];rfl
  rw[this]at h1;obtain rfl:i=j+1:=by omega
  exact⟨(v::v'::us').toArray,u,rfl,by simpa using h4,h3⟩
theorem zdW(hC: ∀s∈cf.cs,y5 P s){f:Operand}{f':FuncId}{cs:List PD}{s:W1}{ags:Array Operand}{ts:Array TypeId}{k:Sg->Option R}(hd:wi cx d=true)(hf:xU cx σ f=some (.fn f' cs))
 (hs:Hj cx σ f' ags.toList cf.cs=some s) (h:zaz cf cx σ d s ags.toList cs k=some r):lL P cx ⟨d,.call ⟨.value f,ags,ts⟩,ty,pos,aft,g⟩ σ k r:=by
 obtain⟨h1,h2⟩:=SC hs;have hp:=hC s h1;unfold zaz at h;obtain⟨z,os,h,hu,hE,hz⟩:=K2 hC h;obtain⟨q,hq,h⟩:=ny h;split at h
 ·next hw=>
   refine⟨_,h,xbI _ _,fun fr vs env w hR=> ?_⟩
   obtain⟨hB,hk⟩:=hR
   obtain⟨S0,_,hΓ⟩:=hk.ex
   obtain⟨cvs,hv,hi,_⟩:=zk hf (zW hΓ f)
   have hj:=hp.plain hw hq (vs:=ags.toList.map (ev env)++cvs) (by simp at hu⊢;omega)
   have hl:(execOp (ev env) ⟨d,.call ⟨.value f,ags,ts⟩,ty,pos,aft,g⟩).run P w= .ok (.enter f' (ags.toList.map (ev env)++cvs).toArray) w:=by simp[execOp,resolve,hv,xdG,invoke,ks (h2▸hp.1)]
   have hm:St fr.we fr.Se (YM s.dom z (ags.toList.map (ev env)++cvs)++OS vs fr cx (wU σ.ob os)) (kE P s.dom z (ags.toList.map (ev env)++cvs)++GS P vs env fr cx σ) w:=by
    refine St.perm (St.weak hk fun S w ha=>zz.append ?_ ha) (hz vs fr env S0 w (zW hΓ) cvs hi ?_).2.1
    ·obtain⟨cvs',hb,hg,hc⟩:=zk hf (zW ha f);rw[hv]at hb;have:cvs=cvs':=by simpa using hb
     subst this;exact(hz vs fr env S w (zW ha) cvs hi hc).1
    ·obtain⟨cvs',hb,hg,hc⟩:=zk hf (zW hΓ f);rw[hv]at hb;have:cvs=cvs':=by simpa using hb
     subst this;exact hc
   unfold jZ
   rw[hl]
   rw[h2]at hj
   refine(hj fr.we fr.Se _ _ w hm).mono ?_
   rintro e w' ⟨us,he,hr,hx⟩
   refine⟨ZH us,he,?_⟩
   refine VU (vs:=vs) (vs':=eD s.cod us σ.nx vs) (l:=(Zx s.cod q (bif QO s.cod then 0 else 1) σ.nx).1) (Γl:=uD s.cod q us) hB hd rfl (xbI _ _) (fun o ho=>Vp ho) bj ?_ (fun S w ha=>Ot ha hr) ?_
   ·intro e he
    rcases xaa.1 he with he|he
    ·exact(bJ e he).2
    ·exact xap (hB.o1 e (Qu e he)) (xbI _ _)
   ·have e1:OS (eD s.cod us σ.nx vs) fr cx ((Zx s.cod q (bif QO s.cod then 0 else 1) σ.nx).2++wU σ.ob os)=uA s.cod q us++OS vs fr cx (wU σ.ob os):=by
     show MS _ (_++_)++(MS _ cx.ob++_)=_;have a1:MS (eD s.cod us σ.nx vs) (wU σ.ob os)=MS vs (wU σ.ob os):=xX fun e he=>Vp (hB.o1 e (Qu e he));have a2:MS (eD s.cod us σ.nx vs) cx.ob=MS vs cx.ob:=xX fun e he=>Vp (hB.o2 e he);rw[a2,show MS (eD s.cod us σ.nx vs) ((Zx s.cod q (bif QO s.cod then 0 else 1) σ.nx).2++wU σ.ob os)=MS _ _++MS _ _ from xaN,a1,ll,xak]
    rw[e1]
    exact hx
 ·next b hw=>
   obtain⟨ht,h⟩:=yh h
   refine⟨_,h,xbI _ _,fun fr vs env w hR=> ?_⟩
   obtain⟨hB,hk⟩:=hR
   obtain⟨S0,_,hΓ⟩:=hk.ex
   obtain⟨cvs,hv,hi,_⟩:=zk hf (zW hΓ f)
   have hj:=hp.2 z q hq (ags.toList.map (ev env)++cvs) (by simp at hu⊢;omega)
   rw[hw]at hj
   have hl:(execOp (ev env) ⟨d,.call ⟨.value f,ags,ts⟩,ty,pos,aft,g⟩).run P w= .ok (.enter f' (ags.toList.map (ev env)++cvs).toArray) w:=by simp[execOp,resolve,hv,xdG,invoke,ks (h2▸hp.1)]
   have hA:J9 s.dom (ags.toList.map (ev env)++cvs)=os.map vs:=by
    obtain⟨cvs',hb,hg,hc⟩:=zk hf (zW hΓ f);rw[hv]at hb;have:cvs=cvs':=by simpa using hb
    subst this;exact(hz vs fr env S0 w (zW hΓ) cvs hi hc).2.2
   have hm:St fr.we fr.Se (YM s.dom z (ags.toList.map (ev env)++cvs)++OS vs fr cx (wU σ.ob os)) (kE P s.dom z (ags.toList.map (ev env)++cvs)++GS P vs env fr cx σ) w:=by
    refine St.perm (St.weak hk fun S w ha=>zz.append ?_ ha) (hz vs fr env S0 w (zW hΓ) cvs hi ?_).2.1
    ·obtain⟨cvs',hb,hg,hc⟩:=zk hf (zW ha f);rw[hv]at hb;have:cvs=cvs':=by simpa using hb
     subst this;exact(hz vs fr env S w (zW ha) cvs hi hc).1
    ·obtain⟨cvs',hb,hg,hc⟩:=zk hf (zW hΓ f);rw[hv]at hb;have:cvs=cvs':=by simpa using hb
     subst this;exact hc
   unfold jZ
   rw[hl]
   rw[h2]at hj
   refine(hj fr.we fr.Se _ _ w hm).mono ?_
   rintro e w' ⟨us,he,⟨hr,hy⟩,hx⟩
   refine⟨ZH (us.take (s.cod.length-(b+1))),he,?_⟩
   have hn: ∀o,o<σ.nx->eD s.cod us σ.nx vs o=vs o:=fun o ho=>Vp ho
   have hD: ∀o∈os,o<σ.nx:=fun o ho=>by
    obtain⟨X,hX⟩:=hE o ho;exact hB.o1 _ hX
   have hF:MS (eD s.cod us σ.nx vs) (nW os (Zx s.cod q (gY (s.cod.length-(b+1))) σ.nx).2)=uA s.cod q us:=by
    rw[Ln,ll];rw[fh,Cu ht hr,hy,hA];exact xbL fun o ho=>hn o (hD o ho)
   refine VU (vs:=vs) (vs':=eD s.cod us σ.nx vs) (l:=(Zx s.cod q (gY (s.cod.length-(b+1))) σ.nx).1.filter fun e=>xdl e.1 (gY (s.cod.length-(b+1))+(s.cod.length-(b+1)))) (Γl:=uD s.cod q us) hB hd rfl (xbI _ _) hn (fun e he=>bj e (xbW.1 he).1) ?_ (fun S w ha=>IJ ha hr (by omega)) ?_
   ·intro e he
    rcases xaa.1 he with he|he
    ·exact xap (hD _ (Gn e he)) (xbI _ _)
    ·exact xap (hB.o1 e (Qu e he)) (xbI _ _)
   ·have e1:OS (eD s.cod us σ.nx vs) fr cx (nW os (Zx s.cod q (gY (s.cod.length-(b+1))) σ.nx).2++wU σ.ob os)=uA s.cod q us++OS vs fr cx (wU σ.ob os):=by
     show MS _ (_++_)++(MS _ cx.ob++_)=_;have a1:MS (eD s.cod us σ.nx vs) (wU σ.ob os)=MS vs (wU σ.ob os):=xX fun e he=>Vp (hB.o1 e (Qu e he));have a2:MS (eD s.cod us σ.nx vs) cx.ob=MS vs cx.ob:=xX fun e he=>Vp (hB.o2 e he);rw[a2,show MS (eD s.cod us σ.nx vs) (nW os (Zx s.cod q (gY (s.cod.length-(b+1))) σ.nx).2++wU σ.ob os)=MS _ _++MS _ _ from xaN,a1,hF,xak]
    rw[e1]
    exact hx
end
end
section
theorem St.pr{we:World}{Se:Nat->Prop}{ms:List MF}{Γ:List FF}{w:World}{p:Prop}(hp:p)(h:St we Se ms Γ w):St we Se (mPr p::ms) Γ w:=by
 obtain⟨h1,h2,h3,S,h4,h5,h6,h7,h8⟩:=h;refine⟨h1,h2,⟨fun k hk=>hk.elim,h3⟩,S,h4,h5,fun m hm k hk=> ?_,⟨hp,h7⟩,h8⟩;rcases xad.1 hm with rfl|hm
 ·exact hk.elim
 ·exact h6 m hm k hk
theorem St.unpr{we:World}{Se:Nat->Prop}{ms:List MF}{Γ:List FF}{w:World}{p:Prop}(h:St we Se (mPr p::ms) Γ w):p/\St we Se ms Γ w:=
 ⟨xN h (i:=0) rfl fun S hp=>hp,St.drop (i:=0) h⟩
section
variable{P:Program}{cf:Cf}{fr:Fr}{cx σ:Sg}{vs vs':Nat->Value}{env:yM}{w:World}{R:Type}{r:R}
 {d:Option Tmp} {ty t yt:TypeId} {pos:String} {aft:Array Edge} {g:Option (Nat×Bool)} {x y:Operand}
theorem Qb{d d':Dv}{v:Value}{i:Nat}{S:Nat->Prop}(h:(xF P vs d v i).p S w)(hm: ∀u,(va P vs d u).p S w->(va P vs d' u).p S w):(xF P vs d' v i).p S w:=by
 cases i with
 |zero=>exact hm _ h
 |succ i=>obtain⟨us,u,h1,h2,h3⟩:=h;exact⟨us,u,h1,h2,hm _ h3⟩
theorem JM{v u:Value}{mk:Nat->Dv}{X:Od}{ob:List (Nat×Od)}(hB:Bd cx σ)(hd:wi cx d=true)(ha: ∀e∈ob,e.1<σ.nx)(hb: ∀o,xZ (mk o)=some o)(hc: ∀S w,(va P (YD vs σ.nx u) (mk σ.nx) v).p S w)
 (hf:St fr.we fr.Se (VO (YD vs σ.nx u) (σ.nx,X)::OS vs fr cx ob) (GS P vs env fr cx σ) w):aU P fr cx σ.nx vs ⟨σ.nx+1,wZ σ.rg d [(0,mk σ.nx)],(σ.nx,X)::ob⟩ (put env d v) w:=by
 refine VU (σ':=⟨σ.nx+1,wZ σ.rg d [(0,mk σ.nx)],(σ.nx,X)::ob⟩) (vs:=vs) (vs':=YD vs σ.nx u) (Γl:=[]) hB hd rfl (xcc _) (fun o ho=>kX ho) ?_ ?_ ?_ ?_
 ·intro e he o ho;obtain rfl:=xai.1 he;rw[hb]at ho;cases ho;exact xbV _
 ·intro e he;rcases xad.1 he with rfl|he
  ·exact xbV _
  ·exact xfi (ha e he)
 ·intro S w _ e he;obtain rfl:=xai.1 he;exact hc S w
 ·show St _ _ (VO (YD vs σ.nx u) (σ.nx,X)::OS (YD vs σ.nx u) fr cx ob) _ _;rw[Cp hB ha];exact hf
theorem Qe: ∀{ob:List (Nat×Od)} {o:Nat} {X Y:Od},xG ob o=some X->xG (ke ob o Y) o=some Y/\yD (ke ob o Y) o=yD ob o
 |(o',X')::r,o,X,Y,h=>by
  unfold xG at h;unfold ke;cases hb:xan o' o<;>rw[hb]at h
  ·obtain⟨h1,h2⟩:=Qe (ob:=r) (Y:=Y) h;constructor
   ·simp only[cond_false];unfold xG;rw[hb];exact h1
   ·simp only[cond_false];unfold yD;rw[hb];simp only[cond_false,h2]
  ·constructor
   ·simp only[cond_true];unfold xG;rw[hb];rfl
   ·simp only[cond_true];unfold yD;rw[hb];rfl
theorem uO{o:Nat}{X:Od}{Γ:List FF}(ho:xG σ.ob o=some X)(h:St fr.we fr.Se (OS vs fr cx σ.ob) Γ w):St fr.we fr.Se (VO vs (o,X)::OS vs fr cx (yD σ.ob o)) Γ w:=h.perm (kg ho)
theorem MY{ob:List (Nat×Od)}{o:Nat}{X Y:Od}{Γ:List FF}(ho:xG ob o=some X)(h:St fr.we fr.Se (VO vs (o,Y)::OS vs fr cx (yD ob o)) Γ w):St fr.we fr.Se (OS vs fr cx (ke ob o Y)) Γ w:=by
 obtain⟨h1,h2⟩:=Qe (Y:=Y) ho;have:=kg (vs:=vs) (fr:=fr) (cx:=cx) h1;rw[h2]at this;exact h.perm this.symm
theorem cX{o o2:Nat}{X Y:Od}{Γ:List FF}(ha:xan o o2=false)(ho:xG σ.ob o=some X)(hb:xG σ.ob o2=some Y)(h:St fr.we fr.Se (OS vs fr cx σ.ob) Γ w):
 St fr.we fr.Se (VO vs (o,X)::VO vs (o2,Y)::OS vs fr cx (yD (yD σ.ob o) o2)) Γ w:=by
 have h1:xG (yD σ.ob o) o2=some Y:=by rw[VX (fun e=>by subst e;simp at ha)];exact hb
 exact(h.perm (kg ho)).perm ((kg (vs:=vs) (fr:=fr) (cx:=cx) h1).cons _)
theorem moU{o:Nat}{u:Value}{X:Od}:VO (YD vs o u) (o,X)=VO (fun _=>u) (0,X):=by
 cases X<;>simp only[VO,vn]
theorem zgs{S:Nat->Prop}{w:World}:(uI [.slice none 0 0]).p S 0 (xfD (.slice none 0 0)).toList w:=⟨_,rfl,rfl,rfl⟩
theorem zbi(hT:zS P cf.tt){k:Sg->Option R}(hd:wi cx d=true)(h:Hq cf cx σ d t x y k=some r):lL P cx ⟨d,.makeSlice t x y,ty,pos,aft,g⟩ σ k r:=by
 unfold Hq at h;split at h
 ·next s E B ht=>
  obtain⟨hi,h⟩:=yh h;split at h
  ·next s' E1 B1 n he hn=>
   obtain⟨j,hj,h⟩:=LL h;obtain⟨hb,h⟩:=kh h;obtain⟨xs,hf,h⟩:=xm h;have hk:=Hd hT he rfl;refine⟨_,h,xcc _,fun fr vs env w hR=> ?_⟩;obtain⟨hB,hg⟩:=hR;obtain⟨S0,_,hΓ⟩:=hg.ex;have hx:ev env x= .int .i64 (j:Int):=by rw[(xT hn (zW hΓ x)).1,hj]
   have ha:=(hT _ _ he).2.1;refine(EY (e:=uI [.slice none 0 0]) (z:=0) (xs:=xs) (n:=j) (vd hT ht) hk hx ((Mh hi).symm.trans hx) ha hb (fun _ _=>zgs) hf w hg).mono ?_;rintro v w' ⟨b,rfl,_,hs⟩;have hc:xs.length=j:=by rw[hf];exact xaT
   have h1:=hs.closeF 0 rfl (by rw[hc];exact xac _) (P5 ha hb);rw[hc]at h1;refine JM (vs:=vs) (mk:= .mw) (u:=KS (.slice (some ⟨b,0,none⟩) j j) [.slice none 0 0]) hB hd hB.o1 (fun _=>rfl) (fun S w=>by simp only[va,vn];rfl) ?_;rw[moU];refine St.grp.2 (St.pr (p:=([.slice none 0 0]:List Value).length=([[]]:List (List s.D)).length) rfl ?_);have h2:=St.nilO (e:=s.rep) (E:=E1) h1;exact h2.perm (xeF ..)
  ·cases h
 ·cases h
theorem zfo{ao:Option Addr}{n c:Nat}:(Value.slice ao n c).oneCell'=true/\(Value.slice ao n c).cells= #[.slice ao n c]:=⟨rfl,rfl⟩
theorem B0{α:Type}{e:zV α}{E:TypeId}{v:Value}{xs:List α}{S:Nat->Prop}(h:(mO e E v xs).p S w):v.oneCell'=true/\v.cells= #[v]:=by
 rcases JF h with⟨rfl,_⟩|⟨b,cap,rfl,_⟩<;>exact zfo
theorem zeZ(hT:zS P cf.tt)(hL:jy P cf.tt){n:Nat}{ps:Array (Nat×Operand)}{k:Sg->Option R}(hd:wi cx d=true)(h:SH cf cx σ d t n ps.toList k=some r):lL P cx ⟨d,.buildSlice t n ps,ty,pos,aft,g⟩ σ k r:=by
 unfold SH at h;split at h
 ·next s E B x ht hf=>
  obtain⟨hn,h⟩:=yh h;have hn:=z8 hn;subst hn;split at h
  ·next o2 hg=>
   split at h
   ·next s2 E1 ys hc=>
    obtain⟨hi,h⟩:=yi h;cases hi;obtain⟨bytes,zero,hj⟩:=W8 hT hL ht;refine⟨_,h,xcc _,fun fr vs env w hR=> ?_⟩;obtain⟨hB,hb⟩:=hR;obtain⟨S0,_,hΓ⟩:=hb.ex;have hk:ev env x=vs o2:=zk hg (zW hΓ x);obtain⟨q1,q2⟩:=xN (uO hc hb) (i:=0) (m:=mO s.rep E1 (vs o2) ys) rfl fun S hp=>B0 hp;have hl:vX [(0,vs o2)]=[vs o2]:=by rw[zdt,q2]
    refine(TC (e:=uI [vs o2]) (zs:=[0]) (len:=1) (xV:=ps.toList) (vs:=[(0,vs o2)]) (vd hT ht) hj (xdY) rfl (by show 1*1<=_;omega) (by rw[hf];simp[hk]) (fun S w ha=>⟨by rw[q2];rfl,trivial⟩) (fun S w ha=> ?_) w (uO hc hb)).mono ?_
    ·rw[hl];exact⟨[vs o2],[],rfl,⟨_,rfl,q1,rfl⟩,rfl⟩
    rintro v w' ⟨v',rfl,_,hs⟩;refine JM (vs:=vs) (mk:= .mw) (u:=KS v [vs o2]) hB hd (fun e he=>hB.o1 e (kT e he)) (fun _=>rfl) (fun S w=>by simp only[va,vn];rfl) ?_;rw[moU];exact St.grp.2 (St.pr (p:=([vs o2]:List Value).length=([ys]:List (List s.D)).length) rfl hs)
   ·cases h
  ·cases h
 ·cases h
theorem S4(hT:zS P cf.tt){E0:TypeId}{k:Sg->Option R}(hd:wi cx d=true)(h:Bl cf σ d E0 k=some r):lL P cx ⟨d,.alloc E0,ty,pos,aft,g⟩ σ k r:=by
 unfold Bl at h;split at h
 ·next s E B ht=>
  have ha:=Hd hT ht rfl;refine⟨_,h,xcc _,fun fr vs env w hR=> ?_⟩;obtain⟨hB,hb⟩:=hR;refine(sO (e:=(uI [.slice none 0 0]).c) (z:=0) ha (fun S w=>zgs (S:=S) (w:=w)) w hb).mono ?_;rintro v w' ⟨b,rfl,_,hs⟩;refine JM (vs:=vs) (mk:= .mw) (u:=KS (.pointer (some ⟨b,0,none⟩)) [.slice none 0 0]) hB hd hB.o1 (fun _=>rfl) (fun S w=>by simp only[va,vn];rfl) ?_;rw[moU];refine St.grp.2 (St.pr (p:=([.slice none 0 0]:List Value).length=1) rfl ?_);exact(St.nilO (e:=s.rep) (E:=E) (hs.toP 0 rfl)).perm (xeF ..)
 ·cases h
theorem OW{hv:List Value}(h:hv.length=1):hv=[hv.headD undef]:=by
 match hv,h with
 |[a],_=>rfl
theorem za0(hT:zS P cf.tt){o:Nat}{k:Sg->Option R}(hd:wi cx d=true)(hf:xU cx σ x=some (.mw o))(h:GG cf σ d t o k=some r):lL P cx ⟨d,.load t x,ty,pos,aft,g⟩ σ k r:=by
 unfold GG at h;split at h
 ·next q E' B s E E0 xs ht ho=>
  obtain⟨zero,hg,_⟩:=Wv hT ht;refine⟨_,h,xcc _,fun fr vs env w hR=> ?_⟩;obtain⟨hB,hc⟩:=hR;obtain⟨S0,_,hΓ⟩:=hc.ex;have hi:ev env x=yY (vs o):=zk hf (zW hΓ x);obtain⟨ha,h1⟩:=St.unpr (St.grp.1 (uO ho hc));obtain⟨b,hb,h2⟩:=h1.openP 0 rfl;refine(TJ (Qa (e:=(uI (w4 (vs o))).c) (f:=uI (w4 (vs o))) (z':=0) (up:=id) 0 rfl (hi.trans hb) (Sub.self (uI (w4 (vs o))) 0) hg) w h2).mono ?_;rintro u w' ⟨_,rfl,_,hs⟩;obtain⟨S1,_,hj⟩:=hs.ex;have hu:=zdI hj.1;have hk:=OW ha;have hl:u=(w4 (vs o)).headD undef:=by
   rw[hk]at hu;simpa using hu.symm
  have h3:=(hs.weak (Δ:=GS P vs env fr cx σ) fun S w h=>h.2).toP 0 rfl;rw[<-hb]at h3;refine JM (vs:=vs) (mk:= .ow) (u:=u) hB hd (fun e he=> ?_) (fun _=>rfl) (fun S w=>QS S w) ?_
  ·obtain⟨e',g1,g2⟩:=JX ho e he;rw[<-g2];exact hB.o1 e' g1
  ·rw[Q8,hl];have h4:St fr.we fr.Se (mO s.rep E ((w4 (vs o)).headD undef) xs::(VO vs (o,.ho E0)::OS vs fr cx (yD σ.ob o))) (GS P vs env fr cx σ) w':=by
    have h5:St fr.we fr.Se (mP (uI (w4 (vs o))).c E0 (yY (vs o)) 0::mO s.rep E ((w4 (vs o)).headD undef) xs::OS vs fr cx (yD σ.ob o)) (GS P vs env fr cx σ) w':=h3;have h6:=St.pr (p:=(w4 (vs o)).length=1) ha h5;have h7:St fr.we fr.Se ([mPr ((w4 (vs o)).length=1),mP (uI (w4 (vs o))).c E0 (yY (vs o)) 0]++mO s.rep E ((w4 (vs o)).headD undef) xs::OS vs fr cx (yD σ.ob o)) (GS P vs env fr cx σ) w':=h6;exact(St.grp.2 h7).perm (xeF ..)
   have hp:=kg (vs:=vs) (fr:=fr) (cx:=cx) (Qe (Y:= .ho E0) ho).1;rw[(Qe (Y:= .ho E0) ho).2]at hp;exact h4.perm (hp.symm.cons _)
 ·cases h
structure zaE(a b:Value):Prop where
 out:yY b=yY a
 hv: ∀(r:Nat) (v:Value),(w4 a)[r]? =some v->(w4 b)[r]? =some v
theorem OC{o n:Nat}(hr:zaE (vs o) (vs n)){dv:Dv}{v:Value}{S:Nat->Prop}(h:(va P vs dv v).p S w):(va P vs (zbX o n dv) v).p S w:=by
 cases dv with
 |mw p=>
  show(va P vs (bif xan p o then .mw n else .mw p) v).p S w;cases hb:xan p o
  ·exact h
  ·obtain rfl:=z8 hb;exact(show v=yY (vs p)from h).trans hr.out.symm
 |mv p l m=>
  show(va P vs (bif xan p o then .mv n l m else .mv p l m) v).p S w;cases hb:xan p o
  ·exact h
  ·obtain rfl:=z8 hb;simp only[va,cond_true]at h⊢;rw[hr.out];exact h
 |hp p j=>
  show(va P vs (bif xan p o then .hp n j else .hp p j) v).p S w;cases hb:xan p o
  ·exact h
  ·obtain rfl:=z8 hb;simp only[va,cond_true]at h⊢;rw[hr.out];exact h
 |rw p r=>
  show(va P vs (bif xan p o then .rw n r else .rw p r) v).p S w;cases hb:xan p o
  ·exact h
  ·obtain rfl:=z8 hb;exact hr.hv _ _ h
 |rp p t r j f=>
  show(va P vs (bif xan p o then .rp n t r j f else .rp p t r j f) v).p S w;cases hb:xan p o
  ·exact h
  ·obtain rfl:=z8 hb;obtain⟨h1,b,m,cap,h2,h3,h4⟩:=h;exact⟨h1,b,m,cap,hr.hv _ _ h2,h3,h4⟩
 |_=>exact h
theorem RJ{o n p:Nat}{v:Dv}(h:xZ (zbX o n v)=some p):xZ v=some p\/p=n:=by
 cases v with
 |mw q=>
  have h:xZ (bif xan q o then Dv.mw n else .mw q)=some p:=h;cases hb:xan q o<;>rw[hb]at h
  ·exact .inl h
  ·cases h;exact .inr rfl
 |mv q l m=>
  have h:xZ (bif xan q o then Dv.mv n l m else .mv q l m)=some p:=h;cases hb:xan q o<;>rw[hb]at h
  ·exact .inl h
  ·cases h;exact .inr rfl
 |hp q j=>
  have h:xZ (bif xan q o then Dv.hp n j else .hp q j)=some p:=h;cases hb:xan q o<;>rw[hb]at h
  ·exact .inl h
  ·cases h;exact .inr rfl
 |rw q r=>
  have h:xZ (bif xan q o then Dv.rw n r else .rw q r)=some p:=h;cases hb:xan q o<;>rw[hb]at h
  ·exact .inl h
  ·cases h;exact .inr rfl
 |rp q t r j f=>
  have h:xZ (bif xan q o then Dv.rp n t r j f else .rp q t r j f)=some p:=h;cases hb:xan q o<;>rw[hb]at h
  ·exact .inl h
  ·cases h;exact .inr rfl
 |_=>exact .inl h
theorem Df{o n:Nat}: ∀{rg:List (Nat×Nat×Dv)},∀e∈zcR o n rg,∃e'∈rg,e=(e'.1,e'.2.1,zbX o n e'.2.2)
 |[],e,he=>absurd he Nm
 |(t,i,v)::rg,e,he=>by
  rcases xad.1 he with rfl|he
  ·exact⟨_,FS,rfl⟩
  ·obtain⟨e',h1,h2⟩:=Df e he;exact⟨e',H1 _ h1,h2⟩
theorem Gp{o n:Nat}: ∀{rg:List (Nat×Nat×Dv)},∀e∈Fo o n rg,e∈rg\/ ∃e'∈rg,∃p,e'.2.2= .mw p/\e=(e'.1,e'.2.1,bif xan p o then .mw n else .mw p)
 |[],e,he=>absurd he Nm
 |(t,i,v)::rg,e,he=>by
  have ih: ∀e∈Fo o n rg,e∈(t,i,v)::rg\/ ∃e'∈(t,i,v)::rg,∃p,e'.2.2= .mw p/\e=(e'.1,e'.2.1,bif xan p o then .mw n else .mw p):=fun e he=>by
   rcases Gp e he with h|⟨e',h1,p,h2,h3⟩
   ·exact .inl (H1 _ h)
   ·exact .inr ⟨e',H1 _ h1,p,h2,h3⟩
  cases v with
  |mw p=>
   rcases xad.1 (show e∈(t,i,bif xan p o then Dv.mw n else .mw p)::Fo o n rg from he)with rfl|he
   ·exact .inr ⟨_,FS,p,rfl,rfl⟩
   ·exact ih e he
  |_=>
   rcases xad.1 he with rfl|he
   ·exact .inl (FS)
   ·exact ih e he
theorem C2{u v:Value}{o:Nat}{X:Od}{ob:List (Nat×Od)}{rg:List (Nat×Nat×Dv)}(hB:Bd cx σ)(hd:wi cx d=true)(hb: ∀e∈ob,e.1<σ.nx)
 (hc: ∀e∈rg,∃e'∈wZ σ.rg d [],e.1=e'.1/\e.2.1=e'.2.1/\(∀p,xZ e.2.2=some p->xZ e'.2.2=some p\/p=σ.nx)/\ ∀v S w,(va P (YD vs σ.nx u) e'.2.2 v).p S w->(va P (YD vs σ.nx u) e.2.2 v).p S w)
 (hg:St fr.we fr.Se (VO (YD vs σ.nx u) (σ.nx,X)::OS vs fr cx ob) (GS P vs env fr cx σ) w):aU P fr cx σ.nx vs ⟨σ.nx+1,rg,(σ.nx,X)::ob⟩ (put env d v) w:=by
 obtain⟨ha,hi⟩:Ui P fr cx ⟨σ.nx+1,wZ σ.rg d [],(σ.nx,X)::ob⟩ (YD vs σ.nx u) (put env d v) w:=by
  refine Au (σ':=⟨σ.nx+1,wZ σ.rg d [],(σ.nx,X)::ob⟩) (l:=[]) (vs:=vs) (vs':=YD vs σ.nx u) (Γl:=[]) hB hd rfl (xcc _) (fun o ho=>kX ho) (fun _ he=>absurd he Nm) ?_ (fun S w _ e he=>absurd he Nm) ?_
  ·intro e he;rcases xad.1 he with rfl|he
   ·exact xbV _
   ·exact xfi (hb e he)
  ·show St _ _ (VO (YD vs σ.nx u) (σ.nx,X)::OS (YD vs σ.nx u) fr cx ob) _ _;rw[Cp hB hb];exact hg
 refine⟨YD vs σ.nx u,fun o ho=>kX ho,⟨ha.o1,ha.o2,fun e he p hp=> ?_,ha.r2⟩,hi.weak fun S w h=>zz.append (qM.2 fun f hf=> ?_) (zz.right h)⟩
 ·obtain⟨e',h1,_,_,h2,_⟩:=hc e he;rcases h2 p hp with h|rfl
  ·exact ha.r1 e' h1 p h
  ·exact xbV _
 ·obtain⟨e,he,rfl⟩:=xal.1 hf;obtain⟨e',h1,h2,h3,_,h4⟩:=hc e he;have h5:=QF (zz.left h) (t:=e'.1) (i:=e'.2.1) (d:=e'.2.2) h1;rw[h2,h3];exact Qb h5 fun u hu=>h4 u S w hu
theorem zbK{u:Value}{o:Nat}(hr:zaE (YD vs σ.nx u o) (YD vs σ.nx u σ.nx)): ∀e∈zcR o σ.nx σ.rg,∃e'∈wZ σ.rg none [],e.1=e'.1/\e.2.1=e'.2.1/\(∀p,xZ e.2.2=some p->xZ e'.2.2=some p\/p=σ.nx)/\ ∀v S w,(va P (YD vs σ.nx u) e'.2.2 v).p S w->(va P (YD vs σ.nx u) e.2.2 v).p S w:=by
 intro e he;obtain⟨e',h1,rfl⟩:=Df e he;exact⟨e',h1,rfl,rfl,fun p hp=>RJ hp,fun v S w h=>OC hr h⟩
theorem Dd{u:Value}{o:Nat}{rg:List (Nat×Nat×Dv)}(hr:yY (YD vs σ.nx u σ.nx)=yY (YD vs σ.nx u o)): ∀e∈Fo o σ.nx rg,∃e'∈rg,e.1=e'.1/\e.2.1=e'.2.1/\(∀p,xZ e.2.2=some p->xZ e'.2.2=some p\/p=σ.nx)/\ ∀v S w,(va P (YD vs σ.nx u) e'.2.2 v).p S w->(va P (YD vs σ.nx u) e.2.2 v).p S w:=by
 intro e he;rcases Gp e he with h|⟨e',h1,p,h2,rfl⟩
 ·exact⟨e,h,rfl,rfl,fun p hp=> .inl hp,fun v S w h=>h⟩
 ·refine⟨e',h1,rfl,rfl,fun q hq=> ?_,fun v S w h=> ?_⟩
  ·rw[h2];cases hb:xan p o
   ·simp only[hb,cond_false]at hq;exact .inl hq
   ·simp only[hb,cond_true]at hq;cases hq;exact .inr rfl
  ·rw[h2]at h;have h:v=yY (YD vs σ.nx u p):=h;cases hb:xan p o
   ·exact h
   ·have hp:=z8 hb;subst hp;exact h.trans hr.symm
end
end
section
section
variable{P:Program}{cf:Cf}{fr:Fr}{cx σ:Sg}{vs vs':Nat->Value}{env:yM}{w:World}{R:Type}{r:R}
 {d:Option Tmp} {ty t yt:TypeId} {pos:String} {aft:Array Edge} {g:Option (Nat×Bool)} {x y:Operand}
theorem HK{α:Type}{xss:List (List α)}{r:Nat}(h:r<xss.length):xss[r]? =some (jl xss r):=by
 unfold jl;rw[UV,IR h];rfl
theorem Kc{o:Nat}{s:Ty}{E E1:TypeId}{xss:List (List s.D)}{ix:List Nat}{ms:List MF}{Γ:List FF}(h:St fr.we fr.Se (VO vs (o,.mat s E E1 xss ix)::ms) Γ w):
 (w4 (vs o)).length=xss.length/\St fr.we fr.Se ((mO (uI (w4 (vs o))) E (yY (vs o)) ix::wh s.rep E1 (w4 (vs o)) xss)++ms) Γ w:=St.unpr (St.grp.1 h)
theorem EH{u:Value}{s:Ty}{E E1:TypeId}{xss:List (List s.D)}{ix:List Nat}{ms:List MF}{Γ:List FF}(hl:(w4 u).length=xss.length)(h:St fr.we fr.Se ((mO (uI (w4 u)) E (yY u) ix::wh s.rep E1 (w4 u) xss)++ms) Γ w):
 St fr.we fr.Se (fQ s.rep E E1 u xss ix::ms) Γ w:=St.grp.2 (St.pr hl h)
theorem zhu{k:Sg->Option R}{ti:TI}(hT:zS P cf.tt)(hr:ZG cf t=some ti){o p j:Nat}{e:Ty}{f:Fl e.D}(hx:xU cx σ x=some (.rp o e p j f))(h:Zw σ ti.ty (xU cx σ x) (xU cx σ y) k=some r):
 lL P cx ⟨none,.store t x y,ty,pos,aft,g⟩ σ k r:=by
 obtain⟨zero,hd,_⟩:=Wv hT hr;rw[hx]at h;simp only[Zw]at h;split at h
 ·next s' E E1 xss ix hb ho _=>
  obtain⟨ht,h1⟩:=yi h;cases ht;obtain⟨q,h2,hq⟩:=Xv h1;obtain⟨zss,hz,h⟩:=xm h2;obtain⟨hb⟩:=hb;refine⟨_,h,xac _,fun fr vs env w hR=> ?_⟩;obtain⟨hB,he⟩:=hR;obtain⟨S0,_,hΓ⟩:=he.ex;obtain⟨hu,b,m,cap,hv,hj,hw⟩:=zk hx (zW hΓ x);have hf:=uO ho he;obtain⟨hn,hp⟩:m=(jl (α:=e.D) xss p).length/\p<xss.length:=xN hf (i:=0) rfl fun S hp=>⟨bZ (fI (show(fQ e.rep E E1 (vs o) xss ix).p S w from hp) hv).1 rfl,(fI (show(fQ e.rep E E1 (vs o) xss ix).p S w from hp) hv).2⟩;obtain⟨hl,hg⟩:=Kc hf;have hi:=zcq (e:=e.rep) (E:=E) (E1:=E1) (v:=yY (vs o)) (ix:=ix) hv (HK (α:=e.D) hp) (OS vs fr cx (yD σ.ob o));obtain⟨b',cap',hy,hA,hC,hs⟩:=hg.openO (p+1) hi (by omega);cases hy;rw[<-hb]at hd;have hk:=(Sub.rowT0 e.rep cap (jl (α:=e.D) xss p) j ((jl (α:=e.D) xss p).getD j e.z) (getD_some e.z (by omega))).comp (hu ((jl (α:=e.D) xss p).getD j e.z));refine(ZM (f:=f.f.rep) (y':=q) (p+1) (wq hi) hw rfl hk hd (fun S w ha=>hq P vs env S w (zW ha y)) w hs).mono ?_;rintro v w' ⟨_,rfl,_,hD⟩;refine b5 (vs:=vs) hB ho (MY ho ?_);have hc:(xfQ (jl (α:=e.D) xss p) j (f.set q ((jl (α:=e.D) xss p).getD j e.z))).length=(jl (α:=e.D) xss p).length:=xcG ..;have hm:=hD.closeF (p+1) (wq (wq hi)) (by rw[hc];exact hA) hC;rw[km,km,hc,DB hv hp hl]at hm;rw[hz];exact EH (by rw[show(zhb (α:=e.D) xss p _).length=xss.length from xcG ..];exact hl) hm
 ·cases h
theorem zgM{k:Sg->Option R}{ti:TI}(hT:zS P cf.tt)(hq:ZG cf t=some ti){o j o' p:Nat}(hx:xU cx σ x=some (.hp o j))(hy:xU cx σ y=some (.rw o' p))(h:Zw σ ti.ty (xU cx σ x) (xU cx σ y) k=some r):
 lL P cx ⟨none,.store t x y,ty,pos,aft,g⟩ σ k r:=by
 obtain⟨zero,hc,_⟩:=Wv hT hq;rw[hx,hy]at h;simp only[Zw]at h;obtain⟨hr,h⟩:=yh h;obtain rfl:=z8 hr;split at h
 ·next s' E E1 xss ix q ho ht=>
  obtain⟨iz,hz,h⟩:=xm h;refine⟨_,h,xac _,fun fr vs env w hR=> ?_⟩;obtain⟨hB,hd⟩:=hR;obtain⟨S0,_,hΓ⟩:=hd.ex;obtain⟨b,m,cap,hv,hj,hu⟩:=zk hx (zW hΓ x);have hw:(w4 (vs o'))[p]? =some (ev env y):=zk hy (zW hΓ y);have he:=uO ho hd;obtain⟨hn,hf⟩:m=ix.length/\(ev env y).oneCell'=true:=xN he (i:=0) rfl fun S hp=>⟨bZ (Ax (show(fQ s'.rep E E1 (vs o') xss ix).p S w from hp)).2.1 hv,(B0 (fI (show(fQ s'.rep E E1 (vs o') xss ix).p S w from hp) hw).1).1⟩;obtain⟨hl,hg⟩:=Kc he;obtain⟨b',cap',hi,hA,hC,hs⟩:=hg.openO 0 rfl (by omega);rw[hv]at hi;cases hi;have hk:=Sub.rowT0 (uI (w4 (vs o'))) cap ix j (ix.getD j 0) (getD_some 0 (by omega));rw[ht]at hc;refine(ZM (f:=uI (w4 (vs o'))) (y':=p) 0 rfl hu rfl hk hc (fun S w ha=> ?_) w hs).mono ?_
  ·exact RL (zk hy (zW ha y)) hf
  rintro v w' ⟨_,rfl,_,hD⟩;refine b5 (vs:=vs) hB ho (MY ho ?_);have hb:(ix.set j p).length=ix.length:=xcG ..;have hm:=hD.closeF 0 rfl (by rw[hb];exact hA) hC;rw[hb,<-hv]at hm;rw[hz];exact EH hl hm
 ·cases h
theorem zcx{u:Value}{o:Nat}{hv:List Value}(hu:w4 u=w4 (vs o)++hv)(ho:yY u=yY (vs o))(ha:o<σ.nx):zaE (YD vs σ.nx u o) (YD vs σ.nx u σ.nx):=by
 rw[kX ha,vn];refine⟨ho,fun r v h=> ?_⟩;rw[hu,xbn (xar.1 h).1];exact h
theorem BY{o:Nat}{X:Od}(hB:Bd cx σ)(h:xG σ.ob o=some X):o<σ.nx:=by
 obtain⟨i,h1,_⟩:=x8 h;exact hB.o1 _ (xbr h1)
theorem ox(hB:Bd cx σ){o p:Nat}: ∀e∈yD (yD σ.ob o) p,e.1<σ.nx:=fun e he=>hB.o1 e (kT e (kT e he))
theorem zg2{k:Sg->Option R}{ti:TI}(hT:zS P cf.tt)(ht:ZG cf t=some ti){o j o2:Nat}(hx:xU cx σ x=some (.hp o j))(hy:xU cx σ y=some (.ow o2))(h:Zw σ ti.ty (xU cx σ x) (xU cx σ y) k=some r):
 lL P cx ⟨none,.store t x y,ty,pos,aft,g⟩ σ k r:=by
 obtain⟨zero,hd,_⟩:=Wv hT ht;rw[hx,hy]at h;simp only[Zw]at h;obtain⟨he,h⟩:=yh h;rw[xdm]at he;split at h
 ·next s' E E1 xss ix s2 E2 ys q ho hu hw=>
  obtain⟨hE,h0⟩:=yh h;obtain rfl:=z8 hE;obtain⟨hA,h1⟩:=yi h0;cases hA;obtain⟨zss,hz,h2⟩:=xm h1;obtain⟨iz,hi,h3⟩:=xm h2;refine⟨_,h3,xcc _,fun fr vs env w hR=> ?_⟩;obtain⟨hB,hf⟩:=hR;obtain⟨S0,_,hΓ⟩:=hf.ex;obtain⟨b,m,cap,hv,hj,hC⟩:=zk hx (zW hΓ x);have hD:ev env y=vs o2:=zk hy (zW hΓ y);have hb:=cX he ho hu hf;have hn:m=ix.length:=xN hb (i:=0) rfl fun S hp=>bZ (Ax (show(fQ s'.rep E E1 (vs o) xss ix).p S w from hp)).2.1 hv;obtain⟨hk,_⟩:(vs o2).oneCell'=true/\_:=xN hb (i:=1) (m:=mO s'.rep E1 (vs o2) ys) rfl fun S hp=>B0 hp;have hl:=(Kc hb).1
  have hg:St fr.we fr.Se ((mO (uI (w4 (vs o)++[vs o2])) E (yY (vs o)) ix::wh s'.rep E1 (w4 (vs o)++[vs o2]) (xss++[ys]))++OS vs fr cx (yD (yD σ.ob o) o2)) (GS P vs env fr cx σ) w:=
   St.grp.1 (St.adopt hl (St.grp.2 (Kc hb).2))
  obtain⟨b',cap',hm,hF,hG,hs⟩:=hg.openO 0 rfl (by omega);rw[hv]at hm;cases hm;have hq:=Sub.rowT0 (uI (w4 (vs o)++[vs o2])) cap ix j (ix.getD j 0) (getD_some 0 (by omega));rw[hw]at hd;refine(ZM (f:=uI (w4 (vs o)++[vs o2])) (y':=xss.length) 0 rfl hC hD hq hd (fun S w ha=>RL (by rw[<-hl];simp) hk) w hs).mono ?_;rintro v w' ⟨_,rfl,_,hH⟩;have hc:(ix.set j xss.length).length=ix.length:=xcG ..;have hr:=hH.closeF 0 rfl (by rw[hc];exact hF) hG;rw[hc,<-hv]at hr;refine C2 (o:=o) (u:=KS (yY (vs o)) (w4 (vs o)++[vs o2])) hB rfl (ox hB) (zbK (zcx rfl rfl (BY hB ho))) ?_;rw[moU,hi,hz];refine EH (u:=KS (yY (vs o)) (w4 (vs o)++[vs o2])) (by show(w4 (vs o)++[vs o2]).length=(xss++[ys]).length;simp[hl]) hr
 ·cases h
theorem zhy{k:Sg->Option R}{ti:TI}(hT:zS P cf.tt)(hj:ZG cf t=some ti){o o2:Nat}(hx:xU cx σ x=some (.mw o))(hy:xU cx σ y=some (.ow o2))(h:Zw σ ti.ty (xU cx σ x) (xU cx σ y) k=some r):
 lL P cx ⟨none,.store t x y,ty,pos,aft,g⟩ σ k r:=by
 obtain⟨zero,hc,_⟩:=Wv hT hj;rw[hx,hy]at h;simp only[Zw]at h;obtain⟨hd,h⟩:=yh h;rw[xdm]at hd;split at h
 ·next E0 s2 E2 ys q ho hk hm=>
  refine⟨_,h,xcc _,fun fr vs env w hR=> ?_⟩;obtain⟨hB,he⟩:=hR;obtain⟨S0,_,hΓ⟩:=he.ex;have hn:ev env x=yY (vs o):=zk hx (zW hΓ x);have hq:ev env y=vs o2:=zk hy (zW hΓ y);have hf:=cX hd ho hk he;obtain⟨hg,_⟩:(vs o2).oneCell'=true/\_:=xN hf (i:=1) (m:=mO s2.rep E2 (vs o2) ys) rfl fun S hp=>B0 hp;obtain⟨hl,h1⟩:=St.unpr (St.grp.1 hf);have h1:St fr.we fr.Se (mP (uI (w4 (vs o))).c E0 (yY (vs o)) 0::mO s2.rep E2 (vs o2) ys::OS vs fr cx (yD (yD σ.ob o) o2)) (GS P vs env fr cx σ) w:=h1;obtain⟨b,hb,h2⟩:=h1.openP 0 rfl;have hi:=OW hl;have h3:=h2.conv (i:=0) (m:=mB (uI (w4 (vs o))).c E0 b 0) (m':=mB (uI (w4 (vs o)++[vs o2])).c E0 b 0) rfl rfl fun S hp=>by
   obtain⟨cs,g1,u,g2,g3,g4⟩:=hp;exact⟨cs,g1,u,by rw[xbn (xar.1 g2).1];exact g2,g3,g4⟩
  rw[hm]at hc;refine(ZM (e:=(uI (w4 (vs o)++[vs o2])).c) (f:=uI (w4 (vs o)++[vs o2])) (z':=0) (y':=1) (up:=id) 0 rfl (hn.trans hb) hq (Sub.self (uI (w4 (vs o)++[vs o2])) 0) hc (fun S w ha=>RL (by rw[hi];rfl) hg) w h3).mono ?_;rintro v w' ⟨_,rfl,_,hr⟩;have h4:St fr.we fr.Se (mB (uI (w4 (vs o)++[vs o2])).c E0 b 1::mO s2.rep E2 (vs o2) ys::OS vs fr cx (yD (yD σ.ob o) o2)) (GS P vs env fr cx σ) w':=hr;have h5:=h4.conv (i:=0) (m:=mB (uI (w4 (vs o)++[vs o2])).c E0 b 1) (m':=mB (uI [vs o2]).c E0 b 0) rfl rfl fun S hp=>by
   obtain⟨cs,g1,u,g2,g3,g4⟩:=hp;refine⟨cs,g1,u,?_,g3,g4⟩;rw[hi]at g2;exact g2
  have h6:=h5.toP 0 rfl;rw[<-hb]at h6;have h7:St fr.we fr.Se (mP (uI [vs o2]).c E0 (yY (vs o)) 0::mO s2.rep E2 (vs o2) ys::OS vs fr cx (yD (yD σ.ob o) o2)) (GS P vs env fr cx σ) w':=h6;refine C2 (o:=o) (u:=KS (yY (vs o)) [vs o2]) hB rfl (ox hB) (Dd (by rw[vn,kX (BY hB ho)];rfl)) ?_
  ·rw[moU];exact St.grp.2 (St.pr (p:=([vs o2]:List Value).length=1) rfl h7)
 ·cases h
theorem Pv(hT:zS P cf.tt){k:Sg->Option R}{ti:TI}(ha:ZG cf t=some ti)(h:Zw σ ti.ty (xU cx σ x) (xU cx σ y) k=some r):lL P cx ⟨none,.store t x y,ty,pos,aft,g⟩ σ k r:=by
 have h0:=h;unfold Zw at h;split at h
 ·next o e r j f hx=>exact zhu hT ha hx h0
 ·next o j o' r hx hy=>exact zgM hT ha hx hy h0
 ·next o j o2 hx hy=>exact zg2 hT ha hx hy h0
 ·next o o2 hx hy=>exact zhy hT ha hx hy h0
 ·cases h
theorem eH: ∀{ob:List (Nat×Od)} {o p:Nat},o≠p->yD (yD ob o) p=yD (yD ob p) o
 |[],_,_,_=>rfl
 |(q,X)::r,o,p,h=>by
  have ih:=eH (ob:=r) h;cases h1:xan q o
  ·cases h2:xan q p
   ·simp only[yD,h1,h2,cond_false];rw[ih]
   ·simp only[yD,h1,h2,cond_false,cond_true]
  ·cases h2:xan q p
   ·simp only[yD,h1,h2,cond_false,cond_true]
   ·have:=(z8 h1).symm.trans (z8 h2);exact absurd this h
theorem sI{S:Nat->Prop}{w:World}{hv ha:List Value}: ∀{ix:List Nat} {cs:List Value},yr (uI ha) S ix cs w->yr (uI (hv++ha)) S (ix.map (hv.length+ ·)) cs w
 |[],_,h=>h
 |r::ix,cs,⟨c,q,h1,⟨u,h2,h3,h4⟩,h5⟩=>⟨c,q,h1,⟨u,by show(hv++ha)[hv.length+r]? =some u;rw[xci (xbI _ _),xeT];exact h2,h3,h4⟩,sI h5⟩
theorem sQ{α:Type}{e:zV α}{E:TypeId}: ∀{hv ha:List Value} {xss yss:List (List α)},hv.length=xss.length->wh e E (hv++ha) (xss++yss)=wh e E hv xss++wh e E ha yss
 |[],_,[],_,_=>rfl
 |u::hv,ha,xs::xss,yss,h=>by
  show mO e E u xs::wh e E (hv++ha) (xss++yss)=mO e E u xs::(wh e E hv xss++wh e E ha yss);rw[sQ (by simpa using h)]
 |[],_,_::_,_,h=>by cases h
 |_::_,_,[],_,h=>by cases h
theorem zfa(hT:zS P cf.tt){ags:Array Operand}{ts:Array TypeId}{k:Sg->Option R}(hd:wi cx d=true)(h:zaR cf cx σ d ags.toList ts.toList k=some r):
 lL P cx ⟨d,.call ⟨.builtin .append,ags,ts⟩,ty,pos,aft,g⟩ σ k r:=by
 unfold zaR at h;split at h
 ·next _ _ x y t t' hS hU=>
  obtain rfl:ags= #[x,y]:=by cases ags;simp_all
  obtain rfl:ts= #[t,t']:=by cases ts;simp_all
  split at h
  ·next s E B o p ht hx hy=>
   obtain⟨hg,h6⟩:=yh h;rw[xam]at hg;obtain⟨hC,hl⟩:=hg;obtain rfl:=z8 hC;rw[xdm]at hl;clear h;split at h6
   ·next q1 q2 B1 s1 E1 F1 xss ix s2 E2 F2 yss iy hn ho hp=>
    obtain⟨hg,h1⟩:=yh h6;simp only[xam]at hg;obtain⟨hf,hj,hF⟩:=hg;have hf:=z8 hf;have hj:=z8 hj;have hF:=z8 hF;subst hf;subst hj;subst hF;obtain⟨hD,h2⟩:=yi h1;cases hD;obtain⟨hb,h3⟩:=kh h2;obtain⟨zss,hz,h4⟩:=xm h3;obtain⟨iz,hi,h5⟩:=xm h4;have hE:=Hd hT hn rfl;have hc:=(hT _ _ hn).2.1;refine⟨_,h5,xcc _,fun fr vs env w hR=> ?_⟩;obtain⟨hB,hr⟩:=hR;obtain⟨S0,_,hΓ⟩:=hr.ex;have hG:ev env x=yY (vs o):=zk hx (zW hΓ x);have hH:ev env y=yY (vs p):=zk hy (zW hΓ y);have hI:=cX hl ho hp hr;obtain⟨hk,hJ⟩:=Kc hI;have hu:St fr.we fr.Se (VO vs (p,.mat s1 E2 F1 yss iy)::((mO (uI (w4 (vs o))) E2 (yY (vs o)) ix::wh s1.rep F1 (w4 (vs o)) xss)++OS vs fr cx (yD (yD σ.ob o) p))) (GS P vs env fr cx σ) w:=hJ.perm xcp;obtain⟨hK,hL⟩:=Kc hu;have hN:St fr.we fr.Se (mO (uI (w4 (vs o))) E2 (yY (vs o)) ix::mO (uI (w4 (vs p))) E2 (yY (vs p)) iy::(wh s1.rep F1 (w4 (vs o)) xss++wh s1.rep F1 (w4 (vs p)) yss++OS vs fr cx (yD (yD σ.ob o) p))) (GS P vs env fr cx σ) w:=by
     refine hL.perm ?_;simp only[xbN,xak];refine(List.Perm.cons _ xcp).trans ((xeF ..).trans ?_);refine List.Perm.cons _ (List.Perm.cons _ ?_);exact(xdD ..)
    have hO:=hN.conv (i:=0) (m:=mO (uI (w4 (vs o))) E2 (yY (vs o)) ix) (m':=mO (uI (w4 (vs o)++w4 (vs p))) E2 (yY (vs o)) ix) rfl rfl fun S hq=>L9 hq;have Gq: ∀m,m*B1<=140737488355328->m<=9223372036854775807:=fun m hm=>by
     have hc:0<B1:=hc;have:=xck m hc;omega
    have he:(iy.map (xaF xss+ ·)).length=iy.length:=xaM _;refine(Ja (e:=uI (w4 (vs o)++w4 (vs p))) (ys:=iy.map (xaF xss+ ·)) 0 (vd hT ht) hE rfl xdY rfl hG hH (fun S w hM ha=> ?_) (Gq _ (by rw[he];exact hb)) (by rw[he];exact hb) w hO).mono ?_
    ·have hm:(mO (uI (w4 (vs p))) E2 (yY (vs p)) iy).p S w:=hM.2.1;have hw:(mO (uI (w4 (vs o)++w4 (vs p))) E2 (yY (vs p)) (iy.map (xaF xss+ ·))).p S w:=by
      obtain⟨cs,a1,a2⟩:=hm;refine⟨cs,by rw[he];exact a1,?_⟩;rw[<-hk];exact sI a2
     rcases JF hw with⟨hv,hA⟩|⟨b,cap,hv,hP,hQ⟩
     ·rw[hv,hA];exact⟨none,0,rfl,xac _,xaj _,.inl rfl⟩
     ·have h6:=Bc hw hv (l:=0) (n:=(iy.map (xaF xss+ ·)).length) (c:=cap) (by omega) hP hQ;rw[List.drop_zero,xcR]at h6;rw[hv];simpa using h6
    rintro v w' ⟨v',rfl,_,hs⟩;refine JM (vs:=vs) (mk:= .mw) (u:=KS v (w4 (vs o)++w4 (vs p))) hB hd (ox hB) (fun _=>rfl) (fun S w=>by simp only[va,vn];rfl) ?_;rw[moU,hz,hi];have h7:St fr.we fr.Se (mO (uI (w4 (vs o)++w4 (vs p))) E2 v (ix++iy.map (xaF xss+ ·))::mO (uI (w4 (vs p))) E2 (yY (vs p)) iy::(wh s1.rep F1 (w4 (vs o)) xss++wh s1.rep F1 (w4 (vs p)) yss++OS vs fr cx (yD (yD σ.ob o) p))) (GS P vs env fr cx σ) w':=hs;have h8:=St.drop (i:=1) h7;refine EH (u:=KS v (w4 (vs o)++w4 (vs p))) (by show(w4 (vs o)++w4 (vs p)).length=(xss++yss).length;simp[hk,hK]) ?_;show St _ _ ((mO (uI (w4 (vs o)++w4 (vs p))) E2 v _::wh s1.rep F1 (w4 (vs o)++w4 (vs p)) (xss++yss))++_) _ _;rw[sQ hk];exact h8
   ·cases h6
  ·cases h
 ·cases h
theorem NR(hX:pX P cf){s:mJ}{f:Operand}{ags:Array Operand}{ts:Array TypeId}{k:Sg->Option R}(hd:wi cx d=true)(hf:xU cx σ f=some (.fn s.f []))(hs:s∈cf.ms)(h:oQ cx σ d s ags.toList k=some r):
 lL P cx ⟨d,.call ⟨.value f,ags,ts⟩,ty,pos,aft,g⟩ σ k r:=by
 obtain⟨hb,hq⟩:=hX.ms s hs;unfold oQ at h;split at h
 ·next _ x a p y hF=>
  obtain rfl:ags= #[x,a,p,y]:=by cases ags;simp_all
  split at h
  ·next o r0 av pv o' lo n hx ha hp hy=>
   obtain⟨hr,h6⟩:=yh h;obtain rfl:=z8 hr;clear h;split at h6
   ·next s1 E E1 xss ix ho=>
    obtain⟨hg,h1⟩:=yh h6;rw[xam]at hg;have hE:=z8 hg.1;have hi:=z8 hg.2;obtain⟨ht,h2⟩:=yi h1;cases ht;obtain⟨zss,hz,h3⟩:=ny h2;refine⟨_,h3,xcc _,fun fr vs env w hR=> ?_⟩;obtain⟨hB,hj⟩:=hR;obtain⟨S0,_,hΓ⟩:=hj.ex;have hw:(w4 (vs o))[r0]? =some (ev env x):=zk hx (zW hΓ x);have hk:=xT ha (zW hΓ a);have hl:=xT hp (zW hΓ p);have hA:Dc (yY (vs o)) lo n (ev env y):=zk hy (zW hΓ y);obtain⟨cvs,hv,hC,hG⟩:=zk hf (zW hΓ f);obtain rfl:cvs=[]:=xbF.1 hC;have hm:=uO ho hj;rw[hE,hi]at hm;have hc:=hq xss ix r0 av pv lo n zss hz (vs o) (ev env x) (ev env y) hw hA hk.2 hl.2 fr.we fr.Se _ _ w hm;have hn:(execOp (ev env) ⟨d,.call ⟨.value f,#[x,a,p,y],ts⟩,ty,pos,aft,g⟩).run P w= .ok (.enter s.f #[ev env x,.int .i64 av,.int .i64 pv,ev env y]) w:=by simp[execOp,resolve,hv,xdG,invoke,ks hb,hk.1,hl.1]
    unfold jZ;rw[hn];refine hc.mono ?_;rintro e w' ⟨v,u',rfl,hu,hD⟩;refine⟨v,rfl,C2 (o:=o) (u:=u') hB hd (fun e he=>hB.o1 e (kT e he)) (Dd (by rw[vn,kX (BY hB ho)];exact hu)) ?_⟩;rw[moU];show St _ _ (fQ s.t.rep E E1 u' zss ix::_) _ _;rw[hE,hi];exact hD
   ·cases h6
  ·cases h
 ·cases h
theorem n9{o n:Nat}: ∀{rg:List (Nat×Nat×Dv)},∀e∈EA o n rg,e∈rg\/ ∃e'∈rg,∃p,e'.2.2= .yd p/\e=(e'.1,e'.2.1,bif xan p o then .yd n else .yd p)
 |[],e,he=>absurd he Nm
 |(t,i,v)::rg,e,he=>by
  have ih: ∀e∈EA o n rg,e∈(t,i,v)::rg\/ ∃e'∈(t,i,v)::rg,∃p,e'.2.2= .yd p/\e=(e'.1,e'.2.1,bif xan p o then .yd n else .yd p):=fun e he=>by
   rcases n9 e he with h|⟨e',h1,p,h2,h3⟩
   ·exact .inl (H1 _ h)
   ·exact .inr ⟨e',H1 _ h1,p,h2,h3⟩
  cases v with
  |yd p=>
   rcases xad.1 (show e∈(t,i,bif xan p o then Dv.yd n else .yd p)::EA o n rg from he)with rfl|he
   ·exact .inr ⟨_,FS,p,rfl,rfl⟩
   ·exact ih e he
  |_=>
   rcases xad.1 he with rfl|he
   ·exact .inl (FS)
   ·exact ih e he
theorem SI(hX:pX P cf){o:Nat}{f:Operand}{ags:Array Operand}{ts:Array TypeId}{k:Sg->Option R}(hd:wi cx d=true)(hf:xU cx σ f=some (.yd o))(h:A1 cx σ d o ags.toList k=some r):
 lL P cx ⟨d,.call ⟨.value f,ags,ts⟩,ty,pos,aft,g⟩ σ k r:=by
 unfold A1 at h;split at h
 ·next _ x hC=>
  obtain rfl:ags= #[x]:=by cases ags;simp_all
  split at h
  ·next p hx=>
   obtain⟨hi,h⟩:=yh h;rw[xdm]at hi;split at h
   ·next t E X Y mX mY gg z s E2 ys ho hp=>
    obtain⟨hE,h1⟩:=yh h;have hE:=z8 hE;subst hE;obtain⟨hm,h2⟩:=yi h1;cases hm;obtain⟨q,hq,h3⟩:=ny h2
    have main: ∀(fr:Fr) (vs:Nat->Value) (env:yM) (w:World),Ui P fr cx σ vs env w->jZ P ⟨d,.call ⟨.value f,#[x],ts⟩,ty,pos,aft,g⟩ env w fun v w'=>v= .bool q.2.isLeft/\Bd cx σ/\Ek P (lOf (yY (vs o))) t.rep E2 mX mY gg/\
     ∃u',St fr.we fr.Se (xfo (fun x=>mX x u') (fun y=>mY y u') q.2::mO t.rep E2 (vs p) q.1::OS vs fr cx (yD (yD σ.ob o) p)) (GS P vs env fr cx σ) w':=by
     intro fr vs env w hR;obtain⟨hB,hj⟩:=hR;obtain⟨S0,_,hΓ⟩:=hj.ex;have hn:ev env x=vs p:=zk hx (zW hΓ x);have ht:ev env f= .func (.yield (lOf (yY (vs o)))) #[] #[]:=zk hf (zW hΓ f);have hv:=cX hi ho hp hj;obtain⟨hY,h4⟩:=St.unpr (St.grp.1 hv);rw[<-hX.pp]at hY;have h4:St fr.we fr.Se (mX z ((w4 (vs o)).headD undef)::mO t.rep E2 (vs p) ys::OS vs fr cx (yD (yD σ.ob o) p)) (GS P vs env fr cx σ) w:=h4;obtain⟨fn,tmps,as',bd',hy,hR⟩:=hY ys z q.1 q.2 hq (vs p) _ _ _ _ _ w h4;have hk:(execOp (ev env) ⟨d,.call ⟨.value f,#[x],ts⟩,ty,pos,aft,g⟩).run P w= .ok (.round (lOf (yY (vs o))) fn tmps as' bd') w:=by
      rw[<-hn]at hy;simp[execOp,resolve,ht,xdG,invoke,hy]
     unfold jZ;rw[hk];exact hR.mono fun e w' ⟨h5,h6⟩=>⟨_,h5,rfl,hB,hY,h6⟩
    have fin: ∀(X':Od) (b:Bool) (u':Value) (vs:Nat->Value) (fr:Fr) (env:yM) (w':World),Bd cx σ->St fr.we fr.Se (VO (YD vs σ.nx (KS (yY (vs o)) [u'])) (σ.nx,X')::mO t.rep E2 (vs p) q.1::OS vs fr cx (yD (yD σ.ob o) p)) (GS P vs env fr cx σ) w'->
     aU P fr cx σ.nx vs ⟨σ.nx+1,EA o σ.nx (wZ σ.rg d [(0,.kb b)]),(σ.nx,X')::yD (ke σ.ob p (.own t E2 q.1)) o⟩ (put env d (.bool b)) w':=by
     intro X' b u' vs fr env w' hB hs;have hc:p≠o:=fun e=>by subst e;simp at hi
     have hw:=BY hB ho;have hD:xG (yD σ.ob o) p=some (.own t E2 ys):=by rw[VX hc];exact hp
     have hz:St fr.we fr.Se (VO (YD vs σ.nx (KS (yY (vs o)) [u'])) (σ.nx,X')::OS vs fr cx (yD (ke σ.ob p (.own t E2 q.1)) o)) (GS P vs env fr cx σ) w':=by
      have h7:=kg (vs:=vs) (fr:=fr) (cx:=cx) (ob:=yD (ke σ.ob p (.own t E2 q.1)) o) (o:=p) (X:= .own t E2 q.1) (by rw[VX hc];exact(Qe hp).1);have h8:yD (yD (ke σ.ob p (.own t E2 q.1)) o) p=yD (yD σ.ob o) p:=by rw[eH (fun e=>hc e.symm),(Qe hp).2,eH (fun e=>hc e)]
      rw[h8]at h7;exact hs.perm (h7.symm.cons _)
     obtain⟨ha,hA⟩:Ui P fr cx ⟨σ.nx+1,wZ σ.rg d [(0,.kb b)],(σ.nx,X')::yD (ke σ.ob p (.own t E2 q.1)) o⟩ (YD vs σ.nx (KS (yY (vs o)) [u'])) (put env d (.bool b)) w':=by
      have hl: ∀e∈yD (ke σ.ob p (.own t E2 q.1)) o,e.1<σ.nx:=fun e he=>by
       obtain⟨e1,g1,g2⟩:=JX hp e (kT e he);rw[<-g2];exact hB.o1 e1 g1
      refine Au (σ':=⟨σ.nx+1,wZ σ.rg d [(0,.kb b)],(σ.nx,X')::yD (ke σ.ob p (.own t E2 q.1)) o⟩) (l:=[(0,.kb b)]) (vs:=vs) (Γl:=[]) hB hd rfl (xcc _) (fun o ho=>kX ho) (fun e he p hp=> ?_) (fun e he=> ?_) (fun S w _ e he=> ?_) ?_
      ·obtain rfl:=xai.1 he;cases hp
      ·rcases xad.1 he with rfl|he
       ·exact xbV _
       ·exact xfi (hl e he)
      ·obtain rfl:=xai.1 he;exact rfl
      ·show St _ _ (VO (YD vs σ.nx _) (σ.nx,X')::OS (YD vs σ.nx _) fr cx (yD (ke σ.ob p (.own t E2 q.1)) o)) _ _;rw[Cp hB hl];exact hz
     refine⟨_,fun o ho=>kX ho,⟨ha.o1,ha.o2,fun e he r hr=> ?_,ha.r2⟩,hA.weak fun S w h=>zz.append (qM.2 fun f hf=> ?_) (zz.right h)⟩
     ·rcases n9 e he with h|⟨e',h1,r',h2,rfl⟩
      ·exact ha.r1 e h r hr
      ·cases hb:xan r' o<;>simp only[hb,cond_true,cond_false]at hr
       ·exact ha.r1 e' h1 r (by rw[h2];exact hr)
       ·cases hr;exact xbV _
     ·obtain⟨e,he,rfl⟩:=xal.1 hf;rcases n9 e he with h'|⟨e',h1,r',h2,rfl⟩
      ·exact QF (zz.left h) h'
      ·have h5:=QF (zz.left h) (t:=e'.1) (i:=e'.2.1) (d:=e'.2.2) h1;rw[h2]at h5;refine Qb h5 fun u hu=> ?_;cases hb:xan r' o
       ·exact hu
       ·have hu:u= .func (.yield (lOf (yY (YD vs σ.nx (KS (yY (vs o)) [u']) r')))) #[] #[]:=hu;rw[z8 hb,kX hw]at hu;show u= .func (.yield (lOf (yY (YD vs σ.nx (KS (yY (vs o)) [u']) σ.nx)))) #[] #[];rw[vn];exact hu
    cases hg:q.2 with
    |inl z'=>
     rw[hg]at h3;refine⟨_,h3,xcc _,fun fr vs env w hR=>(main fr vs env w hR).mono ?_⟩;rintro v w' ⟨rfl,hB,hY,u',hs⟩;rw[hg]at hs⊢;refine fin _ true u' vs fr env w' hB ?_;rw[moU];refine St.grp.2 ?_;rw[<-hX.pp];exact St.pr hY hs
    |inr y'=>
     rw[hg]at h3;refine⟨_,h3,xcc _,fun fr vs env w hR=>(main fr vs env w hR).mono ?_⟩;rintro v w' ⟨rfl,hB,hY,u',hs⟩;rw[hg]at hs⊢;refine fin _ false u' vs fr env w' hB ?_;rw[moU];exact hs
   ·cases h
  ·cases h
 ·cases h
end
end
section
section
variable{P:Program}{cf:Cf}{fr:Fr}{cx σ:Sg}{vs vs':Nat->Value}{env:yM}{w:World}{R:Type}{r:R}
 {d:Option Tmp} {ty t yt:TypeId} {pos:String} {aft:Array Edge} {g:Option (Nat×Bool)} {x y:Operand}
theorem DW{o:Nat}{s:Ty}{E:TypeId}{xs:List s.D}{S:Nat->Prop}(hf:(fV (eS s.rep) xs (vs o)).p S w): ∀{rg:List (Nat×Nat×Dv)},zz S (RS P vs env rg) w->zz S (RS P vs env (B8 o (.own s E xs) rg)) w
 |[],_=>trivial
 |(t,i,v)::rg,h=>by
  refine⟨?_,DW hf h.2⟩;have h1:(xF P vs v (env t) i).p S w:=h.1;show(xF P vs (py o (.own s E xs) v) (env t) i).p S w;cases v<;>try exact h1
  rename_i o';unfold py;cases hb:xan o' o<;>simp only[hb,cond_false,cond_true]
  ·exact h1
  ·have:=z8 hb;subst this;refine Qb h1 fun u hu=> ?_;rw[show u=vs o' from hu];exact hf
theorem FB{o:Nat}{s:Ty}{E:TypeId}{z:s.D}{S:Nat->Prop}(hf:(fP s.rep z (vs o)).p S w): ∀{rg:List (Nat×Nat×Dv)},zz S (RS P vs env rg) w->zz S (RS P vs env (B8 o (.var s E z) rg)) w
 |[],_=>trivial
 |(t,i,v)::rg,h=>by
  refine⟨?_,FB hf h.2⟩;have h1:(xF P vs v (env t) i).p S w:=h.1;show(xF P vs (py o (.var s E z) v) (env t) i).p S w;cases v<;>try exact h1
  rename_i o' s';unfold py;cases hb:xan o' o<;>simp only[hb,cond_false,cond_true]
  ·exact h1
  ·have:=z8 hb;subst this;refine Qb h1 fun u hu=> ?_;rw[show u=vs o' from hu.1];exact hf
theorem DS{o:Nat}{s:Ty}{E E1:TypeId}{xss:List (List s.D)}{ix:List Nat}{S:Nat->Prop}(hf:(fV (eS (eS s.rep)) (Nh xss ix) (yY (vs o))).p S w): ∀{rg:List (Nat×Nat×Dv)},zz S (RS P vs env rg) w->zz S (RS P vs env (B8 o (.mat s E E1 xss ix) rg)) w
 |[],_=>trivial
 |(t,i,v)::rg,h=>by
  refine⟨?_,DS hf h.2⟩;have h1:(xF P vs v (env t) i).p S w:=h.1;show(xF P vs (py o (.mat s E E1 xss ix) v) (env t) i).p S w;cases v<;>try exact h1
  rename_i o';unfold py;cases hb:xan o' o<;>simp only[hb,cond_false,cond_true]
  ·exact h1
  ·have:=z8 hb;subst this;refine Qb h1 fun u hu=> ?_;rw[show u=yY (vs o')from hu];exact hf
theorem J3{o:Nat}{X:Od}(hX: ∀v,py o X v=v): ∀{rg:List (Nat×Nat×Dv)},B8 o X rg=rg
 |[]=>rfl
 |(t,i,v)::rg=>by
  show(t,i,py o X v)::B8 o X rg=_;rw[hX,J3 hX]
theorem O4{o p:Nat}{X:Od}{v:Dv}(h:xZ (py o X v)=some p):xZ v=some p:=by
 unfold py at h;split at h
 ·next o' s E xs=>
  cases hb:xan o' o<;>rw[hb]at h
  ·exact h
  ·cases h
 ·next o' t' s E z=>
  cases hb:xan o' o<;>rw[hb]at h
  ·exact h
  ·cases h
 ·next o' s E E1 xss ix=>
  cases hb:xan o' o<;>rw[hb]at h
  ·exact h
  ·cases h
 ·exact h
theorem Gm{o:Nat}{X:Od}: ∀{rg:List (Nat×Nat×Dv)},∀e∈B8 o X rg,∀p,xZ e.2.2=some p-> ∃e'∈rg,xZ e'.2.2=some p
 |[],e,he=>absurd he Nm
 |(t,i,v)::rg,e,he=>by
  intro p hp;rcases xad.1 he with rfl|he
  ·refine⟨(t,i,v),FS,?_⟩;exact O4 hp
  ·obtain⟨e',h1,h2⟩:=Gm e he p hp;exact⟨e',H1 _ h1,h2⟩
theorem K3{o:Nat}(h:Ui P fr cx σ vs env w):Ui P fr cx (Dt σ o) vs env w:=by
 unfold Dt;split
 ·next X ho=>
  obtain⟨hB,hb⟩:=h;obtain⟨i,hi,_,hc⟩:=x8 ho;have hd:Bd cx ⟨σ.nx,B8 o X σ.rg,yD σ.ob o⟩:=⟨fun e he=>hB.o1 e (kT e he),hB.o2,fun e he p hp=>by obtain⟨e',h1,h2⟩:=Gm e he p hp;exact hB.r1 e' h1 p h2,hB.r2⟩;refine⟨hd,?_⟩
  cases X with
  |own s E xs=>
   have hm:(OS vs fr cx σ.ob)[i]? =some (mO s.rep E (vs o) xs):=Wz hi;have:=BD i hb hm;rw[KC hi,<-hc]at this;exact this.weak fun S w ha=>zz.append (DW ha.1 (zz.left ha.2)) (zz.right ha.2)
  |var s E z=>
   have hm:(OS vs fr cx σ.ob)[i]? =some (mP s.rep.c E (vs o) z):=Wz hi;obtain⟨b,hv,hs⟩:=hb.openP i hm;have:=zeX (e:=s.rep) i hs (wq hm);rw[eJ,KC hi,<-hc,<-hv]at this;exact this.weak fun S w ha=>zz.append (FB ha.1 (zz.left ha.2)) (zz.right ha.2)
  |mat s E E1 xss ix=>
   have h1:=uO ho hb;have h2:St fr.we fr.Se (PY s.rep E E1 (yY (vs o)) (w4 (vs o)) xss ix::OS vs fr cx (yD σ.ob o)) (GS P vs env fr cx σ) w:=St.grp.2 (Kc h1).2;exact(h2.mat_frz (Kc h1).1).weak fun S w ha=>zz.append (DS ha.1 (zz.left ha.2)) (zz.right ha.2)
  |bo s E E0 xs=>
   rw[J3 (fun v=>by cases v<;>rfl)];exact St.drop (i:=0) (uO ho hb)
  |ho E0=>
   rw[J3 (fun v=>by cases v<;>rfl)];exact St.drop (i:=0) (uO ho hb)
  |hid t E X Y mX mY g x=>
   rw[J3 (fun v=>by cases v<;>rfl)];exact St.drop (i:=0) (uO ho hb)
  |hiy Y mY y=>
   rw[J3 (fun v=>by cases v<;>rfl)];exact St.drop (i:=0) (uO ho hb)
 ·exact h
theorem SL(x:Operand)(h:Ui P fr cx σ vs env w):Ui P fr cx (frz cx σ x) vs env w:=by
 unfold frz;split
 ·exact K3 h
 ·exact K3 h
 ·exact K3 h
 ·exact h
theorem AV(x:Operand)(h:uH P fr cx σ env w):uH P fr cx (frz cx σ x) env w:=by
 obtain⟨hB,vs,ha⟩:=h;obtain⟨h1,h2⟩:=SL x ⟨hB,ha⟩;exact⟨h1,vs,h2⟩
theorem pE: ∀(l:List Operand) {σ:Sg},uH P fr cx σ env w->uH P fr cx (zcG cx σ l) env w
 |[],_,h=>h
 |x::r,_,h=>pE r (AV x h)
theorem zee(hT:zS P cf.tt)(hL:jy P cf.tt)(hC: ∀s∈cf.cs,y5 P s)(hX:pX P cf){op:Op}{k:Sg->Option R}(hd:wi cx d=true)(h:zd7 cf cx σ d op k=some r):
 lL P cx ⟨d,op,ty,pos,aft,g⟩ σ k r:=by
 unfold zd7 at h;split at h
 ·exact zbC hT hd h
 ·next E x=>
  cases hb:zfd cf d<;>rw[hb]at h
  ·exact m_E hT hL hC hX hd h
  ·exact zhf hd h
 ·next t x y=>
  obtain⟨hn,h⟩:=yh h;have hn:d=none:=by simpa using hn
  subst hn;split at h
  ·next ti ha=>exact za6 hT ha h
  ·cases h
 ·exact zeo hT hd h
 ·exact zgf hT hL hd h
 ·next t x hi=>
  split at h
  ·next o hx=>exact zbp hT hL hd hx h
  ·exact m_E hT hL hC hX hd h
 ·exact zgK hT hd h
 ·exact zfv hT hL hd h
 ·next f ags ts=>
  split at h
  ·next f' cs hf=>
   split at h
   ·next s hs=>exact zdW hC hd hf hs h
   ·exact m_E hT hL hC hX hd h
  ·exact m_E hT hL hC hX hd h
 ·exact m_E hT hL hC hX hd h
theorem zdj(hT:zS P cf.tt)(hL:jy P cf.tt)(hC: ∀s∈cf.cs,y5 P s)(hX:pX P cf){op:Op}{k:Sg->Option R}(hd:wi cx d=true)(h:mOp cf cx σ d op k=some r):
 lL P cx ⟨d,op,ty,pos,aft,g⟩ σ k r:=by
 unfold mOp at h
 cases hc:coM cf cx σ d op with
 |no=>rw[hc]at h;exact zee hT hL hC hX hd h
 |_=>
  rw[hc]at h;simp only[mCo]at h;unfold coM at hc;split at hc
  ·next t x y=>
   cases hb:NI (xU cx σ x)<;>rw[hb]at hc<;>cases hc
   all_goals
    obtain⟨hn,h⟩:=yh h
    have hn:d=none:=by simpa using hn
    subst hn
    split at h
    ·next ti ha=>exact Pv hT ha h
    ·cases h
  ·next t x y=>
   cases hb:H9 cf d<;>rw[hb]at hc<;>cases hc;all_goals exact zbi hT hd h
  ·next t n ps=>
   cases hb:H9 cf d<;>rw[hb]at hc<;>cases hc;all_goals exact zeZ hT hL hd h
  ·next E=>
   cases hb:H9 cf d<;>rw[hb]at hc<;>cases hc;all_goals exact S4 hT hd h
  ·next t x=>
   split at hc
   ·next o hx=>cases hc<;>exact za0 hT hd hx h
   ·cases hc
  ·next ags ts=>
   cases hb:ags.toList.any (fun x=>P0 (xU cx σ x))<;>rw[hb]at hc<;>cases hc;all_goals exact zfa hT hd h
  ·next f ags ts=>
   split at hc
   ·next o hf=>cases hc<;>exact SI hX hd hf h
   ·next f' hf=>
    split at hc
    ·next s hs=>
     obtain⟨h1,h2⟩:=zak hs;subst h2;cases hc<;>exact NR hX hd hf h1 h
    ·cases hc
   ·cases hc
  ·cases hc
theorem zao{t:Tmp}:put env (some t) (env t)=env:=by
 funext s;by_cases h:s=t
 ·subst h;exact om
 ·exact U6 (fun e=>h (by cases e;rfl))
theorem bh{t:Tmp}{b:Bool}(hn:ZF cx.rg t=true)(hv:env t= .bool b)(h:uH P fr cx σ env w):uH P fr cx (Bw σ t b) env w:=by
 obtain⟨hB,vs,ha⟩:=h
 have:=aU.rel<|VU (P:=P) (fr:=fr) (cx:=cx) (σ:=σ) (vs:=vs) (vs':=vs) (env:=env) (w:=w) (d:=some t) (v:=env t) (σ':=Bw σ t b) (l:=[(0,.kb b)]) (Γl:=[]) hB hn rfl (xac _) (fun _ _=>rfl)
  (fun e he o ho=>by obtain rfl:=xai.1 he;cases ho) hB.o1 (fun S w _ e he=>by obtain rfl:=xai.1 he;exact hv) ha
 rwa[zao]at this
theorem cm{t:Tmp}{x:Bool}{S:Nat->Prop}(h:get cx σ t 0=some (.d .b x))(hl:Lk P vs env S w cx σ t):env t= .bool x:=bK (hl 0 _ h)
theorem EU{b:Bool}{a c:Option R}(h:ifB b a c=some r):(b=true/\a=some r)\/(b=false/\c=some r):=by
 cases b
 ·exact .inr ⟨rfl,h⟩
 ·exact .inl ⟨rfl,h⟩
theorem zaX{all:List Oper}{o:Oper}{k:Sg->Bool->Option R}(h:ax cx all o σ k=some r)(hR:uH P fr cx σ env w): ∃σ' b,k σ' b=some r/\uH P fr cx σ' env w/\yE all.toArray env o=b:=by
 have ha:=hR;obtain⟨hB,vs,hd⟩:=hR;obtain⟨S,_,hΓ⟩:=hd.ex;unfold ax at h;split at h
 ·next hg=>exact⟨σ,true,h,ha,by unfold yE;rw[hg]⟩
 ·next j want hg=>
  split at h
  ·next o' he=>
   split at h
   ·next t ht=>
    have hc: ∀{v},env t=v->gd all.toArray env j=(match v with| .bool b=>some b|_=>none):=by
     rintro v rfl;unfold gd;simp only[List.getElem?_toArray,he,Option.bind_some,ht];rfl
    have hw:yE all.toArray env o=(gd all.toArray env j==some want):=by unfold yE;rw[hg]
    split at h
    ·next b hb=>
     have hv:env t= .bool b:=ZE hΓ t 0 _ hb;refine⟨σ,_,h,ha,?_⟩;rw[hw,hc hv];cases b<;>cases want<;>rfl
    ·next hb=>
     have hv:env t=undef:=ZE hΓ t 0 _ hb;refine⟨σ,_,h,ha,?_⟩;rw[hw,hc hv];rfl
    ·next x hb=>
     obtain⟨hn,h⟩:=yh h;have hv:env t= .bool x:=cm hb (ZE hΓ t);rcases EU h with⟨hx,h⟩|⟨hx,h⟩
     ·exact⟨_,_,h,bh hn (hv.trans (congrArg xej hx)) ha,by rw[hw,hc (hv.trans (congrArg xej hx))];cases want<;>rfl⟩
     ·exact⟨_,_,h,bh hn (hv.trans (congrArg xej hx)) ha,by rw[hw,hc (hv.trans (congrArg xej hx))];cases want<;>rfl⟩
    ·cases h
   ·cases h
  ·cases h
theorem zed{o:Oper}{k:Sg->Option R}(h:pK cx o σ k=some r)(hR:uH P fr cx σ env w): ∃σ',k σ'=some r/\uH P fr cx σ' env w:=by
 have ha:=hR;obtain⟨hB,vs,hc⟩:=hR;obtain⟨S,_,hΓ⟩:=hc.ex;unfold pK at h;split at h
 ·next t _ _ _=>
  split at h
  ·next x hb=>
   obtain⟨hn,h⟩:=yh h;have hv:env t= .bool x:=cm hb (ZE hΓ t);rcases EU h with⟨hx,h⟩|⟨hx,h⟩
   ·exact⟨_,h,bh hn (hv.trans (congrArg xej hx)) ha⟩
   ·exact⟨_,h,bh hn (hv.trans (congrArg xej hx)) ha⟩
  ·exact⟨σ,h,ha⟩
 ·exact⟨σ,h,ha⟩
theorem zeY{N:Nd}{ops:Array Oper}{o:Oper}{rest:List Oper}{Q:Qs}(hw:yE ops env o=true)(hd:qd N.n o.dst=true)(h:jZ P o env w (fun v w'=>WpL P N ops rest Q (put env o.dst v) w')):WpL P N ops (o::rest) Q env w:=by
 intro a h1 h2 h3;subst h3;unfold wpListIn;rw[iq (by rw[Wc];exact hw)];refine h.wp fun v w' hk=> ?_;exact hk _ (by rw[Qp];exact h1) (by rw[Ye];exact h2) (ZN (by rw[h1];exact Qo hd))
theorem zcs{N:Nd}{ops:Array Oper}{o:Oper}{rest:List Oper}{Q:Qs}(hw:yE ops env o=false)(hd:qd N.n o.dst=true)(h:WpL P N ops rest Q (put env o.dst undef) w):WpL P N ops (o::rest) Q env w:=by
 intro a h1 h2 h3;subst h3;unfold wpListIn;rw[ir (by rw[Wc,hw];exact Bool.false_ne_true)];exact⟨fun _ _=>trivial,h _ (by rw[Qp];exact h1) (by rw[Ye];exact h2) (ZN (by rw[h1];exact Qo hd))⟩
theorem zeW(hd:wi cx d=true)(h:uH P fr cx σ env w):uH P fr cx (σ.put d [(0,.un)]) (put env d undef) w:=by
 obtain⟨hB,vs,ha⟩:=h;exact(VU (σ':=σ.put d [(0,.un)]) (l:=[(0,.un)]) (v:=undef) (vs:=vs) (vs':=vs) (Γl:=[]) hB hd rfl (xac _) (fun _ _=>rfl) (fun e he o ho=>by obtain rfl:=xai.1 he;cases ho) hB.o1 (fun S w _ e he=>by obtain rfl:=xai.1 he;exact rfl) ha).rel
def cq(cx:Sg)(a b:yM):Prop:= ∀e∈cx.rg,b e.1=a e.1
theorem cq.refl{a:yM}:cq cx a a:=fun _ _=>rfl
theorem cq.trans{a b c:yM}(h:cq cx a b)(k:cq cx b c):cq cx a c:=fun e he=>(k e he).trans (h e he)
theorem cq.put{a b:yM}{v:Value}(hd:wi cx d=true)(h:cq cx a b):cq cx a (put b d v):=fun e he=>by
 rw[U6 fun ht=> ?_]
 ·exact h e he
 ·subst ht;simp only[wi,ZF,xaP]at hd;have:=hd e he;simp at this
theorem pJ(hT:zS P cf.tt)(hL:jy P cf.tt)(hC: ∀s∈cf.cs,y5 P s)(hX:pX P cf){N:Nd}{all:List Oper}{Q:Qs}{k:Sg->Option R}{env0:yM}
 (hK: ∀σ',k σ'=some r-> ∀env w,cq cx env0 env->uH P fr cx σ' env w->Q .normal env w): ∀{l:List Oper} {σ:Sg} {env:yM} {w:World},cq cx env0 env->(l.all fun o=>qd N.n o.dst)=true->Ib cf cx all l σ k=some r->uH P fr cx σ env w->WpL P N all.toArray l Q env w
 |[],σ,env,w,hS,_,h,hR=>fun a h1 h2 h3=>wpListIn_nil ⟨h1,h2,h3▸hK σ h env w hS hR⟩
 |o::l,σ,env,w,hS,hN,h,hR=>by
  simp only[List.all_cons,xam]at hN;unfold Ib at h;obtain⟨hd,h⟩:=yh h;obtain⟨σ1,b,h,hR,hw⟩:=zaX h hR;cases b
  ·exact zcs hw hN.1 (pJ hT hL hC hX hK (hS.put hd) hN.2 h (zeW hd hR))
  ·obtain⟨σ2,h,hR⟩:=zed h hR;have hR:=pE (zfq cf cx σ2 o.dst o.op) hR;obtain⟨σ',h',_,hm⟩:=zdj (P:=P) (d:=o.dst) (ty:=o.type) (pos:=o.pos) (aft:=o.after) (g:=o.guard) hT hL hC hX hd h;obtain⟨hB,vs,ha⟩:=hR;exact zeY hw hN.1 ((hm fr vs env w ⟨hB,ha⟩).mono fun v w' hb=>pJ hT hL hC hX hK (hS.put hd) hN.2 h' hb.rel)
end
end
section
section
variable{P:Program}{cf:Cf}{fr:Fr}{cx σ σ0:Sg}{vs vs':Nat->Value}{env env0:yM}{w:World}{R:Type}{r:R}
 {d:Option Tmp} {ty t yt:TypeId} {pos:String} {aft:Array Edge} {g:Option (Nat×Bool)} {x y:Operand}
theorem DY: ∀{a b:List (Nat×Nat×Dv)} {t i:Nat},(∀e∈a,e.1≠t)->aE (a++b) t i=aE b t i
 |[],_,_,_,_=>rfl
 |(t',i',d)::a,b,t,i,h=>by
  show(bif xan t' t && xan i' i then some d else aE (a++b) t i)=_;rw[uk (h (t',i',d) (FS))];simp only[Bool.false_and,cond_false];exact DY fun e he=>h e (H1 _ he)
theorem Sl{rg:List (Nat×Nat×Dv)}{t t' i:Nat}(h:t'≠t):aE (zcm rg t) t' i=aE rg t' i:=by
 induction rg with
 |nil=>rfl
 |cons e rg ih=>
  obtain⟨s,j,d⟩:=e;unfold zcm at ih⊢;rw[xdh];cases hb:xan s t
  ·simp only[hb,Bool.not_false,if_true];unfold aE;rw[ih]
  ·simp only[hb,xdK,xah,if_false];rw[ih];have:=z8 hb;subst this;conv=>rhs;unfold aE
   rw[uk (fun e=>h e.symm)];rfl
theorem IK{rg:List (Nat×Nat×Dv)}{t t' i:Nat}{l:List (Nat×Dv)}(h:t'≠t):aE (wZ rg (some t) l) t' i=aE rg t' i:=by
 unfold wZ;rw[DY fun e he=>by obtain⟨e',_,rfl⟩:=xal.1 he;exact fun e=>h e.symm];exact Sl h
theorem zb9{t t' i:Nat}{l:List (Nat×Dv)}{n:Nat}{ob:List (Nat×Od)}{dv:Dv}(hn:ZF cx.rg t=true)(h:get cx ⟨n,wZ σ.rg (some t) l,ob⟩ t' i=some dv):(t'=t/\(i,dv)∈l)\/(t'≠t/\get cx σ t' i=some dv):=by
 by_cases ht:t'=t
 ·subst ht;left;refine⟨rfl,?_⟩;rcases Bn h with hm|hm
  ·have hm:(t',i,dv)∈l.map (fun e=>(t',e.1,e.2))++zcm σ.rg t':=hm;rcases xaa.1 hm with hm|hm
   ·obtain⟨e,he,ha⟩:=xal.1 hm;cases ha;exact he
   ·have:=(xbW.1 hm).2;simp at this
  ·simp only[ZF,xaP]at hn;have:=hn _ hm;simp at this
 ·right;refine⟨ht,?_⟩;unfold get at h⊢;rw[show aE (wZ σ.rg (some t) l) t' i=aE σ.rg t' i from IK ht]at h;exact h
theorem zaC{t:Nat}{l:List (Nat×Dv)}{n:Nat}{ob:List (Nat×Od)}{S:Nat->Prop}(hn:ZF cx.rg t=true){t':Nat}(h1:t'=t-> ∀e∈l,(xF P vs e.2 (env t) e.1).p S w)(h2:t'≠t->Lk P vs env S w cx σ t'):Lk P vs env S w cx ⟨n,wZ σ.rg (some t) l,ob⟩ t':=by
 intro i dv hd;rcases zb9 hn hd with⟨rfl,hm⟩|⟨ha,hg⟩
 ·exact h1 rfl _ hm
 ·exact h2 ha i dv hg
theorem eY{l:List (Nat×Dv)}(hB:Bd cx σ)(hl: ∀e∈l,∀o,xZ e.2=some o->o<σ.nx):Bd cx (σ.put d l):=by
 refine⟨hB.o1,hB.o2,fun e he o ho=> ?_,hB.r2⟩;have he:e∈wZ σ.rg d l:=he;unfold wZ at he
 cases d with
 |none=>exact hB.r1 e he o ho
 |some t=>
  rcases xaa.1 he with he|he
  ·obtain⟨e',ha,rfl⟩:=xal.1 he;exact hl e' ha o ho
  ·exact hB.r1 e (xbW.1 he).1 o ho
theorem iK{t t':Nat}{x b:Bool}{S:Nat->Prop}(hn:ZF cx.rg t=true)(hb:get cx σ t 0=some (.d .b x))(hx:x=b)(h:Lk P vs env S w cx σ t'):Lk P vs env S w cx (Bw σ t b) t':=by
 refine zaC hn (fun e e' he=> ?_) (fun _=>h);subst e;obtain rfl:=xai.1 he;exact(cm hb h).trans (congrArg xej hx)
theorem Gf{all:List Oper}{o:Oper}{k:Sg->Bool->Option R}(h:ax cx all o σ k=some r)(hB:Bd cx σ): ∃σ' b,k σ' b=some r/\σ'.ob=σ.ob/\σ'.nx=σ.nx/\Bd cx σ'/\
 (∀(P:Program) vs env S w t,Lk P vs env S w cx σ t->Lk P vs env S w cx σ' t)/\(∀(P:Program) vs env S w,(∀t∈xby all.toArray o,Lk P vs env S w cx σ t)->yE all.toArray env o=b):=by
 unfold ax at h;split at h
 ·next hg=>exact⟨σ,true,h,rfl,rfl,hB,fun _ _ _ _ _ _ h=>h,fun P vs env S w _=>by unfold yE;rw[hg]⟩
 ·next j want hg=>
  split at h
  ·next o' hd=>
   split at h
   ·next t ht=>
    have ha:t∈xby all.toArray o:=by
     unfold xby;rw[hg];simp[hd,ht]
    have hc: ∀{env:yM} {v},env t=v->gd all.toArray env j=(match v with| .bool b=>some b|_=>none):=by
     rintro env v rfl;unfold gd;simp only[List.getElem?_toArray,hd,Option.bind_some,ht];rfl
    have hw: ∀env,yE all.toArray env o=(gd all.toArray env j==some want):=fun env=>by unfold yE;rw[hg]
    split at h
    ·next b hb=>
     refine⟨σ,_,h,rfl,rfl,hB,fun _ _ _ _ _ _ h=>h,fun P vs env S w hl=> ?_⟩;have hv:env t= .bool b:=hl t ha 0 _ hb;rw[hw,hc hv];cases b<;>cases want<;>rfl
    ·next hb=>
     refine⟨σ,_,h,rfl,rfl,hB,fun _ _ _ _ _ _ h=>h,fun P vs env S w hl=> ?_⟩;have hv:env t=undef:=hl t ha 0 _ hb;rw[hw,hc hv];rfl
    ·next x hb=>
     obtain⟨hn,h⟩:=yh h;have hf: ∀b,Bd cx (Bw σ t b):=fun b=>eY (d:=some t) hB fun e he o ho=>by obtain rfl:=xai.1 he;cases ho
     rcases EU h with⟨hx,h⟩|⟨hx,h⟩
     ·refine⟨_,_,h,rfl,rfl,hf _,fun P vs env S w t' hl=>iK hn hb hx hl,fun P vs env S w hl=> ?_⟩;have hv:=(cm hb (hl t ha)).trans (congrArg xej hx);rw[hw,hc hv];cases want<;>rfl
     ·refine⟨_,_,h,rfl,rfl,hf _,fun P vs env S w t' hl=>iK hn hb hx hl,fun P vs env S w hl=> ?_⟩;have hv:=(cm hb (hl t ha)).trans (congrArg xej hx);rw[hw,hc hv];cases want<;>rfl
    ·cases h
   ·cases h
  ·cases h
theorem Ll{o:Oper}{k:Sg->Option R}(h:pK cx o σ k=some r)(hB:Bd cx σ): ∃σ',k σ'=some r/\σ'.ob=σ.ob/\σ'.nx=σ.nx/\Bd cx σ'/\(∀(P:Program) vs env S w t,Lk P vs env S w cx σ t->Lk P vs env S w cx σ' t):=by
 unfold pK at h;split at h
 ·next t _ _ _=>
  split at h
  ·next x hb=>
   obtain⟨hn,h⟩:=yh h;have ha: ∀b,Bd cx (Bw σ t b):=fun b=>eY (d:=some t) hB fun e he o ho=>by obtain rfl:=xai.1 he;cases ho
   rcases EU h with⟨hx,h⟩|⟨hx,h⟩
   ·exact⟨_,h,rfl,rfl,ha _,fun P vs env S w t' hl=>iK hn hb hx hl⟩
   ·exact⟨_,h,rfl,rfl,ha _,fun P vs env S w t' hl=>iK hn hb hx hl⟩
  ·exact⟨σ,h,rfl,rfl,hB,fun _ _ _ _ _ _ h=>h⟩
 ·exact⟨σ,h,rfl,rfl,hB,fun _ _ _ _ _ _ h=>h⟩
def prL(P:Program)(vs:Nat->Value)(l:List (Nat×Dv)):Pr where
 p S v w:= ∀e∈l,(xF P vs e.2 v e.1).p S w
 keepS h k:=fun e he=>(xF P vs e.2 _ e.1).keep (h e he) k
 sub h k:=fun e he=>(xF P vs e.2 _ e.1).sub (h e he) k
def Iu(P:Program)(vs:Nat->Value)(Γ:List FF)(env0:yM)(cx σ:Sg)(K:List (Tmp×Pr)):Prop:= ∀(env:yM) (S:Nat->Prop) (w:World),zz S Γ w-> ∀t,uz K env0 env S w t->Lk P vs env S w cx σ t
def zbO(cx:Sg)(K:List (Tmp×Pr)):Prop:= ∀e∈K,ZF cx.rg e.1=true
theorem ZZ{K:List (Tmp×Pr)}{S:Nat->Prop}: ∀{ts:List Tmp},Xw K env0 env S w ts-> ∀t∈ts,uz K env0 env S w t
 |[],_,_,h=>absurd h Nm
 |_::_,h,t,ht=>by
  rcases xad.1 ht with rfl|ht
  ·exact h.1
  ·exact ZZ h.2 t ht
theorem nL{Γ:List FF}{K:List (Tmp×Pr)}{Φ:Pr}{l:List (Nat×Dv)}{o:Oper}(hd:wi cx o.dst=true)(h:Iu P vs Γ env0 cx σ K)(hΦ: ∀S v w,Φ.p S v w-> ∀e∈l,(xF P vs e.2 v e.1).p S w):Iu P vs Γ env0 cx (σ.put o.dst l) (Uj o.dst Φ K):=by
 intro env S w hΓ t ht
 cases ha:o.dst with
 |none=>
  rw[ha]at ht;exact h env S w hΓ t ht
 |some s=>
  rw[ha]at ht hd;refine zaC hd (fun e=> ?_) (fun hb=> ?_)
  ·subst e;refine hΦ S _ w ?_;unfold uz Uj at ht;simpa using ht
  ·refine h env S w hΓ t ?_;unfold uz Uj at ht;rw[List.find?_cons,uk (fun e=>hb e.symm)]at ht;exact ht
theorem Ez{K:List (Tmp×Pr)}{Φ:Pr}{d:Option Tmp}(hd:wi cx d=true)(h:zbO cx K):zbO cx (Uj d Φ K):=by
 cases d with
 |none=>exact h
 |some s=>
  intro e he;rcases xad.1 he with rfl|he
  ·exact hd
  ·exact h e he
theorem GJ(hT:zS P cf.tt)(hL:jy P cf.tt)(hC: ∀s∈cf.cs,y5 P s)(hX:pX P cf){all:List Oper}{k:Sg->Option R}{Γ:List FF}: ∀{os:List Oper} {σ:Sg} {K:List (Tmp×Pr)},Rf cf cx all os σ k=some r->
 Iu P vs Γ env0 cx σ K->zbO cx K->σ.ob=σ0.ob->Bd cx σ-> ∃(Φs:List Pr) (σ':Sg),Φs.length=os.length/\Obs P all.toArray (OS vs fr cx σ0.ob) Γ env0 (os.zip Φs) K/\k σ'=some r/\Iu P vs Γ env0 cx σ' (Ee (os.zip Φs) K)/\zbO cx (Ee (os.zip Φs) K)/\σ'.ob=σ0.ob/\Bd cx σ'
 |[],σ,K,h,hi,hn,ho,hB=>⟨[],σ,rfl,trivial,h,hi,hn,ho,hB⟩
 |o::os,σ,K,h,hi,hn,ho,hB=>by
  unfold Rf at h;obtain⟨hd,h⟩:=yh h;obtain⟨σ1,b,h,hf,hx,hg,ha,hq⟩:=Gf h hB;have hw: ∀{env:yM} {S:Nat->Prop} {w:World},zz S Γ w->Xw K env0 env S w (o.looksAt all.toArray)->yE all.toArray env o=b:=fun{env S w} hΓ hh=>hq P vs env S w fun t ht=>hi env S w hΓ t (ZZ hh t ht);cases b
  ·have hb:Iu P vs Γ env0 cx (σ1.put o.dst [(0,.un)]) (Uj o.dst (prV undef) K):=nL hd (fun env S w hΓ t ht=>ha P vs env S w t (hi env S w hΓ t ht)) fun S v w hv e he=>by obtain rfl:=xai.1 he;exact hv
   obtain⟨Φs,σ',h1,h2,h3,h4,h5,h6,h7⟩:=GJ hT hL hC hX (os:=os) h hb (Ez hd hn) (hf.trans ho) (eY hg fun e he p hp=>by obtain rfl:=xai.1 he;cases hp);refine⟨prV undef::Φs,σ',by simp[h1],⟨fun S w env hS hM hΓ hh=>⟨fun hc=> ?_,fun _=>rfl⟩,h2⟩,h3,h4,h5,h6,h7⟩;rw[hw hΓ hh]at hc;cases hc
  ·obtain⟨σ2,h,hr,hy,hs,hj⟩:=Ll h hg;obtain⟨l,h,hu⟩:=Pt (P:=P) (d:=o.dst) (ty:=o.type) (pos:=o.pos) (aft:=o.after) (g:=o.guard) (F:=fr.F) hT hL hC hX h;obtain⟨hl,h⟩:=yh h;have hk: ∀env S w t,Lk P vs env S w cx σ t->Lk P vs env S w cx σ2 t:=fun env S w t ht=>hj P vs env S w t (ha P vs env S w t ht);have hb:Iu P vs Γ env0 cx (σ2.put o.dst l) (Uj o.dst (prL P vs l) K):=nL hd (fun env S w hΓ t ht=>hk env S w t (hi env S w hΓ t ht)) fun S v w hv=>hv;have hm:σ2.ob=σ0.ob:=hr.trans (hf.trans ho);obtain⟨Φs,σ',h1,h2,h3,h4,h5,h6,h7⟩:=GJ hT hL hC hX (os:=os) h hb (Ez hd hn) hm (eY hs (tM hl));refine⟨prL P vs l::Φs,σ',by simp[h1],⟨fun S w env hS hM hΓ hh=>⟨fun hc=> ?_,fun hc=> ?_⟩,h2⟩,h3,h4,h5,h6,h7⟩
   ·refine hu env w S vs hS (by rw[hm];exact hM) fun t ht=>hk env S w t (hi env S w hΓ t (ZZ hh t ?_));exact xaa.2 (.inl ht)
   ·rw[hw hΓ hh]at hc;cases hc
end
end
theorem BT{l:List Oper}{D:Nat->Bool}(hd: ∀j,D j=true-> ∀e∈(zN l j).after,xco .any e=true->D e.on=true): ∀(f j i:Nat),D j=true->vt l f j i=true->D i=true
 |0,j,i,hj,h=>by
  obtain⟨e,he,hb,rfl⟩:=jx h;exact hd j hj e he hb
 |f+1,j,i,hj,h=>by
  unfold vt at h;rw[xdT]at h;rcases h with h|h
  ·obtain⟨e,he,hb,rfl⟩:=jx h;exact hd j hj e he hb
  ·rw[xeG]at h;obtain⟨e,he,hb⟩:=h;rw[xam]at hb;exact BT hd f e.on i (hd j hj e (xdf.1 he) hb.1) hb.2
section
def cW(al:Rb->Bool)(rs:List Rb):List (Nat×Od):=rs.filterMap fun r=>if al r=true then some (r.o,r.x)else none
def pS(i:Nat)(rs:List Rb):List (Nat×Od):=rs.filterMap fun r=>if r.c=some i then some (r.o,r.x)else none
def nU(i:Nat)(rs:List Rb):List (Nat×Od):=rs.filterMap fun r=>if r.a=some i then some (r.o,r.x)else none
def af(i:Nat)(rs:List Rb):List (Nat×Od):=rs.filterMap fun r=>if i∈r.rd then some (r.o,r.x)else none
theorem Gr{al al':Rb->Bool}{i:Nat}: ∀{rs:List Rb},(∀r∈rs,(r.c=some i/\i∉r.rd/\r.a≠some i/\al r=true/\al' r=false)\/(r.a=some i/\r.c≠some i/\i∉r.rd/\al r=false/\al' r=true)\/
 (i∈r.rd/\r.c≠some i/\r.a≠some i/\al r=true/\al' r=true)\/(r.c≠some i/\r.a≠some i/\i∉r.rd/\al r=al' r))->
 ∃rest,(∀e∈rest,∃r∈rs,e=(r.o,r.x)/\al r=true/\al' r=true)/\(cW al rs).Perm (pS i rs++(af i rs++rest))/\(cW al' rs).Perm (nU i rs++(af i rs++rest))
 |[],_=>⟨[],fun e he=>absurd he Nm,xdA _,xdA _⟩
 |r::rs,h=>by
  obtain⟨rest,h1,h2,h3⟩:=Gr (rs:=rs) fun q hq=>h q (H1 _ hq);have ha: ∀e∈rest,∃q∈r::rs,e=(q.o,q.x)/\al q=true/\al' q=true:=fun e he=>by
   obtain⟨q,hq,h⟩:=h1 e he;exact⟨q,H1 _ hq,h⟩
  rcases h r (FS)with⟨a1,a2,a3,a4,a5⟩|⟨a1,a2,a3,a4,a5⟩|⟨a1,a2,a3,a4,a5⟩|⟨a1,a2,a3,a4⟩
  ·refine⟨rest,ha,?_,?_⟩
   ·simp only[cW,pS,af,xaO,a1,a2,a4,if_true,if_false,reduceIte]at h2⊢;exact h2.cons _
   ·simp only[cW,nU,af,xaO,a3,a2,a5,if_false,reduceIte,xah]at h3⊢;exact h3
  ·refine⟨rest,ha,?_,?_⟩
   ·simp only[cW,pS,af,xaO,a2,a3,a4,if_false,reduceIte,xah]at h2⊢;exact h2
   ·simp only[cW,nU,af,xaO,a1,a3,a5,if_true,if_false,reduceIte]at h3⊢;exact h3.cons _
  ·refine⟨rest,ha,?_,?_⟩
   ·simp only[cW,pS,af,xaO,a1,a2,a4,if_true,if_false,reduceIte]at h2⊢;exact(h2.cons _).trans xcp.symm
   ·simp only[cW,nU,af,xaO,a1,a3,a5,if_true,if_false,reduceIte]at h3⊢;exact(h3.cons _).trans xcp.symm
  ·cases hb:al r with
   |false=>
    rw[hb]at a4;refine⟨rest,ha,?_,?_⟩
    ·simp only[cW,pS,af,xaO,a1,a3,hb,if_false,reduceIte,xah]at h2⊢;exact h2
    ·simp only[cW,nU,af,xaO,a2,a3,<-a4,if_false,reduceIte,xah]at h3⊢;exact h3
   |true=>
    rw[hb]at a4;refine⟨(r.o,r.x)::rest,fun e he=> ?_,?_,?_⟩
    ·rcases xad.1 he with rfl|he
     ·exact⟨r,FS,rfl,hb,a4.symm⟩
     ·exact ha e he
    ·simp only[cW,pS,af,xaO,a1,a3,hb,if_true,if_false,reduceIte]at h2⊢;rw[<-xak]at h2⊢;exact(h2.cons _).trans xcp.symm
    ·simp only[cW,nU,af,xaO,a2,a3,<-a4,if_true,if_false,reduceIte]at h3⊢;rw[<-xak]at h3⊢;exact(h3.cons _).trans xcp.symm
def KV(P:Program)(vs:Nat->Value)(KL:List (Tmp×List (Nat×Dv))):List (Tmp×Pr):=KL.map fun e=>(e.1,prL P vs e.2)
def AB(d:Option Tmp)(l:List (Nat×Dv))(KL:List (Tmp×List (Nat×Dv))):List (Tmp×List (Nat×Dv)):=match d with
 |some t=>(t,l)::KL
 |none=>KL
def gM:List (Oper×List (Nat×Dv))->List (Tmp×List (Nat×Dv))->List (Tmp×List (Nat×Dv))
 |[],K=>K
 |(o,l)::r,K=>gM r (AB o.dst l K)
def OL(P:Program)(vs:Nat->Value)(L:List (Oper×List (Nat×Dv))):List (Oper×Pr):=L.map fun e=>(e.1,prL P vs e.2)
section
variable{P:Program}{vs:Nat->Value}
theorem Ra{d:Option Tmp}{l:List (Nat×Dv)}{KL:List (Tmp×List (Nat×Dv))}:KV P vs (AB d l KL)=Uj d (prL P vs l) (KV P vs KL):=by cases d<;>rfl
theorem OM: ∀(L:List (Oper×List (Nat×Dv))) (KL:List (Tmp×List (Nat×Dv))),KV P vs (gM L KL)=Ee (OL P vs L) (KV P vs KL)
 |[],KL=>rfl
 |(o,l)::r,KL=>by
  show KV P vs (gM r (AB o.dst l KL))=Ee (OL P vs r) (Uj o.dst (prL P vs l) (KV P vs KL));rw[OM r,Ra]
end
def ObB(P:Program)(ops:Array Oper)(we:World)(Se:Nat->Prop)(mE:List MF)(Γ:List FF)(env0:yM)(vs:Nat->Value)(n0:Nat)(rs:List Rb)(KL:List (Tmp×List (Nat×Dv)))(i:Nat)(o:Oper)(L:List (Nat×Dv))(I:Oi):Prop:=
 n0<=I.lo/\I.lo<=I.hi/\(∀e∈L,∀p,xZ e.2=some p->p<I.hi/\p∈I.refs)/\(∀e∈nU i rs,e.1<I.hi)/\
 ∀vs',(∀p,p<n0->vs' p=vs p)-> ∀(env:yM) (F:List MF) (G:List FF) (w:World),St we Se (MS vs' (pS i rs++af i rs)++(mE++F)) (P9 (KV P vs' KL) env0 env (o.looksAt ops)::(Γ++G)) w->
  (yE ops env o=true->jZ P o env w (fun v w'=> ∃vs2,(∀p,p<I.lo->vs2 p=vs' p)/\St we Se (MS vs2 (nU i rs)++(MS vs' (af i rs)++(mE++F))) (zbw P vs2 v L++(Γ++G)) w'))/\
  (yE ops env o=false->pS i rs=[]/\nU i rs=[]/\ ∀S w,zz S (zbw P vs' undef L) w)
def zb1(P:Program)(ops:Array Oper)(we:World)(Se:Nat->Prop)(mE:List MF)(Γ:List FF)(env0:yM)(vs:Nat->Value)(n0:Nat)(rs:List Rb):List ((Oper×List (Nat×Dv))×Oi)->Nat->List (Tmp×List (Nat×Dv))->Prop
 |[],_,_=>True
 |((o,L),I)::r,i,KL=>ObB P ops we Se mE Γ env0 vs n0 rs KL i o L I/\zb1 P ops we Se mE Γ env0 vs n0 rs r (i+1) (AB o.dst L KL)
theorem n5{P:Program}{ops:Array Oper}{we:World}{Se:Nat->Prop}{mE:List MF}{Γ:List FF}{env0:yM}{vs:Nat->Value}{n0:Nat}{rs:List Rb}: ∀(r:List (Oper×List (Nat×Dv))) (is:List Oi) (n:Nat) (KL:List (Tmp×List (Nat×Dv))) (i:Nat) (x:Oper×List (Nat×Dv)) (I:Oi),
 zb1 P ops we Se mE Γ env0 vs n0 rs (r.zip is) n KL->r[i]? =some x->is[i]? =some I->ObB P ops we Se mE Γ env0 vs n0 rs (gM (r.take i) KL) (n+i) x.1 x.2 I
 |[],_,_,_,_,_,_,h,hx,_=>by simp at hx
 |_::_,[],_,_,_,_,_,_,_,h=>by simp at h
 |(o,L)::r,I0::is,n,KL,0,x,I,h,hx,hc=>by simp at hx hc;subst hx;subst hc;exact h.1
 |(o,L)::r,I0::is,n,KL,i+1,x,I,h,hx,hc=>by
  have:=n5 r is (n+1) (AB o.dst L KL) i x I h.2 (by simpa using hx) (by simpa using hc);rw[show n+1+i=n+(i+1)by omega]at this;simpa[gM]using this
structure ziQ(l:List Oper)(m:Nat)(rs:List Rb)(is:List Oi):Prop where
 a: ∀r∈rs,∀j,r.a=some j->j<m/\ ∀i∈r.rd,vt l 16 i j=true
 c: ∀r∈rs,∀k,r.c=some k->k<m/\(∀j,r.a=some j->vt l 16 k j=true)/\ ∀i∈r.rd,vt l 16 k i=true
 n: ∀i I,is[i]? =some I-> ∀r∈rs,I.lo<=r.o->r.o<I.hi-> ∃j,r.a=some j/\(j=i\/vt l 16 j i=true)
 f: ∀i I j J,is[i]? =some I->is[j]? =some J-> ∀p∈J.refs,I.lo<=p->p<I.hi->j=i\/vt l 16 j i=true
 uniq: ∀i j t,i<m->j<m->i≠j->(zN l i).dst=some t->(zN l j).dst≠some t
theorem Oj{l:List Oper}{m:Nat}{rs:List Rb}{is:List Oi}(h:zbz l m rs is=true):ziQ l m rs is:=by
 unfold zbz at h;rw[xam,xam]at h;obtain⟨⟨hr,hn⟩,hu⟩:=h;have hb: ∀i I,is[i]? =some I->zbR l i I rs is.zipIdx=true:=fun i I hi=>xaP.1 hn (I,i) (List.mem_zipIdx_iff_getElem?.2 hi);have inb: ∀(I:Oi) (p:Nat),I.lo<=p->p<I.hi->inB I p=true:=fun I p h1 h2=>by
  unfold inB;rw[Nat.ble_eq_true_of_le h1,Bool.true_and];exact Nat.ble_eq_true_of_le h2
 refine⟨fun r ha j hj=> ?_,fun r ha k hk=> ?_,fun i I hi r ha h1 h2=> ?_,fun i I j J hi hj p hp h1 h2=> ?_,fun i j t hi hj hc hd he=> ?_⟩
 ·have:=xaP.1 hr r ha;rw[xam]at this;have:=this.1;rw[hj]at this;simp only[xam,xaP]at this;exact⟨by have:=xbH this.1;omega,this.2⟩
 ·have:=xaP.1 hr r ha;rw[xam]at this;have:=this.2;rw[hk]at this;simp only[xam,xaP]at this;refine⟨by have:=xbH this.1.1;omega,fun j hj=> ?_,this.2⟩;have:=this.1.2;rw[hj]at this;exact this
 ·have:=hb i I hi;unfold zbR at this;rw[xam]at this;have:=xaP.1 this.1 r ha;rw[inb I _ h1 h2,xdK,xec]at this;split at this
  ·next j hj=>
   rw[xdT]at this;exact⟨j,hj,this.imp z8 id⟩
  ·cases this
 ·have:=hb i I hi;unfold zbR at this;rw[xam]at this;have:=xaP.1 this.2 (J,j) (List.mem_zipIdx_iff_getElem?.2 hj);have:=xaP.1 this p hp;rw[inb I _ h1 h2,xdK,xec,xdT]at this;exact this.imp z8 id
 ·have:=xaP.1 (xaP.1 hu i (xaQ.2 hi)) j (xaQ.2 hj);rw[uk hc,xec,hd]at this;simp[he]at this
end
section
section
variable{P:Program}{N:Nd}{we:World}{Se:Nat->Prop}{ms:List MF}{Γ:List FF}{Q:Qs}{env0:yM}{l:List Oper}{m:Nat}
theorem Mx{Lp:List (Oper×Pr)}(hc: ∀i,i<m-> ∃Φ,Lp[i]? =some (zN l i,Φ))(ha: ∀(i:Nat) (x:Oper×Pr),Lp[i]? =some x->i<m/\x.1=zN l i){D:Nat->Bool}{env:yM}{S:Nat->Prop}{w:World}{i:Nat}{t:Tmp}
 (hd: ∀t,(∀i,i<m->D i=true->(zN l i).dst≠some t)->env t=env0 t) (hf:(Fj Lp D env).p S w) (hk:i<=m) (ht: ∀j,j<m->(zN l j).dst=some t->(D j=true↔j<i)):uz (Ee (Lp.take i) []) env0 env S w t:=by
 unfold uz;rcases dc t (Lp.take i) []with⟨j,y,g1,g2,g3,g4⟩|⟨g1,g2⟩
 ·rw[g4];rw[xbT]at g1;split at g1
  ·next hb=>
   obtain⟨hg,hy⟩:=ha j y g1;exact hf j y t ((ht j hg (hy▸g2)).2 hb) g1 g2
  ·cases g1
 ·rw[g2];simp only[List.find?_nil];refine hd t fun j hj hi he=> ?_;have hb:=(ht j hj he).1 hi;obtain⟨Φ,hΦ⟩:=hc j hj;exact g1 j (zN l j,Φ) (by rw[xbT,iq hb];exact hΦ) he
theorem PO(hc:Yx l m=true){Lp:List (Oper×Pr)}(hm: ∀i,i<m-> ∃Φ,Lp[i]? =some (zN l i,Φ))(hd: ∀(i:Nat) (x:Oper×Pr),Lp[i]? =some x->i<m/\x.1=zN l i){D:Nat->Bool}{env:yM}{S:Nat->Prop}{w:World}{i:Nat}
 (hp:i<m) (hn:D i=false) (hf: ∀e∈(zN l i).after,xco .any e=true->D e.on=true) (hg: ∀j,D j=true-> ∀e∈(zN l j).after,xco .any e=true->D e.on=true)
 (ho: ∀t,(∀i,i<m->D i=true->(zN l i).dst≠some t)->env t=env0 t) (hq:(Fj Lp D env).p S w):Xw (Ee (Lp.take i) []) env0 env S w (xby l.toArray (zN l i)):=by
 obtain⟨h0,h1,h2,h3,hu⟩:=jD hc;have hv:i<l.length:=by omega
 have hi: ∀t,t∈xby l.toArray (zN l i)-> ∀j,j<m->(zN l j).dst=some t->j≠i->(D j=true↔j<i):=by
  intro t ht j hj hk hr;have h7:=h2 i j t hp hj hr hk (.inl ht);constructor
  ·intro hs;rcases xch j i with h|h
   ·exact h
   ·exfalso;obtain⟨e,he,hb,hl⟩:=jx (h7.2 (by omega));have h8:=hg j hs e he hb;rw[hl,hn]at h8;cases h8
  ·intro ha;obtain⟨e,he,hb,hl⟩:=jx (h7.1 ha);have h8:=hf e he hb;rwa[hl]at h8
 exact VY _ fun t ht=>Mx hm hd ho hq (by omega) fun j hj hk=>by
  by_cases ha:j=i
  ·subst ha;rw[hn];simp
  ·exact hi t ht j hj hk ha
def cV(D:Nat->Bool)(r:Rb):Bool:=(match r.a with
 |none=>true
 |some j=>D j) && !(match r.c with
 |none=>false
 |some k=>D k)
theorem Ha{D:Nat->Bool}{i:Nat}(ha: ∀e∈(zN l i).after,xco .any e=true->D e.on=true)(hc: ∀j,D j=true-> ∀e∈(zN l j).after,xco .any e=true->D e.on=true): ∀(f j:Nat),vt l f i j=true->D j=true
 |0,j,h=>by
  obtain⟨e,he,hb,rfl⟩:=jx h;exact ha e he hb
 |f+1,j,h=>by
  unfold vt at h;rw[xdT]at h;rcases h with h|h
  ·obtain⟨e,he,hb,rfl⟩:=jx h;exact ha e he hb
  ·rw[xeG]at h;obtain⟨e,he,hb⟩:=h;rw[xam]at hb;exact BT hc f e.on j (ha e (xdf.1 he) hb.1) hb.2
theorem th{al al':Rb->Bool}: ∀{rs:List Rb},(∀r∈rs,al r=al' r)->cW al rs=cW al' rs
 |[],_=>rfl
 |r::rs,h=>by
  have ih:=th (rs:=rs) fun q hq=>h q (H1 _ hq);unfold cW at ih⊢;rw[xaO,xaO,h r (FS),ih]
theorem zfJ{id:Nat}{mE:List MF}(m:Nat)(Ls:List (List (Nat×Dv)))(is:List Oi)(rs:List Rb)(ts:List Tmp)(vs:Nat->Value)(n0:Nat)(hm:P.follows .mixedOrders=true)(hc:Yx l m=true)(hl:Ls.length=m)(h9:is.length=m)(hx:zbz l m rs is=true)
 (hms:MS vs (cW (fun r=>r.a.isNone) rs)++mE=ms) (hd:(l.all fun o=>qd N.n o.dst)=true) (hF:zb1 P l.toArray we Se mE Γ env0 vs n0 rs (((l.take m).zip Ls).zip is) 0 [])
 (fin: ∀(env:yM) (w:World) (vs':Nat->Value),(∀p,p<n0->vs' p=vs p)->St we Se (MS vs' (cW (fun r=>r.c.isNone) rs)++mE) (P9 (KV P vs' (gM ((l.take m).zip Ls) [])) env0 env ts::Γ) w->WpL P N l.toArray (l.drop m) Q env w):
 T P N we Se ms Γ (.region id l.toArray true) Q env0:=by
 obtain⟨h0,h1,h2,h3,h3'⟩:=jD hc;have hp:=Oj hx;obtain⟨L,hL⟩: ∃L,L=(l.take m).zip Ls:=⟨_,rfl⟩;rw[<-hL]at hF fin;have hLl:L.length=m:=by rw[hL];simp;omega
 have hG: ∀i,i<m-> ∃x,L[i]? =some (zN l i,x):=fun i hi=>by
  have h9:i<l.length:=xap hi h0;have h':i<Ls.length:=hl.symm▸hi;refine⟨Ls[i]'(h'),?_⟩;rw[hL,List.getElem?_zip_eq_some];refine⟨?_,by simp⟩;rw[xbT,iq hi];simp[zN,h9]
 have hH: ∀i x,L[i]? =some x->i<m/\x.1=zN l i:=fun i x hx=>by
  have hi:i<m:=by have:=(xar.1 hx).1;omega
  obtain⟨Φ,h⟩:=hG i hi;rw[h]at hx;cases hx;exact⟨hi,rfl⟩
 have opre: ∀vs' i,i<m-> ∃Φ,(OL P vs' L)[i]? =some (zN l i,Φ):=fun vs' i hi=>by
  obtain⟨x,h⟩:=hG i hi;exact⟨_,by rw[OL,xaA,h];rfl⟩
 have opre': ∀vs' (i:Nat) (x:Oper×Pr),(OL P vs' L)[i]? =some x->i<m/\x.1=zN l i:=fun vs' i x hx=>by
  rw[OL,xaA]at hx
  cases hy:L[i]? with
  |none=>rw[hy]at hx;cases hx
  |some y=>rw[hy]at hx;cases hx;exact hH i y hy
 refine zhK m (fun D env w=>(∀t,(∀i,i<m->D i=true->(zN l i).dst≠some t)->env t=env0 t)/\ ∃vs',(∀p,p<n0->vs' p=vs p)/\St we Se (MS vs' (cW (cV D) rs)++mE) (Γ++[Fj (OL P vs' L) D env]) w) hm hc hd ?_ ?_ ?_
 ·intro w hw;refine⟨fun t _=>rfl,vs,fun _ _=>rfl,?_⟩;have:cV (fun _=>false)=fun r=>r.a.isNone:=by
   funext r;unfold cV;cases r.a<;>cases r.c<;>rfl
  rw[this,hms];exact hw.weak fun S w h=>zz.append h ⟨fun i x t hi=>(by cases hi),trivial⟩
 ·rintro D i env w hR hE hlow hK hv ⟨hD,vs',hS,hT⟩;have hil':i<l.length:=by omega
  obtain⟨x,hxi⟩:=hG i hR;obtain⟨I,hI⟩: ∃I,is[i]? =some I:=⟨_,IR (by omega)⟩;obtain⟨o1,o2,o3,o4,hM⟩:=n5 L is 0 [] i _ I hF hxi hI;rw[xaS]at hM o4;have hn: ∀j,vt l 16 i j=true->D j=true:=fun j hj=>Ha hK hv 16 j hj;have hU: ∀k,D k=true->vt l 16 k i≠true:=fun k hk hr=>by
   have:=BT hv 16 k i hk hr;rw[hE]at this;cases this
  have hW: ∀r∈rs,(r.c=some i/\i∉r.rd/\r.a≠some i/\cV D r=true/\cV (rE D i) r=false)\/(r.a=some i/\r.c≠some i/\i∉r.rd/\cV D r=false/\cV (rE D i) r=true)\/
   (i∈r.rd/\r.c≠some i/\r.a≠some i/\cV D r=true/\cV (rE D i) r=true)\/(r.c≠some i/\r.a≠some i/\i∉r.rd/\cV D r=cV (rE D i) r):=by
   intro r hr;have hA:vt l 16 i i≠true:=fun h=>by have:=hn i h;rw[hE]at this;cases this
   have hq: ∀j,j≠i->rE D i j=D j:=fun j hj=>GP hj;by_cases hf:r.c=some i
   ·obtain⟨c1,c2,c3⟩:=hp.c r hr i hf;have hu:i∉r.rd:=fun h=>hA (c3 i h);have hb:r.a≠some i:=fun h=>hA (c2 i h);refine .inl ⟨hf,hu,hb,?_,?_⟩
    ·unfold cV;rw[hf];simp only[hE,Bool.not_false,Bool.and_true]
     cases ha:r.a with
     |none=>rfl
     |some j=>exact hn j (c2 j ha)
    ·unfold cV;rw[hf];simp only[cn,xdK,Bool.and_false]
   ·by_cases hb:r.a=some i
    ·obtain⟨a1,a2⟩:=hp.a r hr i hb;have hu:i∉r.rd:=fun h=>hA (a2 i h);refine .inr (.inl ⟨hb,hf,hu,?_,?_⟩)
     ·unfold cV;rw[hb];simp only[hE,Bool.false_and]
     ·unfold cV;rw[hb];simp only[cn,Bool.true_and]
      cases hg:r.c with
      |none=>rfl
      |some k=>
       simp only;rw[hq k (fun e=>hf (by rw[hg,e]))]
       cases hY:D k with
       |false=>rfl
       |true=>exact absurd ((hp.c r hr k hg).2.1 i hb) (hU k hY)
    ·have hZ: ∀k,r.c=some k->i∈r.rd->D k=false:=fun k hk hi=>by
      cases hY:D k with
      |false=>rfl
      |true=>exact absurd ((hp.c r hr k hk).2.2 i hi) (hU k hY)
     have hN:cV (rE D i) r=cV D r:=by
      unfold cV
      cases ha:r.a with
      |none=>
       cases hg:r.c with
       |none=>rfl
       |some k=>simp only;rw[hq k (fun e=>hf (by rw[hg,e]))]
      |some j=>
       cases hg:r.c with
       |none=>simp only;rw[hq j (fun e=>hb (by rw[ha,e]))]
       |some k=>simp only;rw[hq j (fun e=>hb (by rw[ha,e])),hq k (fun e=>hf (by rw[hg,e]))]
     by_cases hu:i∈r.rd
     ·have:cV D r=true:=by
       unfold cV;have e1:(match r.c with|none=>false|some k=>D k)=false:=by
        cases hg:r.c with
        |none=>rfl
        |some k=>exact hZ k hg hu
       rw[e1];simp only[Bool.not_false,Bool.and_true]
       cases ha:r.a with
       |none=>rfl
       |some j=>exact hn j ((hp.a r hr j ha).2 i hu)
      exact .inr (.inr (.inl ⟨hu,hf,hb,this,hN.trans this⟩))
     ·exact .inr (.inr (.inr ⟨hf,hb,hu,hN.symm⟩))
  obtain⟨rest,h4,p1,p2⟩:=Gr hW;have hV: ∀S:Nat->Prop,∀w:World,(Fj (OL P vs' L) D env).p S w->Xw (KV P vs' (gM (L.take i) [])) env0 env S w (xby l.toArray (zN l i)):=fun S w h5=>by
   rw[OM];have:=PO hc (opre vs') (opre' vs') hR hE hK hv hD h5;rw[show OL P vs' (L.take i)=(OL P vs' L).take i by unfold OL;rw[List.map_take]];exact this
  have hO:St we Se (MS vs' (pS i rs++af i rs)++(mE++MS vs' rest)) (P9 (KV P vs' (gM (L.take i) [])) env0 env (xby l.toArray (zN l i))::(Γ++[Fj (OL P vs' L) D env])) w:=by
   refine St.weak (hT.perm ?_) fun S w h=>⟨hV S w (zz.right (Γ:=Γ) h).1,h⟩;have e1:(MS vs' (cW (cV D) rs)).Perm (MS vs' (pS i rs++af i rs)++MS vs' rest):=by
    unfold MS;rw[<-xaN,xak];exact p1.map _
   refine(xfe mE e1).trans ?_;rw[xak];exact xbZ _ List.perm_append_comm
  have hM:=hM vs' hS env (MS vs' rest) [Fj (OL P vs' L) D env] w hO;have hX: ∀(v:Value) (t:Tmp),(∀i',i'<m->rE D i i'=true->(zN l i').dst≠some t)->put env (zN l i).dst v t=env0 t:=fun v t ht=>by
   rw[U6 (ht i hR (cn D i))];exact hD t fun j hj hDj=>ht j hj (zbL hDj)
  have close: ∀(v:Value) (w':World) (vs2:Nat->Value),(∀p,p<I.lo->vs2 p=vs' p)->St we Se (MS vs2 (nU i rs)++(MS vs' (af i rs)++(mE++MS vs' rest))) (zbw P vs2 v x++(Γ++[Fj (OL P vs' L) D env])) w'->
   ∃vs3,(∀p,p<n0->vs3 p=vs p)/\St we Se (MS vs3 (cW (cV (rE D i)) rs)++mE) (Γ++[Fj (OL P vs3 L) (rE D i) (put env (zN l i).dst v)]) w':=by
   intro v w' vs2 h6 hs;have e3: ∃vs3:Nat->Value,vs3=fun p=>if I.lo<=p/\p<I.hi then vs2 p else vs' p:=⟨_,rfl⟩;obtain⟨vs3,e3⟩:=e3;have hP: ∀p,p<I.hi->vs3 p=vs2 p:=fun p hp=>by
    rw[e3];simp only;split
    ·rfl
    ·next hc=>exact(h6 p (by omega)).symm
   have hB: ∀p,¬(I.lo<=p/\p<I.hi)->vs3 p=vs' p:=fun p hp=>by
    rw[e3];exact ir hp
   refine⟨vs3,fun p hp=>(hB p (by omega)).trans (hS p hp),?_⟩;have hC: ∀r∈rs,cV D r=true->vs3 r.o=vs' r.o:=fun r hr hC=>hB r.o fun⟨g1,g2⟩=>by
    obtain⟨j,hj,hji⟩:=hp.n i I hI r hr g1 g2;unfold cV at hC;rw[hj,xam]at hC;rcases hji with rfl|hji
    ·have:=hC.1;simp only at this;rw[hE]at this;cases this
    ·exact hU j hC.1 hji
   have m1:MS vs3 (nU i rs)=MS vs2 (nU i rs):=xX fun e he=>hP e.1 (o4 e he);have m2:MS vs3 (af i rs)=MS vs' (af i rs):=xX fun e he=>by
    obtain⟨r,hr,h7⟩:=xeX.1 he;split at h7
    ·next hi=>
     cases h7;rcases hW r hr with⟨a1,a2,_⟩|⟨a1,a2,a3,_⟩|⟨a1,a2,a3,a4,_⟩|⟨a1,a2,a3,_⟩
     ·exact absurd hi a2
     ·exact absurd hi a3
     ·exact hC r hr a4
     ·exact absurd hi a3
    ·cases h7
   have m3:MS vs3 rest=MS vs' rest:=xX fun e he=>by
    obtain⟨r,hr,rfl,h1,_⟩:=h4 e he;exact hC r hr h1
   have hpm:(MS vs3 (cW (cV (rE D i)) rs)++mE).Perm (MS vs2 (nU i rs)++(MS vs' (af i rs)++(mE++MS vs' rest))):=by
    rw[<-m1,<-m2,<-m3];have e1:(MS vs3 (cW (cV (rE D i)) rs)).Perm (MS vs3 (nU i rs)++(MS vs3 (af i rs)++MS vs3 rest)):=by
     unfold MS;rw[<-xaN,<-xaN];exact p2.map _
    refine(xfe mE e1).trans ?_;rw[xak,xak];exact xbZ _ (xbZ _ List.perm_append_comm)
   refine St.weak (hs.perm hpm.symm) fun S w2 h=> ?_;have hΓ:=zz.right h;refine zz.append (zz.left hΓ) ⟨?_,trivial⟩;have h5:=(zz.right hΓ).1;intro j y t hj hy ht;rw[OL,xaA]at hy
   cases hz:L[j]? with
   |none=>rw[hz]at hy;cases hy
   |some z=>
    rw[hz]at hy;cases hy;obtain⟨hjm,hzo⟩:=hH j z hz;by_cases hji:j=i
    ·subst hji;rw[hxi]at hz;cases hz;have ht':(zN l j).dst=some t:=ht;show(prL P vs3 x).p S (put env (zN l j).dst v t) w2;rw[ht',om];intro e he;have:=qM.1 (zz.left h) _ (xal.2 ⟨e,he,rfl⟩);have h8:xF P vs3 e.2 v e.1=xF P vs2 e.2 v e.1:=by
      unfold xF;simp only[bn (P:=P) (vs':=vs3) (vs:=vs2) (d:=e.2) fun o ho=>hP o (o3 e he o ho).1]
     rw[h8];exact this
    ·rw[GP hji]at hj;have hne:(zN l i).dst≠some t:=hp.uniq j i t hjm hR hji (hzo▸ht);show(prL P vs3 z.2).p S (put env (zN l i).dst v t) w2;rw[U6 hne];intro e he;have:=h5 j (z.1,prL P vs' z.2) t hj (by rw[OL,xaA,hz];rfl) ht;have:=this e he;obtain⟨J,hJ⟩: ∃J,is[j]? =some J:=⟨_,IR (by omega)⟩;obtain⟨_,_,q3,_,_⟩:=n5 L is 0 [] j _ J hF hz hJ;have h8:xF P vs3 e.2 (env t) e.1=xF P vs' e.2 (env t) e.1:=by
      unfold xF;simp only[bn (P:=P) (vs':=vs3) (vs:=vs') (d:=e.2) fun o ho=>hB o fun⟨g1,g2⟩=>by
       rcases hp.f i I j J hI hJ o (q3 e he o ho).2 g1 g2 with h|h
       ·exact hji h
       ·exact hU j hj h]
     rw[h8];exact this
  refine⟨fun hw=>(hM.1 hw).mono fun v w' ⟨vs2,h6,hs⟩=>⟨hX v,close v w' vs2 h6 hs⟩,fun hw=>⟨hX undef,?_⟩⟩;obtain⟨g1,g2,g3⟩:=hM.2 hw;refine close undef w vs' (fun _ _=>rfl) ?_;rw[g1,xbE]at hO;rw[g2];refine St.weak (show St we Se (MS vs' []++(MS vs' (af i rs)++(mE++MS vs' rest))) _ w from hO) fun S w h=>zz.append (g3 S w) h.2
 ·rintro D env w hQ hlow ⟨hD,vs',hS,hT⟩;refine fin env w vs' hS ?_;have hav:cW (cV D) rs=cW (fun r=>r.c.isNone) rs:=by
   refine th fun r hr=> ?_;have:cV D r=r.c.isNone:=by
    unfold cV;have e1:(match r.a with|none=>true|some j=>D j)=true:=by
     cases ha:r.a with
     |none=>rfl
     |some j=>exact hQ j (hp.a r hr j ha).1
    rw[e1]
    cases hg:r.c with
    |none=>rfl
    |some k=>simp only[hQ k (hp.c r hr k hg).1];rfl
   exact this
  rw[hav]at hT;refine hT.weak fun S w h=>⟨?_,zz.left h⟩;refine VY ts fun t _=> ?_;have:=Mx (i:=m) (t:=t) (opre vs') (opre' vs') hD (zz.right (Γ:=Γ) h).1 (xac m) fun j hj _=>⟨fun _=>hj,fun _=>hQ j hj⟩;rw[OM];rwa[xaX (by unfold OL;rw[xaM];omega)]at this
end
end
section
section
variable{P:Program}{cf:Cf}{fr:Fr}{cx σ σ0:Sg}{vs vs':Nat->Value}{env env0:yM}{w:World}{R:Type}{r:R}
theorem J0: ∀{rg:List (Nat×Nat×Dv)} {e:Nat×Nat×Dv},e∈dd rg->e∈rg
 |a::r,e,h=>by
  rcases xad.1 h with rfl|h
  ·exact FS
  ·exact H1 _ (J0 (xbW.1 h).1)
theorem Cl: ∀{rg:List (Nat×Nat×Dv)} {e:Nat×Nat×Dv},e∈dd rg->aE rg e.1 e.2.1=some e.2.2
 |(t,i,d)::r,e,h=>by
  rcases xad.1 h with rfl|h
  ·unfold aE;simp
  ·obtain⟨h1,h2⟩:=xbW.1 h;unfold aE;simp only[xdm]at h2;rw[h2];exact Cl h1
theorem nN: ∀(ts:List Nat),Vw env (ts.map fun t=>(t,env t))
 |[]=>rfl
 |t::ts=>nC rfl (nN ts)
theorem BS{rest:yM}: ∀{ts:List Nat} {t:Nat},t∈ts->L (ts.map fun t=>(t,env t)) rest t=env t
 |s::ts,t,h=>by
  simp only[xbP,L];cases hb:xan t s
  ·simp only[cond_false];rcases xad.1 h with rfl|h
   ·simp at hb
   ·exact BS h
  ·rw[z8 hb];rfl
theorem Eg: ∀(l:List Oper) (al:List (Nat×Operand)) {σ:Sg},uH P fr cx σ env w->uH P fr cx (za3 cf cx l al σ) env w
 |[],_,_,h=>h
 |o::r,al,σ,h=>Eg r _ (pE _ h)
theorem LH{N:Nat}{l:List Oper}(h:(l.all fun o=>qd N o.dst)=true)(m:Nat):((l.drop m).all fun o=>qd N o.dst)=true:=by
 rw[xaP]at h⊢;exact fun o ho=>h o (xeD ho)
theorem aF: ∀(l:List Nat) {σ:Sg},Ui P fr cx σ vs env w->Ui P fr cx (mG σ l) vs env w
 |[],_,h=>h
 |o::r,_,h=>aF r (K3 h)
theorem FE: ∀(l:List Nat) (σ:Sg),(mG σ l).nx=σ.nx
 |[],_=>rfl
 |o::r,σ=>by
  show(mG (Dt σ o) r).nx=_;rw[FE r];unfold Dt;split<;>rfl
structure RX1(i:Nat)(r r':Rb):Prop where
 a:r'.a=r.a
 o:r'.o=r.o
 x:r'.x=r.x
 c1: ∀k,r.c=some k->r'.c=some k
 c2:r.c=none-> ∀k,r'.c=some k->i<=k
 d1: ∀j∈r.rd,j∈r'.rd
 d2: ∀j∈r'.rd,j∈r.rd\/i<=j
def RX(i:Nat):List Rb->List Rb->Prop
 |[],rs'=> ∀r∈rs',(∃j,r.a=some j/\i<=j)/\(∀k,r.c=some k->i<=k)/\ ∀j∈r.rd,i<=j
 |_::_,[]=>False
 |r::rs,r'::rs'=>RX1 i r r'/\RX i rs rs'
def iw(i:Nat)(rs:List Rb):Prop:= ∀r∈rs,(∀j,r.a=some j->j<i)/\(∀k,r.c=some k->k<i)/\ ∀j∈r.rd,j<i
theorem RX.refl(i:Nat): ∀rs:List Rb,RX i rs rs
 |[]=>fun r hr=>absurd hr Nm
 |r::rs=>⟨⟨rfl,rfl,rfl,fun _ h=>h,fun h k hk=>(by rw[h]at hk;cases hk),fun _ h=>h,fun _ h=> .inl h⟩,RX.refl i rs⟩
theorem Hv{i:Nat}{rs':List Rb}(h:RX (i+1) [] rs'):RX i [] rs'/\pS i rs'=[]/\nU i rs'=[]/\af i rs'=[]:=by
 refine⟨fun r hr=> ?_,?_,?_,?_⟩
 ·obtain⟨⟨j,h1,h2⟩,h3,h4⟩:=h r hr;exact⟨⟨j,h1,by omega⟩,fun k hk=>by have:=h3 k hk;omega,fun j hj=>by have:=h4 j hj;omega⟩
 ·refine xdR.2 fun r hr=>ir fun e=> ?_;have:=(h r hr).2.1 i e;omega
 ·refine xdR.2 fun r hr=>ir fun e=> ?_;obtain⟨j,h1,h2⟩:=(h r hr).1;rw[e]at h1;cases h1;omega
 ·refine xdR.2 fun r hr=>ir fun e=> ?_;have:=(h r hr).2.2 i e;omega
theorem RX1.step{i:Nat}{r r1 r':Rb}(h:RX1 (i+1) r1 r')(ha:r1.a=r.a)(ho:r1.o=r.o)(hx:r1.x=r.x)(hc: ∀k,r.c=some k->r1.c=some k)(hb:r.c=none-> ∀k,r1.c=some k->k=i)(hd: ∀j∈r.rd,j∈r1.rd)(he: ∀j∈r1.rd,j∈r.rd\/j=i):RX1 i r r':=
{
 a:=h.a.trans ha
 o:=h.o.trans ho
 x:=h.x.trans hx
 c1:=fun k hk=>h.c1 k (hc k hk)
 c2:=fun hn k hk=>by
  cases h1:r1.c with
  |none=>have:=h.c2 h1 k hk;omega
  |some q=>
   have:=h.c1 q h1;rw[hk]at this;cases this;have:=hb hn k h1;omega
 d1:=fun j hj=>h.d1 j (hd j hj)
 d2:=fun j hj=>by
  rcases h.d2 j hj with h1|h1
  ·rcases he j h1 with h2|h2
   ·exact .inl h2
   ·exact .inr (by omega)
  ·exact .inr (by omega)}
theorem Ma{i:Nat}: ∀{rs rs':List Rb},iw i rs->RX (i+1) rs rs'->RX i rs rs'/\pS i rs'=[]/\nU i rs'=[]/\af i rs'=[]
 |[],rs',_,h=>Hv h
 |r::rs,[],_,h=>h.elim
 |r::rs,r'::rs',ho,⟨h1,h2⟩=>by
  obtain⟨g1,g2,g3,g4⟩:=Ma (rs:=rs) (fun q hq=>ho q (H1 _ hq)) h2;obtain⟨q1,q2,q3⟩:=ho r (FS);have e1:r'.c≠some i:=fun e=>by
   cases hc:r.c with
   |none=>have:=h1.c2 hc i e;omega
   |some k=>have:=h1.c1 k hc;rw[e]at this;cases this;have:=q2 i hc;omega
  have e2:r'.a≠some i:=fun e=>by rw[h1.a]at e;have:=q1 i e;omega
  have e3:i∉r'.rd:=fun e=>by
   rcases h1.d2 i e with h|h
   ·have:=q3 i h;omega
   ·omega
  refine⟨⟨h1.step rfl rfl rfl (fun _ h=>h) (fun hn k hk=>(by rw[hn]at hk;cases hk)) (fun _ h=>h) (fun _ h=> .inl h),g1⟩,?_,?_,?_⟩
  ·unfold pS at g2⊢;rw[xaO,ir e1];exact g2
  ·unfold nU at g3⊢;rw[xaO,ir e2];exact g3
  ·unfold af at g4⊢;rw[xaO,ir e3];exact g4
theorem Sk{i:Nat}{os:List Nat}: ∀{rs rs':List Rb},iw i rs->RX (i+1) (H4 i os rs) rs'->RX i rs rs'/\pS i rs'=[]/\nU i rs'=[]/\ ∀e∈Uo os rs,e∈af i rs'
 |[],rs',_,h=>by
  obtain⟨g1,g2,g3,_⟩:=Hv h;exact⟨g1,g2,g3,fun e he=>absurd he Nm⟩
 |r::rs,[],_,h=>h.elim
 |r::rs,r'::rs',ho,⟨h1,h2⟩=>by
  obtain⟨g1,g2,g3,g4⟩:=Sk (rs:=rs) (fun q hq=>ho q (H1 _ hq)) h2;obtain⟨q1,q2,q3⟩:=ho r (FS);obtain⟨r1,ha⟩: ∃r1,r1=(match r.c,aN os r.o with|none,true=>(⟨r.a,none,i::r.rd,r.o,r.x⟩:Rb)|_,_=>r):=⟨_,rfl⟩;have h1:RX1 (i+1) r1 r':=by rw[ha];exact h1
  have k1:r1.a=r.a/\r1.o=r.o/\r1.x=r.x/\r1.c=r.c/\(∀j∈r.rd,j∈r1.rd)/\(∀j∈r1.rd,j∈r.rd\/j=i):=by
   rw[ha];split
   ·next hc _=>exact⟨rfl,rfl,rfl,hc.symm,fun j hj=>H1 _ hj,fun j hj=>(xad.1 hj).symm⟩
   ·exact⟨rfl,rfl,rfl,rfl,fun _ h=>h,fun _ h=> .inl h⟩
  obtain⟨ka,ko,kx,kc,kd,kd2⟩:=k1;have e1:r'.c≠some i:=fun e=>by
   cases hc:r.c with
   |none=>have:=h1.c2 (kc.trans hc) i e;omega
   |some k=>have:=h1.c1 k (kc.trans hc);rw[e]at this;cases this;have:=q2 i hc;omega
  have e2:r'.a≠some i:=fun e=>by rw[h1.a,ka]at e;have:=q1 i e;omega
  refine⟨⟨h1.step ka ko kx (fun k hk=>kc.trans hk) (fun hn k hk=>by rw[kc,hn]at hk;cases hk) kd kd2,g1⟩,?_,?_,?_⟩
  ·unfold pS at g2⊢;rw[xaO,ir e1];exact g2
  ·unfold nU at g3⊢;rw[xaO,ir e2];exact g3
  ·intro e he;unfold Uo at he;unfold af at g4⊢;rw[xaO];split at he
   ·next hc hh=>
    have hi:i∈r'.rd:=h1.d1 i (by rw[ha,hc,hh];exact FS);rw[iq hi];rcases xad.1 he with rfl|he
    ·rw[h1.o,h1.x,ko,kx];exact FS
    ·exact H1 _ (g4 e he)
   ·split
    ·exact g4 e he
    ·exact H1 _ (g4 e he)
theorem SF{i:Nat}: ∀{ob:List (Nat×Od)} {rs':List Rb},RX (i+1) (zbj i ob) rs'->RX i [] rs'/\pS i rs'=[]/\nU i rs'=ob/\af i rs'=[]
 |[],rs',h=>Hv h
 |e::ob,[],h=>h.elim
 |e::ob,r'::rs',⟨h1,h2⟩=>by
  obtain⟨g1,g2,g3,g4⟩:=SF (ob:=ob) h2;have e1:r'.c≠some i:=fun e=>by have:=h1.c2 rfl i e;omega
  have e2:r'.a=some i:=h1.a;have e3:i∉r'.rd:=fun e=>by
   rcases h1.d2 i e with h|h
   ·cases h
   ·omega
  refine⟨fun r hr=> ?_,?_,?_,?_⟩
  ·rcases xad.1 hr with rfl|hr
   ·exact⟨⟨i,e2,xac _⟩,fun k hk=>by have:=h1.c2 rfl k hk;omega,fun j hj=>by
     rcases h1.d2 j hj with h|h
     ·cases h
     ·omega⟩
   ·exact g1 r hr
  ·unfold pS at g2⊢;rw[xaO,ir e1];exact g2
  ·unfold nU at g3⊢;rw[xaO,iq e2,g3,h1.o,h1.x]
  ·unfold af at g4⊢;rw[xaO,ir e3];exact g4
theorem zab{i:Nat}{os:List Nat}{ob:List (Nat×Od)}: ∀{rs rs':List Rb},iw i rs->RX (i+1) (IW i os rs++zbj i ob) rs'->RX i rs rs'/\pS i rs'=Uo os rs/\nU i rs'=ob/\af i rs'=[]
 |[],rs',_,h=>SF h
 |r::rs,[],_,h=>h.elim
 |r::rs,r'::rs',ho,⟨h1,h2⟩=>by
  obtain⟨g1,g2,g3,g4⟩:=zab (rs:=rs) (fun q hq=>ho q (H1 _ hq)) h2;obtain⟨q1,q2,q3⟩:=ho r (FS);obtain⟨r1,ha⟩: ∃r1,r1=(match r.c,aN os r.o with|none,true=>(⟨r.a,some i,r.rd,r.o,r.x⟩:Rb)|_,_=>r):=⟨_,rfl⟩;have h1:RX1 (i+1) r1 r':=by rw[ha];exact h1
  have k1:r1.a=r.a/\r1.o=r.o/\r1.x=r.x/\r1.rd=r.rd/\(∀k,r.c=some k->r1.c=some k)/\(r.c=none-> ∀k,r1.c=some k->k=i):=by
   rw[ha];split
   ·next hc _=>exact⟨rfl,rfl,rfl,rfl,fun k hk=>(by rw[hc]at hk;cases hk),fun _ k hk=>(by cases hk;rfl)⟩
   ·exact⟨rfl,rfl,rfl,rfl,fun _ h=>h,fun hn k hk=>(by rw[hn]at hk;cases hk)⟩
  obtain⟨ka,ko,kx,kd,kc,kc2⟩:=k1;have e2:r'.a≠some i:=fun e=>by rw[h1.a,ka]at e;have:=q1 i e;omega
  have e3:i∉r'.rd:=fun e=>by
   rcases h1.d2 i e with h|h
   ·rw[kd]at h;have:=q3 i h;omega
   ·omega
  refine⟨⟨h1.step ka ko kx kc kc2 (fun j hj=>by rw[kd];exact hj) (fun j hj=>by rw[kd]at hj;exact .inl hj),g1⟩,?_,?_,?_⟩
  ·have no:r1=r->r'.c≠some i:=fun hb e=>by
    rw[hb]at h1
    cases hc:r.c with
    |none=>have:=h1.c2 hc i e;omega
    |some k=>have:=h1.c1 k hc;rw[e]at this;cases this;have:=q2 i hc;omega
   have hv:Uo os (r::rs)=(match r.c,aN os r.o with|none,true=>(r.o,r.x)::Uo os rs|_,_=>Uo os rs):=rfl;have hd:pS i (r'::rs')=if r'.c=some i then(r'.o,r'.x)::pS i rs' else pS i rs':=by
    unfold pS;rw[xaO];split<;>next h=>split at h<;>simp_all
   rw[hd,hv,g2]
   cases hc:r.c with
   |some k=>
    rw[ir (no (by rw[ha,hc]))]
   |none=>
    cases hh:aN os r.o with
    |false=>rw[ir (no (by rw[ha,hc,hh]))]
    |true=>
     have:r'.c=some i:=h1.c1 i (by rw[ha,hc,hh]);rw[iq this,h1.o,h1.x,ko,kx]
  ·unfold nU at g3⊢;rw[xaO,ir e2];exact g3
  ·unfold af at g4⊢;rw[xaO,ir e3];exact g4
theorem OB{i:Nat}: ∀{ob:List (Nat×Od)} {rs':List Rb},RX i (zgO ob) rs'->cW (fun r=>r.a.isNone) rs'=ob
 |[],rs',h=>xdR.2 fun r hr=>by
  obtain⟨⟨j,h1,_⟩,_⟩:=h r hr;simp[h1]
 |e::ob,[],h=>h.elim
 |e::ob,r'::rs',⟨h1,h2⟩=>by
  have ih:=OB (ob:=ob) h2;unfold cW at ih⊢;have:r'.a=none:=h1.a;simp only[xaO,this,xeW,if_true];rw[ih,h1.o,h1.x]
theorem za5{i:Nat}{os:List Nat}{rs:List Rb}(h:iw i rs):iw (i+1) (H4 i os rs):=by
 induction rs with
 |nil=>exact fun r hr=>absurd hr Nm
 |cons r rs ih=>
  intro q hq;unfold H4 at hq;rcases xad.1 hq with rfl|hq
  ·obtain⟨q1,q2,q3⟩:=h r (FS);split
   ·exact⟨fun j hj=>(by have:=q1 j hj;omega),fun k hk=>(by cases hk),fun j hj=>by
     rcases xad.1 hj with rfl|hj
     ·omega
     ·have:=q3 j hj;omega⟩
   ·exact⟨fun j hj=>by have:=q1 j hj;omega,fun k hk=>by have:=q2 k hk;omega,fun j hj=>by have:=q3 j hj;omega⟩
  ·exact ih (fun q hq=>h q (H1 _ hq)) q hq
theorem zbS{i:Nat}{os:List Nat}{rs:List Rb}(h:iw i rs):iw (i+1) (IW i os rs):=by
 induction rs with
 |nil=>exact fun r hr=>absurd hr Nm
 |cons r rs ih=>
  intro q hq;unfold IW at hq;rcases xad.1 hq with rfl|hq
  ·obtain⟨q1,q2,q3⟩:=h r (FS);split
   ·exact⟨fun j hj=>by have:=q1 j hj;omega,fun k hk=>by cases hk;omega,fun j hj=>by have:=q3 j hj;omega⟩
   ·exact⟨fun j hj=>by have:=q1 j hj;omega,fun k hk=>by have:=q2 k hk;omega,fun j hj=>by have:=q3 j hj;omega⟩
  ·exact ih (fun q hq=>h q (H1 _ hq)) q hq
theorem zb5{i:Nat}{ob:List (Nat×Od)}{rs:List Rb}(h:iw (i+1) rs):iw (i+1) (rs++zbj i ob):=fun q hq=>by
 rcases xaa.1 hq with hq|hq
 ·exact h q hq
 ·obtain⟨e,_,rfl⟩:=xal.1 hq;exact⟨fun j hj=>by cases hj;omega,fun k hk=>(by cases hk),fun j hj=>absurd hj Nm⟩
theorem zdV{i:Nat}{rs:List Rb}(h:iw i rs):iw (i+1) rs:=fun r hr=>by
 obtain⟨q1,q2,q3⟩:=h r hr;exact⟨fun j hj=>by have:=q1 j hj;omega,fun k hk=>by have:=q2 k hk;omega,fun j hj=>by have:=q3 j hj;omega⟩
theorem zgB{i n:Nat}{os:List Nat}{rs:List Rb}(h: ∀r∈rs,r.o<n): ∀r∈H4 i os rs,r.o<n:=by
 induction rs with
 |nil=>exact fun r hr=>absurd hr Nm
 |cons r rs ih=>
  intro q hq;unfold H4 at hq;rcases xad.1 hq with rfl|hq
  ·have:=h r (FS);split<;>exact this
  ·exact ih (fun q hq=>h q (H1 _ hq)) q hq
theorem zgQ{i n:Nat}{os:List Nat}{rs:List Rb}(h: ∀r∈rs,r.o<n): ∀r∈IW i os rs,r.o<n:=by
 induction rs with
 |nil=>exact fun r hr=>absurd hr Nm
 |cons r rs ih=>
  intro q hq;unfold IW at hq;rcases xad.1 hq with rfl|hq
  ·have:=h r (FS);split<;>exact this
  ·exact ih (fun q hq=>h q (H1 _ hq)) q hq
theorem Pk{n:Nat}{os:List Nat}: ∀{rs:List Rb},(∀r∈rs,r.o<n)-> ∀e∈Uo os rs,e.1<n
 |[],_,e,he=>absurd he Nm
 |r::rs,h,e,he=>by
  have ih:=Pk (os:=os) (rs:=rs) fun q hq=>h q (H1 _ hq);unfold Uo at he;split at he
  ·rcases xad.1 he with rfl|he
   ·exact h r (FS)
   ·exact ih e he
  ·exact ih e he
theorem L8: ∀(rs:List Rb),DE rs=cW (fun r=>r.c.isNone) rs
 |[]=>rfl
 |r::rs=>by
  have ih:=L8 rs;unfold cW at ih⊢;unfold DE
  cases hc:r.c with
  |none=>simp only[xaO,hc,xeW,if_true];rw[ih]
  |some k=>simp only[xaO,hc,Option.isNone_some,xah,if_false];exact ih
theorem Jh{ts:List Tmp}: ∀{rg:List (Nat×Nat×Dv)} {e:Nat×Nat×Dv},e∈QX ts rg->e∈rg/\aN ts e.1=true
 |(t,i,v)::r,e,h=>by
  unfold QX at h;split at h
  ·next hh=>
   rcases xad.1 h with rfl|h
   ·exact⟨FS,hh⟩
   ·obtain⟨h1,h2⟩:=Jh h;exact⟨H1 _ h1,h2⟩
  ·obtain⟨h1,h2⟩:=Jh h;exact⟨H1 _ h1,h2⟩
theorem aJ{ts:List Tmp}{t i:Nat}(ht:aN ts t=true): ∀{rg:List (Nat×Nat×Dv)},aE (QX ts rg) t i=aE rg t i
 |[]=>rfl
 |(t',i',v)::r=>by
  unfold QX;split
  ·unfold aE;rw[aJ ht]
  ·next hh=>
   rw[aJ ht];conv=>rhs;unfold aE
   rw[uk (fun e=>by rw[e,ht]at hh;cases hh)];rfl
theorem Mr{t i:Nat}: ∀{a b:List (Nat×Nat×Dv)},aE (a++b) t i=match aE a t i with|some d=>some d|none=>aE b t i
 |[],b=>rfl
 |(t',i',v)::a,b=>by
  show(bif xan t' t && xan i' i then some v else aE (a++b) t i)=(match(bif xan t' t && xan i' i then some v else aE a t i)with|some d=>some d|none=>aE b t i);cases hb:xan t' t && xan i' i
  ·simp only[cond_false];exact Mr
  ·simp only[cond_true]
theorem zbv{l:List Nat}{t:Nat}(h:aN l t=true):t∈l:=by
 unfold aN at h;rw[xeG]at h;obtain⟨s,hs,hb⟩:=h;rw[z8 hb];exact hs
theorem fH: ∀{l:List (Nat×Dv)} {e:Nat×Dv} {p:Nat},e∈l->xZ e.2=some p->p∈dn l
 |(i,v)::r,e,p,h,hp=>by
  unfold dn;rcases xad.1 h with rfl|h
  ·have hp:xZ v=some p:=hp;rw[hp];exact FS
  ·have:=fH h hp;split
   ·exact H1 _ this
   ·exact this
theorem RH{d:Option Tmp}{rg:List (Nat×Nat×Dv)}{e:Nat×Dv}(h:e∈ib d rg): ∃t,d=some t/\(t,e.1,e.2)∈rg:=by
 unfold ib at h;split at h
 ·next t=>
  obtain⟨q,hq,he⟩:=xeX.1 h;split at he
  ·next hb=>
   cases he;rw[<-z8 hb];exact⟨_,rfl,hq⟩
  ·cases he
 ·cases h
def Iw(P:Program)(vs:Nat->Value)(n0:Nat)(Γ:List FF)(env0:yM)(cx σ:Sg)(KL:List (Tmp×List (Nat×Dv))):Prop:= ∀vs',(∀p,p<n0->vs' p=vs p)->Iu P vs' Γ env0 cx σ (KV P vs' KL)
def Me(cx:Sg)(KL:List (Tmp×List (Nat×Dv))):Prop:= ∀e∈KL,ZF cx.rg e.1=true
theorem fc{KL:List (Tmp×List (Nat×Dv))}{l:List (Nat×Dv)}{d:Option Tmp}(hd:wi cx d=true)(h:Me cx KL):Me cx (AB d l KL):=by
 cases d with
 |none=>exact h
 |some s=>
  intro e he;rcases xad.1 he with rfl|he
  ·exact hd
  ·exact h e he
theorem n6{n0:Nat}{Γ:List FF}{KL:List (Tmp×List (Nat×Dv))}{l:List (Nat×Dv)}{o:Oper}(hd:wi cx o.dst=true)(h:Iw P vs n0 Γ env0 cx σ KL):Iw P vs n0 Γ env0 cx (σ.put o.dst l) (AB o.dst l KL):=fun vs' hv=>by
 rw[Ra];exact nL hd (h vs' hv) fun S v w hv=>hv
theorem CU(hT:zS P cf.tt)(hL:jy P cf.tt)(hC: ∀s∈cf.cs,y5 P s)(hX:pX P cf){all:List Oper}{fz:List Nat}{k:Sg->List Rb->List Oi->Option R}{Γ:List FF}{n0:Nat}(hu: ∀e∈cx.ob,e.1<n0): ∀{os:List Oper} {i:Nat} {σ:Sg} {rs:List Rb} {is:List Oi} {KL:List (Tmp×List (Nat×Dv))},
 N2 cf cx all fz os i σ rs is k=some r->Iw P vs n0 Γ env0 cx σ KL->Me cx KL->σ.ob=[]->Bd cx σ->(∀r∈rs,r.o<σ.nx)->iw i rs->n0<=σ.nx->
 ∃(Ls:List (List (Nat×Dv))) (is':List Oi) (σ':Sg) (rs':List Rb),Ls.length=os.length/\is'.length=os.length/\k σ' rs' (is++is')=some r/\RX i rs rs'/\
  zb1 P all.toArray fr.we fr.Se (MS vs cx.ob++fr.F) Γ env0 vs n0 rs' ((os.zip Ls).zip is') i KL/\Iw P vs n0 Γ env0 cx σ' (gM (os.zip Ls) KL)/\Me cx (gM (os.zip Ls) KL)/\σ'.ob=[]/\Bd cx σ'/\(∀r∈rs',r.o<σ'.nx)/\n0<=σ'.nx
 |[],i,σ,rs,is,KL,h,hi,hn,ho,hB,hr,hO,h0=>⟨[],[],σ,rs,rfl,rfl,by rw[xbK];exact h,RX.refl _ _,trivial,hi,hn,ho,hB,hr,h0⟩
 |o::os,i,σ,rs,is,KL,h,hi,hn,ho,hB,hr,hO,h0=>by
  unfold N2 at h;obtain⟨hd,h⟩:=yh h;obtain⟨σ1,b,h,hN,hD,hP,hH,hQ⟩:=Gf h hB;have hc: ∀{vs' env S w},(∀p,p<n0->vs' p=vs p)->zz S Γ w->Xw (KV P vs' KL) env0 env S w (xby all.toArray o)-> ∀t∈xby all.toArray o,Lk P vs' env S w cx σ t:=fun{vs' env S w} hv hΓ hh t ht=>hi vs' hv env S w hΓ t (ZZ hh t ht);cases b
  ·have h':Iw P vs n0 Γ env0 cx (σ1.put o.dst [(0,.un)]) (AB o.dst [(0,.un)] KL):=n6 hd fun vs' hv env S w hΓ t ht=>hH P vs' env S w t (hi vs' hv env S w hΓ t ht);obtain⟨Ls,is',σ',rs',h1,h2,h3,h4,h5,h6,h7,h8,h9,hy,hz⟩:=CU hT hL hC hX hu (os:=os) h h' (fc hd hn) (hN.trans ho) (eY hP fun e he p hp=>by obtain rfl:=xai.1 he;cases hp) (fun r hs=>by show r.o<σ1.nx;rw[hD];exact hr r hs) (zdV hO) (by show n0<=σ1.nx;rw[hD];exact h0);obtain⟨g1,g2,g3,g4⟩:=Ma hO h4;refine⟨[(0,.un)]::Ls,⟨σ1.nx,σ1.nx,[]⟩::is',σ',rs',by simp[h1],by simp[h2],by rw[<-h3];simp,g1,⟨⟨(by show n0<=σ1.nx;rw[hD];exact h0),xac _,fun e he p hp=>(by obtain rfl:=xai.1 he;cases hp),fun e he=>(by rw[g3]at he;cases he),fun vs' hv env F G w hb=>⟨fun hw=> ?_,fun _=>⟨g2,g3,fun S w=>⟨rfl,trivial⟩⟩⟩⟩,h5⟩,h6,h7,h8,h9,hy,hz⟩;exfalso;obtain⟨S,_,hΓ⟩:=hb.ex;have:=hQ P vs' env S w fun t ht=>hc hv (zz.left hΓ.2) hΓ.1 t ht;rw[hw]at this;cases this
  ·obtain⟨σ2,h,ho2,hx2,hg,hR⟩:=Ll h hP;have hI: ∀vs' env S w t,Lk P vs' env S w cx σ t->Lk P vs' env S w cx σ2 t:=fun vs' env S w t ht=>hR P vs' env S w t (hH P vs' env S w t ht);have hS:Iw P vs n0 Γ env0 cx σ2 KL:=fun vs' hv env S w hΓ t ht=>hI vs' env S w t (hi vs' hv env S w hΓ t ht);have hj:σ2.nx=σ.nx:=hx2.trans hD;have hJ: ∀{vs' env S w},(∀p,p<n0->vs' p=vs p)->zz S Γ w->Xw (KV P vs' KL) env0 env S w (xby all.toArray o)->yE all.toArray env o=true:=fun{vs' env S w} hv hΓ hh=>hQ P vs' env S w fun t ht=>hc hv hΓ hh t ht;generalize hA:xby all.toArray o=ts at h hc hJ;generalize hos:JL ts σ2.rg=osn at h;generalize hbz:fzB fz o.dst=bz at h;cases hM:zdB cf cx ⟨σ2.nx,σ2.rg,Uo osn rs⟩ bz o.dst o.op<;>rw[hM]at h
   ·simp only[HO]at h;obtain⟨l,h,hes⟩:=Pt (P:=P) (d:=o.dst) (ty:=o.type) (pos:=o.pos) (aft:=o.after) (g:=o.guard) (F:=[]) hT hL hC hX h;obtain⟨hl,h⟩:=yh h;obtain⟨Ls,is',σ',rs',h1,h2,h3,h4,h5,h6,h7,h8,h9,hy,hz⟩:=CU hT hL hC hX hu (os:=os) h (n6 hd hS) (fc hd hn) (ho2.trans (hN.trans ho)) (eY hg (tM hl)) (zgB fun r hs=>by show r.o<σ2.nx;rw[hj];exact hr r hs) (za5 hO) (by show n0<=σ2.nx;rw[hj];exact h0);obtain⟨g1,g2,g3,g4⟩:=Sk hO h4;refine⟨l::Ls,⟨σ2.nx,σ2.nx,dn l⟩::is',σ',rs',by simp[h1],by simp[h2],by rw[<-h3];simp,g1,⟨⟨(by show n0<=σ2.nx;rw[hj];exact h0),xac _,fun e he p hp=>⟨tM hl e he p hp,fH he hp⟩,fun e he=>(by rw[g3]at he;cases he),fun vs' hv env F G w hb=>⟨fun _=> ?_,fun hw=> ?_⟩⟩,h5⟩,h6,h7,h8,h9,hy,hz⟩
    ·rw[g2]at hb;rw[g3];obtain⟨k1,k2,k3,S,k4,k5,k6,k7,k8⟩:=hb;have hE:MS vs' cx.ob=MS vs cx.ob:=xX fun e he=>hv _ (hu e he);refine(hes env w S vs' k5 (kR.2 fun mf hmf=> ?_) fun t ht=> ?_).mono ?_
     ·rcases xaa.1 hmf with hmf|hmf
      ·obtain⟨e,he,rfl⟩:=xal.1 hmf;exact kR.1 k7 _ (xaa.2 (.inl (xal.2 ⟨e,g4 e he,rfl⟩)))
      ·rw[xbK]at hmf;have hmf:mf∈MS vs' cx.ob:=hmf;rw[hE]at hmf;exact kR.1 k7 _ (xaa.2 (.inr (xaa.2 (.inl (xaa.2 (.inl hmf))))))
     ·have hh:Xw (KV P vs' KL) env0 env S w (xby all.toArray o):=k8.1;exact hI vs' env S w t (hc hv (zz.left k8.2) (hA▸hh) t (hA▸xaa.2 (.inl ht)))
     ·rintro v w' ⟨hx,hf⟩;refine⟨vs',fun _ _=>rfl,k1.trans hx,k2,k3,S,k4,fun k hk=>k5 k (xao hx.size hk),k6,yv.keep hx.to (fun m hm i hi=>hx.block i (yv.lt k7 m hm i hi) trivial) k7,zz.append (qM.2 fun f hf'=> ?_) (zz.keep hx.to k8.2)⟩;obtain⟨e,he,rfl⟩:=xal.1 hf';exact hf e he
    ·exfalso;obtain⟨S,_,hΓ⟩:=hb.ex;have hh:Xw (KV P vs' KL) env0 env S w (xby all.toArray o):=hΓ.1;have:=hJ hv (zz.left hΓ.2) (hA▸hh);rw[hw]at this;cases this
   ·simp only[HO]at h;obtain⟨τ,h,hle,hm⟩:=zdj (P:=P) (cx:=⟨0,[],cx.ob⟩) (d:=o.dst) (ty:=o.type) (pos:=o.pos) (aft:=o.after) (g:=o.guard) hT hL hC hX (by cases o.dst<;>rfl) h;obtain⟨τ2,hτ⟩: ∃τ2,τ2=zhO bz o.dst τ:=⟨_,rfl⟩;simp only at h;rw[<-hτ]at h;have hU:τ2.nx=τ.nx:=by rw[hτ];cases bz<;>first|rfl|exact FE _ _
    have hK: ∀{frm:Fr} {vs2:Nat->Value} {env w},Ui P frm ⟨0,[],cx.ob⟩ τ vs2 env w->Ui P frm ⟨0,[],cx.ob⟩ τ2 vs2 env w:=fun{frm vs2 env w} hq=>by rw[hτ];cases bz<;>first|exact hq|exact aF _ hq
    unfold zdC at h;obtain⟨hl,h⟩:=yh h;rw[xam]at hl;obtain⟨hl,hF⟩:=hl;have hF: ∀e∈τ2.ob,e.1<τ2.nx:=fun e he=>by
     have:=xaP.1 hF e he;have:=xbH this;omega
    have ha:σ2.nx<=τ2.nx:=by rw[hU];exact hle
    have hi3:Iw P vs n0 Γ env0 cx ⟨τ2.nx,wZ σ2.rg o.dst (ib o.dst τ2.rg),[]⟩ (AB o.dst (ib o.dst τ2.rg) KL):=fun vs' hv=>n6 (l:=ib o.dst τ2.rg) hd hS vs' hv;have hB3:Bd cx ⟨τ2.nx,wZ σ2.rg o.dst (ib o.dst τ2.rg),[]⟩:=by
     refine⟨fun e he=>absurd he Nm,fun e he=>xap (hg.o2 e he) ha,fun e he p hp=> ?_,fun e he p hp=>xap (hg.r2 e he p hp) ha⟩;have he:e∈wZ σ2.rg o.dst (ib o.dst τ2.rg):=he;unfold wZ at he;split at he
     ·rcases xaa.1 he with he|he
      ·obtain⟨e',he',rfl⟩:=xal.1 he;exact tM hl e' he' p hp
      ·exact xap (hg.r1 e (xbW.1 he).1 p hp) ha
     ·exact xap (hg.r1 e he p hp) ha
    obtain⟨Ls,is',σ',rs',h1,h2,h3,h4,h5,h6,h7,h8,h9,hy,hz⟩:=CU hT hL hC hX hu (os:=os) h hi3 (fc hd hn) rfl hB3 (fun q hq=>by
     rcases xaa.1 hq with hq|hq
     ·exact xap (zgQ (n:=σ2.nx) (fun r hs=>by rw[hj];exact hr r hs) q hq) ha
     ·obtain⟨e,he,rfl⟩:=xal.1 hq;exact hF e he) (zb5 (zbS hO)) (xao (by rw[hj];exact h0) ha)
    obtain⟨g1,g2,g3,g4⟩:=zab hO h4;refine⟨ib o.dst τ2.rg::Ls,⟨σ2.nx,τ2.nx,dn (ib o.dst τ2.rg)⟩::is',σ',rs',by simp[h1],by simp[h2],by rw[<-h3];simp,g1,⟨⟨(by show n0<=σ2.nx;rw[hj];exact h0),ha,fun e he p hp=>⟨tM hl e he p hp,fH he hp⟩,fun e he=>hF e (by rw[g3]at he;exact he),fun vs' hv env F G w hb=>⟨fun _=> ?_,fun hw=> ?_⟩⟩,h5⟩,h6,h7,h8,h9,hy,hz⟩
    ·rw[g2,g4,xbK]at hb;rw[g3,g4];have hE: ∀{vs2:Nat->Value},(∀p,p<n0->vs2 p=vs p)->MS vs2 cx.ob=MS vs cx.ob:=fun hv=>xX fun e he=>hv _ (hu e he);have hV:Ui P ⟨fr.we,fr.Se,fr.F++F,Γ++G⟩ ⟨0,[],cx.ob⟩ ⟨σ2.nx,dd (QX ts (σ2.rg++cx.rg)),Uo osn rs⟩ vs' env w:=by
      refine⟨⟨fun e he=>Pk (fun r hs=>by rw[hj];exact hr r hs) e he,hg.o2,fun e he p hp=> ?_,fun e he=>absurd he Nm⟩,?_⟩
      ·have:=(Jh (J0 he)).1;rcases xaa.1 this with h|h
       ·exact hg.r1 e h p hp
       ·exact hg.r2 e h p hp
      ·show St fr.we fr.Se (MS vs' (Uo osn rs)++(MS vs' cx.ob++(fr.F++F))) (RS P vs' env (dd (QX ts (σ2.rg++cx.rg)))++([]++(Γ++G))) w;rw[hE hv,<-xak (MS vs cx.ob)];refine hb.weak fun S w hΓ=>zz.append (qM.2 fun f hf=> ?_) hΓ.2;obtain⟨e,he,rfl⟩:=xal.1 hf;have hh:Xw (KV P vs' KL) env0 env S w (xby all.toArray o):=hΓ.1;have hW:=(Jh (J0 he)).2;have hY:=Cl he;rw[aJ hW,Mr]at hY;exact hI vs' env S w e.1 (hc hv (zz.left hΓ.2) (hA▸hh) e.1 (zbv hW)) e.2.1 e.2.2 hY
     refine(hm _ vs' env w hV).mono ?_;rintro v w' ⟨vs2,hZ,hrv⟩;obtain⟨_,hG⟩:=hK hrv;refine⟨vs2,hZ,?_⟩;have hG:St fr.we fr.Se (MS vs2 τ2.ob++(MS vs2 cx.ob++(fr.F++F))) (RS P vs2 (put env o.dst v) τ2.rg++([]++(Γ++G))) w':=hG;rw[hE (vs2:=vs2) (fun p hp=>(hZ p (xap hp (by show n0<=σ2.nx;rw[hj];exact h0))).trans (hv p hp)),<-xak (MS vs cx.ob)]at hG;refine St.weak (show St fr.we fr.Se (MS vs2 τ2.ob++(MS vs' []++(MS vs cx.ob++fr.F++F))) _ w' from hG) fun S w hΓ=>zz.append (qM.2 fun f hf=> ?_) (zz.right hΓ);obtain⟨e,he,rfl⟩:=xal.1 hf;obtain⟨t,ht,hm'⟩:=RH he;have:=QF (zz.left hΓ) hm';rw[ht,om]at this;exact this
    ·exfalso;obtain⟨S,_,hΓ⟩:=hb.ex;have hh:Xw (KV P vs' KL) env0 env S w (xby all.toArray o):=hΓ.1;have:=hJ hv (zz.left hΓ.2) (hA▸hh);rw[hw]at this;cases this
theorem zem(hm:P.follows .mixedOrders=true)(hT:zS P cf.tt)(hL:jy P cf.tt)(hC: ∀s∈cf.cs,y5 P s)(hX:pX P cf){N:Nd}{id m:Nat}{l:List Oper}{Q:Qs}{k:Sg->Option R}
 (hK: ∀σ',k σ'=some r-> ∀env' w,cq cx env env'->uH P fr cx σ' env' w->Q .normal env' w) (hN:(l.all fun o=>qd N.n o.dst)=true) (hc:Yx l m=true) (h:zeH cf cx id l m σ k=some r) (hR:uH P fr cx σ env w):Wp P N (.region id l.toArray true) Q env w:=by
 unfold zeH at h;simp only at h;obtain⟨hA,vs,hs⟩:=hR;obtain⟨ha,hu⟩:=aF (JL (zfr cf id) σ.rg) ⟨hA,hs⟩;generalize mG σ (JL (zfr cf id) σ.rg)=σ0 at h ha hu;have hM:m<=l.length:=(jD hc).1
 obtain⟨Ls,is,σ',rs,h1,h2,h3,h4,h5,hw,hy,hO,hp,hB,hP⟩:=CU (P:=P) (fr:=fr) (vs:=vs) (env0:=env) (Γ:=GS P vs env fr cx σ0) (n0:=σ0.nx) (KL:=[]) hT hL hC hX ha.o2 h
  (fun vs' hv env' S w' hΓ t ht i dv hd=>by
   have ht:env' t=env t:=ht;rw[ht];have hg:get cx σ0 t i=some dv:=hd;have:=ZE hΓ t i dv hg;have hD:xF P vs' dv (env t) i=xF P vs dv (env t) i:=by
    unfold xF;simp only[bn (P:=P) (vs':=vs') (vs:=vs) (d:=dv) fun o ho=>hv o (by
     rcases Bn hg with hm|hm
     ·exact ha.r1 _ hm o ho
     ·exact ha.r2 _ hm o ho)]
   rw[hD];exact this) (fun _ he=>absurd he Nm) rfl ⟨fun _ he=>absurd he Nm,ha.o2,ha.r1,ha.r2⟩ (fun q hq=>by
    obtain⟨e,he,rfl⟩:=xal.1 hq;exact ha.o1 e he) (fun q hq=>by
    obtain⟨e,he,rfl⟩:=xal.1 hq;exact⟨fun j hj=>(by cases hj),fun j hj=>(by cases hj),fun j hj=>absurd hj Nm⟩) (xac _)
 simp only[xbE]at h3;obtain⟨hx,h3⟩:=yh h3;have hE:=OB h4;refine zfJ (we:=fr.we) (Se:=fr.Se) (ms:=OS vs fr cx σ0.ob) (mE:=MS vs cx.ob++fr.F) m Ls is rs (σ'.rg.map (·.1)++cx.rg.map (·.1)) vs σ0.nx hm hc (by rw[h1,xay];omega) (by rw[h2,xay];omega) hx (by rw[hE]) hN h5 ?_ w hu;intro env1 w1 vs' hr hl;have hn:DE rs=cW (fun r=>r.c.isNone) rs:=L8 rs;have hz: ∀e∈DE rs,e.1<σ'.nx:=fun e he=>by
  rw[hn]at he;obtain⟨q,hq,he⟩:=xeX.1 he;split at he
  ·cases he;exact hB q hq
  ·cases he
 obtain⟨S1,_,hF⟩:=hl.ex;have hG:cq cx env env1:=fun e0 hi=>by
  have h1:=ZZ hF.1 e0.1 (xaa.2 (.inr (xal.2 ⟨e0,hi,rfl⟩)));unfold uz at h1;have hf:(KV P vs' (gM ((l.take m).zip Ls) [])).find? (fun x=>xan x.1 e0.1)=none:=by
   rw[List.find?_eq_none];intro e he hb;obtain⟨e1,hH,rfl⟩:=xal.1 he;have:=hy e1 hH;simp only[ZF,xaP]at this;have:=this e0 hi;rw[z8 hb]at this;simp at this
  rw[hf]at h1;exact h1
 refine pJ (P:=P) (fr:=fr) hT hL hC hX hK hG (LH hN m) h3 ⟨⟨hz,hp.o2,fun e he=>hp.r1 e (J0 he),hp.r2⟩,vs',?_⟩;show St fr.we fr.Se (MS vs' (DE rs)++(MS vs' cx.ob++fr.F)) (RS P vs' env1 (dd σ'.rg)++(RS P vs' env1 cx.rg++fr.G)) w1;rw[hn,xX (ob:=cx.ob) fun e he=>hr _ (ha.o2 e he)];refine hl.weak fun S w2 hΓ=> ?_;have hk:=ZZ hΓ.1;have hI: ∀t∈cx.rg.map (·.1),env1 t=env t:=fun t ht=>by
  have h1:=hk t (xaa.2 (.inr ht));unfold uz at h1;have hf:(KV P vs' (gM ((l.take m).zip Ls) [])).find? (fun x=>xan x.1 t)=none:=by
   rw[List.find?_eq_none];intro e he hb;obtain⟨e0,hi,rfl⟩:=xal.1 he;have:=hy e0 hi;obtain⟨e',hJ,rfl⟩:=xal.1 ht;simp only[ZF,xaP]at this;have:=this e' hJ;rw[z8 hb]at this;simp at this
  rw[hf]at h1;exact h1
 refine zz.append ?_ (zz.append ?_ (zz.right (zz.right hΓ.2)))
 ·refine qM.2 fun f hf=> ?_;obtain⟨e,he,rfl⟩:=xal.1 hf;have hg:get cx σ' e.1 e.2.1=some e.2.2:=by unfold get;rw[Cl he]
  exact hw vs' hr env1 S w2 hΓ.2 e.1 (hk e.1 (xaa.2 (.inl (xal.2 ⟨e,J0 he,rfl⟩)))) _ _ hg
 ·rw[qo (vs:=vs) (env:=env) (fun e he o ho=>hr o (ha.r2 e he o ho)) fun e he=>hI e.1 (xal.2 ⟨e,he,rfl⟩)];exact zz.left (zz.right hΓ.2)
theorem PS(hm:P.follows .mixedOrders=true)(hT:zS P cf.tt)(hL:jy P cf.tt)(hC: ∀s∈cf.cs,y5 P s)(hX:pX P cf){N:Nd}{id:Nat}{l:List Oper}{draw:Bool}{Q:Qs}{k:Sg->Option R}
 (hK: ∀σ',k σ'=some r-> ∀env' w,cq cx env env'->uH P fr cx σ' env' w->Q .normal env' w) (hN:(l.all fun o=>qd N.n o.dst)=true) (h:zfI cf cx id l draw σ k=some r) (hR:uH P fr cx σ env w):Wp P N (.region id l.toArray draw) Q env w:=by
 unfold zfI at h;cases draw
 ·exact fun a h1 h2 h3=>wpIn_region_lit (pJ hT hL hC hX hK cq.refl hN h hR a h1 h2 h3)
 ·simp only[HO]at h;obtain⟨hc,h⟩:=yh h;generalize Hp l l.length l.length=m at hc h;cases hw:zgk cf id<;>rw[hw]at h
  case true=>exact zem hm hT hL hC hX hK hN hc h hR
  simp only at h;have hi:=Eg (cf:=cf) (l.take m) [] hR;generalize za3 cf cx (l.take m) [] σ=σ0 at h hi;obtain⟨hB,vs,hr⟩:=hi;have hy:m<=l.length:=(jD hc).1
  obtain⟨Φs,σ',hl,hj,h,hn,hs,hu,ha⟩:=GJ (P:=P) (fr:=fr) (vs:=vs) (env0:=env) (σ0:=σ0) (Γ:=GS P vs env fr cx σ0) (K:=[]) hT hL hC hX h
   (fun env' S w' hΓ t ht i dv hd=>by
    have ht:env' t=env t:=ht;rw[ht];exact ZE hΓ t i dv hd) (fun _ he=>absurd he Nm) rfl hB
  refine GZ (we:=fr.we) (Se:=fr.Se) (ms:=OS vs fr cx σ0.ob) (Γ:=GS P vs env fr cx σ0) m Φs (σ'.rg.map (·.1)++cx.rg.map (·.1)) hm hc (by rw[hl,xay];omega) hN hj ?_ w hr;intro S w1 env1 hS hΓ hh;have hk:=ZZ hh;have ho: ∀t∈cx.rg.map (·.1),env1 t=env t:=fun t ht=>by
   have h1:=hk t (xaa.2 (.inr ht));unfold uz at h1;have hf:(Ee ((l.take m).zip Φs) []).find? (fun x=>xan x.1 t)=none:=by
    rw[List.find?_eq_none];intro e he hb;have:=hs e he;obtain⟨e',hv,rfl⟩:=xal.1 ht;simp only[ZF,xaP]at this;have:=this e' hv;rw[z8 hb]at this;simp at this
   rw[hf]at h1;exact h1
  have hd:zz S (RS P vs env1 (dd σ'.rg)) w1:=qM.2 fun f hf=>by
   obtain⟨e,he,rfl⟩:=xal.1 hf;have hg:get cx σ' e.1 e.2.1=some e.2.2:=by unfold get;rw[Cl he]
   exact hn env1 S w1 hΓ e.1 (hk e.1 (xaa.2 (.inl (xal.2 ⟨e,J0 he,rfl⟩)))) _ _ hg
  have hx:zz S (RS P vs env1 cx.rg) w1:=by
   rw[qo (env:=env) (fun _ _ _ _=>rfl) fun e he=>ho e.1 (xal.2 ⟨e,he,rfl⟩)];exact zz.left (zz.right hΓ)
  refine⟨GS P vs env1 fr cx ⟨σ'.nx,dd σ'.rg,σ'.ob⟩,(σ'.rg.map (·.1)++cx.rg.map (·.1)).map fun t=>(t,env1 t),zz.append hd (zz.append hx (zz.right (zz.right hΓ))),nN _,fun rest w2 hp=> ?_⟩;refine pJ (P:=P) (fr:=fr) hT hL hC hX hK (fun e0 hq=>(BS (xaa.2 (.inr (xal.2 ⟨e0,hq,rfl⟩)))).trans (ho e0.1 (xal.2 ⟨e0,hq,rfl⟩))) (LH hN m) h ⟨⟨ha.o1,ha.o2,fun e he=>ha.r1 e (J0 he),ha.r2⟩,vs,?_⟩;have e1:RS P vs (L ((σ'.rg.map (·.1)++cx.rg.map (·.1)).map fun t=>(t,env1 t)) rest) (dd σ'.rg)=RS P vs env1 (dd σ'.rg):=qo (fun _ _ _ _=>rfl) fun e he=>BS (xaa.2 (.inl (xal.2 ⟨e,J0 he,rfl⟩)));have e2:RS P vs (L ((σ'.rg.map (·.1)++cx.rg.map (·.1)).map fun t=>(t,env1 t)) rest) cx.rg=RS P vs env1 cx.rg:=qo (fun _ _ _ _=>rfl) fun e he=>BS (xaa.2 (.inr (xal.2 ⟨e,he,rfl⟩)));show St _ _ (OS vs fr cx σ'.ob) (RS P vs _ (dd σ'.rg)++(RS P vs _ cx.rg++fr.G)) w2;rw[e1,e2,hu];exact hp
end
end
section
section
variable{P:Program}{cf:Cf}{fr:Fr}{cx kp σ:Sg}{vs vs':Nat->Value}{env env0:yM}{w:World}{R:Type}{r:R}
def zby(u:Value)(r:Nat):Option Value:=(w4 u)[r]?
def tfF:(f:TF)->f.D->(Nat->Value)->Value->Value->FF
 | .d t,x,_,_,v=>fV t.rep x v
 | .q t,x,_,_,v=>fP t.rep x v
 | .own _ _,_,_,u,v=>n4 (v=u)
 | .var _ _,_,_,u,v=>n4 (v=u/\ ∃b,v= .pointer (some ⟨b,0,none⟩))
 | .mat _ _ _,_,_,u,v=>n4 (v=yY u)
 | .matv _ _ _,x,_,u,v=>n4 (Dc (yY u) x.2.1 x.2.2 v)
 | .row j,r,U,_,v=>n4 (zby (U j) r=some v)
 | .view j,r,U,_,v=>n4 (Dc (yY (U j)) r.1 r.2 v)
 | .bo _ _ _,_,_,u,v=>n4 (v=yY u)
def HV:(f:TF)->f.D->Value->List MF
 | .own t E,xs,u=>[mO t.rep E u xs]
 | .var t E,z,u=>[mP t.rep.c E u z]
 | .mat t E E1,x,u=>[fQ t.rep E E1 u x.1 x.2]
 | .matv t E E1,x,u=>[fQ t.rep E E1 u x.1.1 x.1.2]
 | .bo t E E0,xs,u=>[mBo t.rep E E0 u xs]
 |_,_,_=>[]
def dsF(U:Nat->Value)(env:yM):(l:List (Nat×TF))->X4 l->Nat->List FF
 |[],_,_=>[]
 |[a],x,i=>[tfF a.2 x U (U i) (env a.1)]
 |a::b::r,x,i=>tfF a.2 x.1 U (U i) (env a.1)::dsF U env (b::r) x.2 (i+1)
def Xb(U:Nat->Value):(l:List (Nat×TF))->X4 l->Nat->List MF
 |[],_,_=>[]
 |[a],x,i=>HV a.2 x (U i)
 |a::b::r,x,i=>HV a.2 x.1 (U i)++Xb U (b::r) x.2 (i+1)
def YC(f:TF)(dv:Option Dv)(vs:Nat->Value)(v:Value):Value:=match f,dv with
 | .mat _ _ _,some .nil=>KS v []
 | .mat _ _ _,some (.mw o)=>vs o
 | .matv _ _ _,some (.mv o _ _)=>vs o
 | .bo _ _ _,some (.mw o)=>vs o
 |_,_=>v
def Qq(cx σ:Sg)(ds:List (Nat×TF))(vs:Nat->Value)(env:yM)(j:Nat):Value:=match ds[j]? with
 |some (t,f)=>YC f (get cx σ t 0) vs (env t)
 |none=>undef
theorem St.mid{we:World}{Se:Nat->Prop}{A B:List MF}{m:MF}{Γ:List FF}{w:World}(h:St we Se (A++m::B) Γ w):St we Se (m::(A++B)) Γ w:=St.perm h xcp
theorem BU: ∀{os l:List Nat},mZ os l=true-> ∀o∈l,aN os o=false
 |os,o::r,h,p,hp=>by
  simp only[mZ,xam,xdm]at h;rcases xad.1 hp with rfl|hp
  ·exact h.1
  ·exact BU h.2 p hp
theorem GQ{ds:List (Nat×TF)}{t:Nat}{f:TF}{k:f.D->List Nat->Option R}(h:ay cx σ ds t f k=some r): ∃x os,k x os=some r/\(∀j,pO f=some j->j<ds.length)/\
 (∀(P:Program) vs env S w,(∀t,Lk P vs env S w cx σ t)->(tfF f x (Qq cx σ ds vs env) (YC f (get cx σ t 0) vs (env t)) (env t)).p S w)/\
 (∀(P:Program) vs (fr:Fr) env (A:List MF) (Γ:List FF) w (os':List Nat),(∀S w,zz S Γ w->Lk P vs env S w cx σ t)->(∀o∈os,aN os' o=false)->St fr.we fr.Se (A++OS vs fr cx (wU σ.ob os')) Γ w->
  St fr.we fr.Se (HV f x (YC f (get cx σ t 0) vs (env t))++(A++OS vs fr cx (wU σ.ob (os++os')))) Γ w):=by
 have nr: ∀{f:TF},(∀j,pO f≠some j)-> ∀j,pO f=some j->j<ds.length:=fun h j e=>absurd e (h j)
 cases f with
 |d s=>
  obtain⟨y,h,hy⟩:=SE h;refine⟨y,[],h,nr (fun j e=>by cases e),fun P vs env S w hl=> ?_,fun P vs fr env A Γ w os' _ _ h=>h⟩
  cases hg:get cx σ t 0 with
  |none=>rename_i h0;simp only[ay]at h0;rw[hg]at h0;cases h0
  |some v=>exact hy P vs S w v _ hg (hl t 0 v hg)
 |q s=>
  simp only[ay]at h;split at h
  ·next s' x hg=>
   obtain⟨e,h⟩:=yi h;subst e;exact⟨_,[],h,nr (fun j e=>by cases e),fun P vs env S w hl=>hl t 0 _ hg,fun P vs fr env A Γ w os' _ _ h=>h⟩
  ·cases h
 |own s E=>
  simp only[ay]at h;split at h
  ·next o hg=>
   split at h
   ·next s' E' xs ho=>
    obtain⟨hE,h1⟩:=yh h;have hE:=z8 hE;subst hE;obtain⟨e,h2⟩:=yi h1;cases e;refine⟨_,[o],h2,nr (fun j e=>by cases e),fun _ _ _ _ _ _=>by simp only[hg,YC];exact rfl,fun P vs fr env A Γ w os' hl hn ha=> ?_⟩;have hp:=kg (vs:=vs) (fr:=fr) (cx:=cx) ((jW (hn o (FS))).trans ho);have h3:=St.mid (St.perm ha (xbZ _ hp));obtain⟨S,_,hΓ⟩:=ha.ex;have hv:env t=vs o:=hl S w hΓ 0 _ hg;simp only[hg,YC];show St _ _ (mO s.rep E (env t) _::(A++_)) _ _;rw[hv];exact h3
   ·cases h
  ·next hg=>
   refine⟨_,[],h,nr (fun j e=>by cases e),fun _ _ _ _ _ _=>by simp only[hg,YC];exact rfl,fun P vs fr env A Γ w os' hl hn ha=> ?_⟩;obtain⟨S,_,hΓ⟩:=ha.ex;have hv:env t= .slice none 0 0:=hl S w hΓ 0 _ hg;simp only[hg,YC];show St _ _ (mO s.rep E (env t) _::(A++_)) _ _;rw[hv];exact ha.nilO
  ·cases h
 |var s E=>
  simp only[ay]at h;split at h
  ·next o s0 hg=>
   split at h
   ·next s' E' z ho=>
    obtain⟨hE,h1⟩:=yh h;have hE:=z8 hE;subst hE;obtain⟨e,h2⟩:=yi h1;subst e;refine⟨_,[o],h2,nr (fun j e=>by cases e),fun P vs env S w hl=> ?_,fun P vs fr env A Γ w os' hl hn ha=> ?_⟩
    ·obtain⟨h3,b,h4⟩:=hl t 0 _ hg;simp only[hg,YC];exact⟨rfl,b,h3.trans h4⟩
    ·have hp:=kg (vs:=vs) (fr:=fr) (cx:=cx) ((jW (hn o (FS))).trans ho);have h3:=St.mid (St.perm ha (xbZ _ hp));obtain⟨S,_,hΓ⟩:=ha.ex;have hv:env t=vs o:=(hl S w hΓ 0 _ hg).1;simp only[hg,YC];show St _ _ (mP s'.rep.c E (env t) _::(A++_)) _ _;rw[hv];exact h3
   ·cases h
  ·cases h
 |mat s E E1=>
  simp only[ay]at h;split at h
  ·next o hg=>
   split at h
   ·next s' E' F' xss ix ho=>
    obtain⟨hE,h1⟩:=yh h;rw[xam]at hE;have hc:=z8 hE.1;have hd:=z8 hE.2;subst hc;subst hd;obtain⟨e,h2⟩:=yi h1;cases e;refine⟨_,[o],h2,nr (fun j e=>by cases e),fun P vs env S w hl=> ?_,fun P vs fr env A Γ w os' hl hn ha=> ?_⟩
    ·simp only[hg,YC];exact hl t 0 _ hg
    ·have hp:=kg (vs:=vs) (fr:=fr) (cx:=cx) ((jW (hn o (FS))).trans ho);simp only[hg,YC];have h3:=St.mid (St.perm ha (xbZ _ hp));exact h3
   ·cases h
  ·next hg=>
   refine⟨_,[],h,nr (fun j e=>by cases e),fun P vs env S w hl=>by simp only[hg,YC];exact rfl,fun P vs fr env A Γ w os' hl hn ha=> ?_⟩;obtain⟨S,_,hΓ⟩:=ha.ex;have hv:env t= .slice none 0 0:=hl S w hΓ 0 _ hg;simp only[hg,YC];refine EH (u:=KS (env t) []) rfl ?_;show St _ _ (mO (uI []) E (env t) []::(A++_)) _ _;rw[hv];exact ha.nilO
  ·cases h
 |matv s E E1=>
  simp only[ay]at h;split at h
  ·next o lo n hg=>
   split at h
   ·next s' E' F' xss ix ho=>
    obtain⟨hE,h1⟩:=yh h;rw[xam]at hE;have hc:=z8 hE.1;have hd:=z8 hE.2;subst hc;subst hd;obtain⟨e,h2⟩:=yi h1;cases e;refine⟨_,[o],h2,nr (fun j e=>by cases e),fun P vs env S w hl=> ?_,fun P vs fr env A Γ w os' hl hn ha=> ?_⟩
    ·simp only[hg,YC];exact hl t 0 _ hg
    ·have hp:=kg (vs:=vs) (fr:=fr) (cx:=cx) ((jW (hn o (FS))).trans ho);simp only[hg,YC];have h3:=St.mid (St.perm ha (xbZ _ hp));exact h3
   ·cases h
  ·cases h
 |row j=>
  simp only[ay]at h
  have fin: ∀(o o' p:Nat),j<ds.length->get cx σ t 0=some (.rw o p)->xan o o'=true->k p []=some r->(∀vs env,Qq cx σ ds vs env j=vs o')-> ∃(x:Nat) (os:List Nat),k x os=some r/\(∀i,pO (TF.row j)=some i->i<ds.length)/\
   (∀(P:Program) vs env S w,(∀t,Lk P vs env S w cx σ t)->(tfF (.row j) x (Qq cx σ ds vs env) (YC (.row j) (get cx σ t 0) vs (env t)) (env t)).p S w)/\
   (∀(P:Program) vs (fr:Fr) env (A:List MF) (Γ:List FF) w (os':List Nat),(∀S w,zz S Γ w->Lk P vs env S w cx σ t)->(∀o∈os,aN os' o=false)->St fr.we fr.Se (A++OS vs fr cx (wU σ.ob os')) Γ w->
    St fr.we fr.Se (HV (.row j) x (YC (.row j) (get cx σ t 0) vs (env t))++(A++OS vs fr cx (wU σ.ob (os++os')))) Γ w):=by
   intro o o' p he hg h2 h3 h4;refine⟨p,[],h3,fun i e=>by cases e;exact he,fun P vs env S w hl=> ?_,fun P vs fr env A Γ w os' _ _ h=>h⟩;have h5:(w4 (vs o))[p]? =some (env t):=hl t 0 _ hg;rw[z8 h2]at h5;show zby (Qq cx σ ds vs env j) p=some (env t);rw[h4];exact h5
  split at h
  ·next o p s _ _ _ hg hj=>
   split at h
   ·next o' hs=>
    obtain⟨hb,h⟩:=yh h;exact fin o o' p (xar.1 hj).1 hg hb h fun vs env=>by unfold Qq;rw[hj];simp only[hs,YC]
   ·cases h
  ·next o p s _ _ _ hg hj=>
   split at h
   ·next o' lo n hs=>
    obtain⟨hb,h⟩:=yh h;exact fin o o' p (xar.1 hj).1 hg hb h fun vs env=>by unfold Qq;rw[hj];simp only[hs,YC]
   ·cases h
  ·cases h
 |view j=>
  simp only[ay]at h
  have fin: ∀(o o' p q:Nat),j<ds.length->get cx σ t 0=some (.mv o p q)->xan o o'=true->k (p,q) []=some r->(∀vs env,Qq cx σ ds vs env j=vs o')-> ∃(x:Nat×Nat) (os:List Nat),k x os=some r/\(∀i,pO (TF.view j)=some i->i<ds.length)/\
   (∀(P:Program) vs env S w,(∀t,Lk P vs env S w cx σ t)->(tfF (.view j) x (Qq cx σ ds vs env) (YC (.view j) (get cx σ t 0) vs (env t)) (env t)).p S w)/\
   (∀(P:Program) vs (fr:Fr) env (A:List MF) (Γ:List FF) w (os':List Nat),(∀S w,zz S Γ w->Lk P vs env S w cx σ t)->(∀o∈os,aN os' o=false)->St fr.we fr.Se (A++OS vs fr cx (wU σ.ob os')) Γ w->
    St fr.we fr.Se (HV (.view j) x (YC (.view j) (get cx σ t 0) vs (env t))++(A++OS vs fr cx (wU σ.ob (os++os')))) Γ w):=by
   intro o o' p q he hg h2 h3 h4;refine⟨(p,q),[],h3,fun i e=>by cases e;exact he,fun P vs env S w hl=> ?_,fun P vs fr env A Γ w os' _ _ h=>h⟩;have h5:Dc (yY (vs o)) p q (env t):=hl t 0 _ hg;rw[z8 h2]at h5;show Dc (yY (Qq cx σ ds vs env j)) p q (env t);rw[h4];exact h5
  split at h
  ·next o p q s _ _ _ hg hj=>
   split at h
   ·next o' hs=>
    obtain⟨hb,h⟩:=yh h;exact fin o o' p q (xar.1 hj).1 hg hb h fun vs env=>by unfold Qq;rw[hj];simp only[hs,YC]
   ·cases h
  ·next o p q s _ _ _ hg hj=>
   split at h
   ·next o' lo n hs=>
    obtain⟨hb,h⟩:=yh h;exact fin o o' p q (xar.1 hj).1 hg hb h fun vs env=>by unfold Qq;rw[hj];simp only[hs,YC]
   ·cases h
  ·cases h
 |bo s E E0=>
  simp only[ay]at h;split at h
  ·next o hg=>
   split at h
   ·next s' E' F' xs ho=>
    obtain⟨hE,h1⟩:=yh h;rw[xam]at hE;have hc:=z8 hE.1;have hd:=z8 hE.2;subst hc;subst hd;obtain⟨e,h2⟩:=yi h1;cases e;refine⟨_,[o],h2,nr (fun j e=>by cases e),fun P vs env S w hl=> ?_,fun P vs fr env A Γ w os' hl hn ha=> ?_⟩
    ·simp only[hg,YC];exact hl t 0 _ hg
    ·have hp:=kg (vs:=vs) (fr:=fr) (cx:=cx) ((jW (hn o (FS))).trans ho);simp only[hg,YC];have h3:=St.mid (St.perm ha (xbZ _ hp));exact h3
   ·cases h
  ·cases h
theorem lK{ds:List (Nat×TF)}{i:Nat}{t:Nat}{f:TF}{env:yM}(h:ds[i]? =some (t,f)):Qq cx σ ds vs env i=YC f (get cx σ t 0) vs (env t):=by unfold Qq;rw[h]
theorem zdH{ds:List (Nat×TF)}: ∀{l:List (Nat×TF)} {i:Nat} {k:X4 l->List Nat->Option R},(∀j a,l[j]? =some a->ds[i+j]? =some a)->gat cx σ ds l k=some r-> ∃x os,k x os=some r/\(∀a∈l,∀j,pO a.2=some j->j<ds.length)/\
 (∀(P:Program) vs env S w,(∀t,Lk P vs env S w cx σ t)->zz S (dsF (Qq cx σ ds vs env) env l x i) w)/\
 (∀(P:Program) vs (fr:Fr) env (Γ:List FF) w,(∀S w,zz S Γ w-> ∀t,Lk P vs env S w cx σ t)->St fr.we fr.Se (OS vs fr cx σ.ob) Γ w->St fr.we fr.Se (Xb (Qq cx σ ds vs env) l x i++OS vs fr cx (wU σ.ob os)) Γ w)
 |[],i,k,_,h=>⟨(),[],h,fun _ h=>absurd h Nm,fun _ _ _ _ _ _=>trivial,fun _ _ _ _ _ _ _ h=>h⟩
 |[a],i,k,hd,h=>by
  obtain⟨x,os,h1,h0,h2,h3⟩:=GQ (h:ay cx σ ds a.1 a.2 k=some r);have ha:ds[i]? =some (a.1,a.2):=hd 0 a rfl;refine⟨x,os,h1,fun b hb j e=> ?_,fun P vs env S w hl=>⟨?_,trivial⟩,fun P vs fr env Γ w hl he=> ?_⟩
  ·obtain rfl:=xai.1 hb;exact h0 j e
  ·rw[lK ha];exact h2 P vs env S w hl
  ·have:=h3 P vs fr env [] Γ w [] (fun S w hΓ=>hl S w hΓ a.1) (fun _ _=>rfl) he;rw[xbK]at this;show St _ _ (HV a.2 x (Qq cx σ ds vs env i)++_) _ _;rw[lK ha];exact this
 |a::b::l,i,k,hd,h=>by
  obtain⟨x,o,h1,h0,h2,h3⟩:=GQ (h:ay cx σ ds a.1 a.2 _=some r);obtain⟨y,os,h4,hf,h5,h6⟩:=zdH (l:=b::l) (i:=i+1) (fun j c hj=>by
   have:=hd (j+1) c (by simpa using hj);rw[show i+1+j=i+(j+1)by omega];exact this) h1
  obtain⟨hn,h4⟩:=yh h4;have ha:ds[i]? =some (a.1,a.2):=hd 0 a rfl;refine⟨(x,y),o++os,h4,fun c hc j e=> ?_,fun P vs env S w hl=>⟨?_,h5 P vs env S w hl⟩,fun P vs fr env Γ w hl he=> ?_⟩
  ·rcases xad.1 hc with rfl|hc
   ·exact h0 j e
   ·exact hf c hc j e
  ·rw[lK ha];exact h2 P vs env S w hl
  ·have:=h3 P vs fr env (Xb (Qq cx σ ds vs env) (b::l) y (i+1)) Γ w os (fun S w hΓ=>hl S w hΓ a.1) (BU hn) (h6 P vs fr env Γ w hl he);show St _ _ ((HV a.2 x (Qq cx σ ds vs env i)++Xb (Qq cx σ ds vs env) (b::l) y (i+1))++_) _ _;rw[lK ha,xak];exact this
def nvs(vs:Nat->Value)(U:Nat->Value)(n:Nat):Nat->Value:=fun k=>if k<n then vs k else U (k-n)
theorem Hx{n0:Nat}: ∀{l:List (Nat×TF)} {x:X4 l} {o:Nat},∀e∈(Uz n0 l x o).2,o<=e.1/\e.1<o+l.length
 |[],_,_,e,he=>absurd he Nm
 |[(t,f)],x,o,e,he=>by
  cases f<;>simp only[Uz,gI]at he<;>first|exact absurd he Nm|(obtain rfl:=xai.1 he;exact⟨xac _,xbV _⟩)
 |(t,f)::b::l,x,o,e,he=>by
  have ih: ∀e∈(Uz n0 (b::l) x.2 (o+1)).2,o<=e.1/\e.1<o+((t,f)::b::l).length:=fun e he=>by
   have:=Hx e he;simp only[xav]at this⊢;omega
  cases f<;>simp only[Uz,gI]at he<;>first
   |exact ih e he
   |exact(xad.1 he).elim (fun he=>by subst he;exact⟨xac _,by simp only[xav];omega⟩) (fun he=>ih e he)
theorem EO{n0 o p n:Nat}{f:TF}{x:f.D}(hn: ∀j,pO f=some j->j<n)(h:xZ (gI n0 o f x).1=some p):p=o\/p<n0+n:=by
 cases f<;>simp only[gI,xZ,xaw,reduceCtorEq]at h
 ·exact .inl h.symm
 ·exact .inl h.symm
 ·exact .inl h.symm
 ·exact .inl h.symm
 ·next j=>have:=hn j rfl;exact .inr (by omega)
 ·next j=>have:=hn j rfl;exact .inr (by omega)
 ·exact .inl h.symm
theorem AN{n0 n:Nat}: ∀{l:List (Nat×TF)} {x:X4 l} {o:Nat},(∀a∈l,∀j,pO a.2=some j->j<n)-> ∀e∈(Uz n0 l x o).1,∀p,xZ e.2.2=some p->p<o+l.length\/p<n0+n
 |[],_,_,_,e,he=>absurd he Nm
 |[(t,f)],x,o,hn,e,he=>by
  intro p hp;obtain rfl:=xai.1 (show e∈[(t,0,(gI n0 o f x).1)]from he);rcases EO (hn _ (FS)) hp with rfl|h
  ·exact .inl (xbV _)
  ·exact .inr h
 |(t,f)::b::l,x,o,hn,e,he=>by
  intro p hp;have he:e=(t,0,(gI n0 o f x.1).1)\/e∈(Uz n0 (b::l) x.2 (o+1)).1:=xad.1 he;rcases he with rfl|he
  ·rcases EO (hn _ (FS)) hp with rfl|h
   ·exact .inl (by simp only[xav];omega)
   ·exact .inr h
  ·rcases AN (fun a ha=>hn a (H1 _ ha)) e he p hp with h|h
   ·simp only[xav]at h⊢;exact .inl (by omega)
   ·exact .inr h
theorem AJ{U:Nat->Value}{n0:Nat}: ∀{l:List (Nat×TF)} {x:X4 l} {o i:Nat},(∀j,j<l.length->vs (o+j)=U (i+j))->MS vs (Uz n0 l x o).2=Xb U l x i
 |[],_,_,_,_=>rfl
 |[(t,f)],x,o,i,h=>by
  have h0:vs o=U i:=h 0 (by simp);cases f<;>simp only[Uz,gI,MS,xbP,xep,VO,Xb,HV,h0]
 |(t,f)::b::l,x,o,i,h=>by
  have h0:vs o=U i:=h 0 (by simp);have ih:MS vs (Uz n0 (b::l) x.2 (o+1)).2=Xb U (b::l) x.2 (i+1):=AJ fun j hj=>by
   have:=h (j+1) (by simpa using hj);rw[show o+1+j=o+(j+1)by omega,show i+1+j=i+(j+1)by omega];exact this
  unfold MS at ih;cases f<;>simp only[Uz,gI,MS,xbP,VO,Xb,HV,h0,ih,xbE,xfq]
theorem sY{U:Nat->Value}{n0 n:Nat}{f:TF}{x:f.D}{o t:Nat}{u:Value}{S:Nat->Prop}(hv:vs o=u)(hn: ∀j,pO f=some j->j<n)(hU: ∀j,j<n->vs (n0+j)=U j)(h:(tfF f x U u (env t)).p S w):(xF P vs (gI n0 o f x).1 (env t) 0).p S w:=by
 subst hv;cases f
 ·exact h
 ·exact h
 ·exact h
 ·obtain⟨h1,b,h2⟩:=h;exact⟨h1,b,h1.symm.trans h2⟩
 ·exact h
 ·exact h
 ·next j=>
  have h:zby (U j) x=some (env t):=h;show zby (vs (n0+j)) x=some (env t);rw[hU j (hn j rfl)];exact h
 ·next j=>
  have h:Dc (yY (U j)) x.1 x.2 (env t):=h;show Dc (yY (vs (n0+j))) x.1 x.2 (env t);rw[hU j (hn j rfl)];exact h
 ·exact h
theorem Hh{U:Nat->Value}{n0 n:Nat}(hU: ∀j,j<n->vs (n0+j)=U j): ∀{l:List (Nat×TF)} {x:X4 l} {o i:Nat} {S:Nat->Prop},(∀a∈l,∀j,pO a.2=some j->j<n)->(∀j,j<l.length->vs (o+j)=U (i+j))->zz S (dsF U env l x i) w->zz S (RS P vs env (Uz n0 l x o).1) w
 |[],_,_,_,_,_,_,_=>trivial
 |[(t,f)],x,o,i,S,hn,h,hf=>⟨sY (h 0 (by simp)) (hn _ (FS)) hU hf.1,trivial⟩
 |(t,f)::b::l,x,o,i,S,hn,h,hf=>⟨sY (h 0 (by simp)) (hn _ (FS)) hU hf.1,Hh hU (fun a ha=>hn a (H1 _ ha)) (fun j hj=>by
  have:=h (j+1) (by simpa using hj);rw[show o+1+j=o+(j+1)by omega,show i+1+j=i+(j+1)by omega];exact this) hf.2⟩
theorem zaG: ∀{ns:List (Nat×NF)},zcU cx σ ns=true-> ∀t f,(t,f)∈ns->(match f,get cx σ t 0 with
 | .kb b,some (.kb c)=>b==c
 | .nil,some .nil=>true
 | .ci x,some (.d .i y)=>eqI x y
 | .cu x,some (.d .u y)=>eqU x y
 | .al s,some (.ow o)=>(match get cx σ s 0 with
  |some (.ow o')=>xan o o'
  |_=>false)
 | .al s,some (.vs o _)=>(match get cx σ s 0 with
  |some (.vs o' _)=>xan o o'
  |_=>false)
 | .al s,some (.mw o)=>(match get cx σ s 0 with
  |some (.mw o')=>xan o o'
  |_=>false)
 |_,_=>false)=true
 |(t',f')::r,h,t,f,hm=>by
  unfold zcU at h;rw[xam]at h;rcases xad.1 hm with ha|hm
  ·cases ha;exact h.1
  ·exact zaG h.2 t f hm
theorem Mw{rg:List (Nat×Nat×Dv)}{S:Nat->Prop}(hr:zz S (RS P vs env rg) w): ∀{ns:List (Nat×NF)},(∀t f,(t,f)∈ns->match f with
 | .kb b=>env t= .bool b
 | .nil=>env t= .slice none 0 0
 | .ci x=>(fV eI x (env t)).p S w
 | .cu x=>(fV eU x (env t)).p S w
 | .al s=>env t=env s)->zz S (RS P vs env (Bx rg ns)) w
 |[],_=>hr
 |(t,f)::r,h=>by
  have ih:=Mw hr (ns:=r) fun t f hm=>h t f (H1 _ hm);have h0:=h t f (FS);unfold Bx;show zz S (RS P vs env (_++_)) w;rw[show RS P vs env (_++Bx rg r)=RS P vs env _++RS P vs env (Bx rg r)from xaN];refine zz.append ?_ ih;cases f
  ·exact⟨h0,trivial⟩
  ·exact⟨h0,trivial⟩
  ·exact⟨h0,trivial⟩
  ·exact⟨h0,trivial⟩
  ·next s=>
   simp only;split
   ·next v hv=>
    have:=QF hr (cc hv);have h0:env t=env s:=h0;refine⟨?_,trivial⟩;show(xF P vs v (env t) 0).p S w;rw[h0];exact this
   ·trivial
theorem Fx{rg:List (Nat×Nat×Dv)}{n:Nat}(hr: ∀e∈rg,∀p,xZ e.2.2=some p->p<n): ∀{ns:List (Nat×NF)},∀e∈Bx rg ns,∀p,xZ e.2.2=some p->p<n
 |[],e,he=>hr e he
 |(t,f)::r,e,he=>by
  intro p hp;unfold Bx at he;rcases xaa.1 he with he|he
  ·cases f
   ·obtain rfl:=xai.1 he;cases hp
   ·obtain rfl:=xai.1 he;cases hp
   ·obtain rfl:=xai.1 he;cases hp
   ·obtain rfl:=xai.1 he;cases hp
   ·simp only at he;split at he
    ·next v hv=>
     obtain rfl:=xai.1 he;exact hr _ (cc hv) p hp
    ·exact absurd he Nm
  ·exact Fx hr e he p hp
theorem kN: ∀(l:List (Nat×TF)) {σ:Sg},uH P fr cx σ env w->uH P fr cx (zaJ cx σ l) env w
 |[],_,h=>h
 |(t,.d _)::r,_,h=>kN r (AV _ h)
 |(t,.q _)::r,_,h=>kN r h
 |(t,.own _ _)::r,_,h=>kN r h
 |(t,.var _ _)::r,_,h=>kN r h
 |(t,.mat _ _ _)::r,_,h=>kN r h
 |(t,.matv _ _ _)::r,_,h=>kN r h
 |(t,.row _)::r,_,h=>kN r h
 |(t,.view _)::r,_,h=>kN r h
 |(t,.bo _ _ _)::r,_,h=>kN r h
theorem St.dropM{we:World}{Se:Nat->Prop}{Γ:List FF}{w:World}: ∀{A B C:List MF},St we Se (A++(B++C)) Γ w->St we Se (A++C) Γ w
 |A,[],C,h=>h
 |A,b::B,C,h=>St.dropM (B:=B) (St.drop (i:=0) (St.mid h))
end
end
section
section
variable{P:Program}{cf:Cf}{fr:Fr}{cx kp σ:Sg}{vs vs':Nat->Value}{env env0:yM}{w:World}{R:Type}{r:R}{N:Nd}{Q:Qs}
theorem KX{a b:List (Nat×Nat×Dv)}:RS P vs env (a++b)=RS P vs env a++RS P vs env b:=xaN
theorem gi{sh:Sh}{k:X4 sh.ds->Option R}(h:dR (jg cx kp) sh σ k=some r)(hK:Bd cx kp): ∃x,k x=some r/\ ∀(fr:Fr) env w,uH P fr (jg cx kp) σ env w->uH P fr cx (VE sh x kp) env w:=by
 unfold dR at h;simp only at h;obtain⟨hr,h⟩:=yh h;obtain⟨x,os,h1,h0,h2,h3⟩:=zdH (ds:=sh.ds) (i:=0) (fun j a hj=>by rw[xaS];exact hj) h;refine⟨x,h1,fun fr env w hR=> ?_⟩;have hs:=kN sh.ds hR;generalize zaJ (jg cx kp) σ sh.ds=σ1 at*
 obtain⟨hB,vs,ht⟩:=hs;have hf:=h3 P vs fr env (GS P vs env fr (jg cx kp) σ1) w (fun S w hΓ=>ZE hΓ) ht;have hi:=St.dropM hf;generalize hu:Qq (jg cx kp) σ1 sh.ds vs env=U at*
 have hc: ∀o,o<kp.nx->nvs vs U kp.nx o=vs o:=fun o ho=>iq ho;have hd: ∀j,j<sh.ds.length->nvs vs U kp.nx (kp.nx+j)=U (0+j):=fun j hj=>by
  unfold nvs;rw[zx,show kp.nx+j-kp.nx=j by omega,xaS]
 have hv:=fun e he=>Hx (n0:=kp.nx) (l:=sh.ds) (x:=x) (o:=kp.nx) e he;have hk: ∀e∈(Uz kp.nx sh.ds x kp.nx).1,∀p,xZ e.2.2=some p->p<kp.nx+sh.ds.length:=fun e he p hp=>by
  rcases AN (n0:=kp.nx) (n:=sh.ds.length) (l:=sh.ds) (x:=x) (o:=kp.nx) h0 e he p hp with h|h<;>exact h
 refine⟨⟨fun e he=> ?_,fun e he=> ?_,fun e he p hp=> ?_,fun e he p hp=> ?_⟩,nvs vs U kp.nx,?_⟩
 ·rcases xaa.1 he with he|he
  ·exact(hv e he).2
  ·exact xap (hK.o1 e he) (xbI _ _)
 ·exact xap (hK.o2 e he) (xbI _ _)
 ·rcases xaa.1 he with he|he
  ·rcases xaa.1 he with he|he
   ·exact Fx (fun e he p hp=>hk e he p hp) e he p hp
   ·exact hk e he p hp
  ·exact xap (hK.r1 e he p hp) (xbI _ _)
 ·exact xap (hK.r2 e he p hp) (xbI _ _)
 ·have e1:OS (nvs vs U kp.nx) fr cx ((Uz kp.nx sh.ds x kp.nx).2++kp.ob)=Xb U sh.ds x 0++(MS vs (kp.ob++cx.ob)++fr.F):=by
   show MS _ (_++kp.ob)++(MS _ cx.ob++_)=_
   rw[show MS (nvs vs U kp.nx) ((Uz kp.nx sh.ds x kp.nx).2++kp.ob)=MS _ _++MS _ _ from xaN,AJ hd,xX fun e he=>hc _ (hK.o1 e he),xX (ob:=cx.ob) fun e he=>hc _ (hK.o2 e he),
    show MS vs (kp.ob++cx.ob)=MS _ _++MS _ _ from xaN,xak,xak]
  show St _ _ (OS (nvs vs U kp.nx) fr cx ((Uz kp.nx sh.ds x kp.nx).2++kp.ob)) _ _;rw[e1];refine hi.weak fun S w hΓ=> ?_;have hl: ∀t,Lk P vs env S w (jg cx kp) σ1 t:=ZE hΓ;have hy:zz S (RS P (nvs vs U kp.nx) env (Uz kp.nx sh.ds x kp.nx).1) w:=Hh (U:=U) (n:=sh.ds.length) (fun j hj=>by rw[hd j hj,xaS]) h0 hd (by rw[<-hu];exact h2 P vs env S w hl);have hq:zz S (RS P vs env kp.rg++RS P vs env cx.rg) w:=by
   have:=zz.left (zz.right hΓ);rwa[show RS P vs env (jg cx kp).rg=RS P vs env kp.rg++RS P vs env cx.rg from xaN]at this
  have hn:=Mw hy (ns:=sh.ns) fun t f hm=>by
   have hg:=zaG hr t f hm;cases f
   ·split at hg<;>simp_all
    next b c h3=>exact hl t 0 _ h3
   ·split at hg<;>simp_all
    next h3=>exact hl t 0 _ h3
   ·split at hg<;>simp_all
    next a b h3=>
    have:=hl t 0 _ h3;simp only[eqI,decide_eq_true_eq]at hg;rw[hg];exact this
   ·split at hg<;>simp_all
    next a b h3=>
    have:=hl t 0 _ h3;simp only[eqU,decide_eq_true_eq]at hg;rw[hg];exact this
   ·next s=>
    cases hb:get (jg cx kp) σ1 t 0 with
    |none=>rw[hb]at hg;cases hg
    |some v=>
     rw[hb]at hg;cases v<;>simp only[xah]at hg
     ·next o=>
      cases ha:get (jg cx kp) σ1 s 0 with
      |none=>rw[ha]at hg;cases hg
      |some v'=>
       rw[ha]at hg;cases v'<;>simp only[xah]at hg;have a1:env t=vs o:=hl t 0 _ hb;have a2:=hl s 0 _ ha;have:=z8 hg;subst this;exact a1.trans (show env s=_ from a2).symm
     ·next o _=>
      cases ha:get (jg cx kp) σ1 s 0 with
      |none=>rw[ha]at hg;cases hg
      |some v'=>
       rw[ha]at hg;cases v'<;>simp only[xah]at hg;have a1:env t=vs o:=(hl t 0 _ hb).1;have a2:=(hl s 0 _ ha).1;have:=z8 hg;subst this;exact a1.trans a2.symm
     ·next o=>
      cases ha:get (jg cx kp) σ1 s 0 with
      |none=>rw[ha]at hg;cases hg
      |some v'=>
       rw[ha]at hg;cases v'<;>simp only[xah]at hg;have a1:env t=yY (vs o):=hl t 0 _ hb;have a2:=hl s 0 _ ha;have:=z8 hg;subst this;exact a1.trans (show env s=_ from a2).symm
  show zz S (RS P _ env ((Bx (Uz kp.nx sh.ds x kp.nx).1 sh.ns++(Uz kp.nx sh.ds x kp.nx).1)++kp.rg)++(RS P _ env cx.rg++fr.G)) w;refine zz.append ?_ (zz.append ?_ (zz.right (zz.right hΓ)))
  ·rw[KX,KX];refine zz.append (zz.append hn hy) ?_;rw[qo (fun e he p hp=>hc _ (hK.r1 e he p hp)) (fun _ _=>rfl)];exact zz.left hq
  ·rw[qo (fun e he p hp=>hc _ (hK.r2 e he p hp)) (fun _ _=>rfl)];exact zz.right hq
theorem LJ{a t:Tg}(h:Ns a t=true):a=t:=by
 cases a<;>cases t<;>first|rfl|cases h|skip
 rw[z8 (show xan _ _=true from h)]
theorem LD{t:Tg}(hK:Bd cx kp): ∀{l:List (Tg×Sh)} {k:SmD l->Option R},SX (jg cx kp) σ t l k=some r-> ∃(y:SmD l) (σt:Sg),k y=some r/\(∀{R':Type} (K:Tg->Sg->Option R'),Gv kp K l y=K t σt)/\ ∀(fr:Fr) env w,uH P fr (jg cx kp) σ env w->uH P fr cx σt env w
 |[],k,h=>by cases h
 |[a],k,h=>by
  obtain⟨ht,h⟩:=yh h;obtain⟨x,h1,h2⟩:=gi (P:=P) h hK;have:=LJ ht;subst this;exact⟨x,_,h1,fun K=>rfl,h2⟩
 |a::b::l,k,h=>by
  unfold SX at h;cases ht:Ns a.1 t<;>rw[ht]at h
  ·obtain⟨y,σt,h1,h2,h3⟩:=LD hK (l:=b::l) h;exact⟨.inr y,σt,h1,fun K=>h2 K,h3⟩
  ·obtain⟨x,h1,h2⟩:=gi (P:=P) h hK;have:=LJ ht;subst this;exact⟨.inl x,_,h1,fun K=>rfl,h2⟩
abbrev Qd:=Exit->List Nat->yM->World->Prop
def wC(D:Nat):MF where
 blk k:=k=D
 p _ w:=w.heap[D]? =some (.deferred (some []))
 keep h _ hb:=(hb D rfl).trans h
 sub h _:=h
 lt h k hk:=by subst hk;exact(xbj.1 h).1
def mkD(D:Nat):Deferred:={target:= .collected D,args:= #[]}
def Nd.wd(N:Nd)(Ds:List Nat):Nd:=⟨N.n,Ds.map mkD,N.rd⟩
def Fr.wd(fr:Fr)(Ds:List Nat):Fr:=⟨fr.we,fr.Se,Ds.map wC++fr.F,fr.G⟩
def zdy(N:Nd)(Q:Qd):Exit->Act->World->Prop:=fun e a w=>a.tmps.size=N.n/\ ∃Ds:List Nat,a.defers=Ds.map mkD/\Q e Ds (yu a) w
def Ar(P:Program)(N:Nd)(c:Code)(Q:Qd)(Ds:List Nat)(env:yM)(w:World):Prop:=
 ∀a:Act,a.tmps.size=N.n->a.defers=Ds.map mkD->yu a=env->c.wpIn N.F 0 P (zdy N Q) a w
section
variable{N:Nd}{Q Q':Qd}{Ds:List Nat}
theorem zeq{c:Code}(h:Wp P (N.wd Ds) c (fun e env w=>Q e Ds env w) env w):Ar P N c Q Ds env w:=fun a h1 h2 h3=>wpIn_mono (h a h1 h2 h3) fun e a' w' ⟨q1,q2,q3⟩=>⟨q1,Ds,q2,q3⟩
def zdm(K:List Nat->yM->World->Prop)(Q:Qd):Qd
 | .normal,Ds,env,w=>K Ds env w
 |e,Ds,env,w=>Q e Ds env w
def BB(id:Nat)(Q:Qd):Qd
 | .exit id',Ds,env,w=>bif xan id' id then Q .normal Ds env w else Q (.exit id') Ds env w
 |e,Ds,env,w=>Q e Ds env w
def zf7(Q:Qd):Qd
 | .goto _,_,_,_=>False
 |e,Ds,env,w=>Q e Ds env w
theorem iY{x y:Code}(h:Ar P N x (zdm (Ar P N y Q) Q) Ds env w):Ar P N (.seq x y) Q Ds env w:=by
 intro a h1 h2 h3;refine wpIn_seq (wpIn_mono (h a h1 h2 h3) ?_);intro e a' w' ⟨q1,Ds',q2,q3⟩;cases e<;>first|exact q3 a' q1 q2 rfl|exact⟨q1,Ds',q2,q3⟩
theorem Sm{c:Code}(h:Ar P N c Q Ds env w)(hq: ∀e Ds env w,Q e Ds env w->Q' e Ds env w):Ar P N c Q' Ds env w:=
 fun a h1 h2 h3=>wpIn_mono (h a h1 h2 h3) fun e a' w' ⟨q1,Ds',q2,q3⟩=>⟨q1,Ds',q2,hq e _ _ _ q3⟩
theorem sN{id:Nat}{c:Code}(h:Ar P N c (BB id Q) Ds env w):Ar P N (.block id c) Q Ds env w:=by
 intro a h1 h2 h3;refine wpIn_block (wpIn_mono (h a h1 h2 h3) ?_);intro e a' w' ⟨q1,Ds',q2,q3⟩
 cases e with
 |exit i=>
  simp only[BB]at q3;simp only[Exit.inBlock];cases hb:xan i id
  ·rw[hb]at q3;rw[ir (fun e=>by subst e;simp at hb)];exact⟨q1,Ds',q2,q3⟩
  ·rw[hb]at q3;rw[iq (xcH hb)];exact⟨q1,Ds',q2,q3⟩
 |_=>exact⟨q1,Ds',q2,q3⟩
theorem M7{c:Code}(h:Ar P N c (zf7 Q) Ds env w):Ar P N (.scope c) Q Ds env w:=by
 intro a h1 h2 h3;refine IB (wpIn_mono (h a h1 h2 h3) ?_);intro e a' w' ⟨q1,Ds',q2,q3⟩;cases e<;>first|exact⟨q1,Ds',q2,q3⟩|exact q3.elim
theorem DK{c:Code}{G:Type}(I:G->List Nat->yM->World->Prop)(μ:G->Nat)(g₀:G)(h₀:I g₀ Ds env w)(round: ∀g Ds env w,I g Ds env w->Ar P N c (zdm (fun Ds' env' w'=> ∃g',I g' Ds' env' w'/\μ g'<μ g) Q) Ds env w):Ar P N (.loop c) Q Ds env w:=by
 intro a h1 h2 h3;refine H2 (fun g a w=>a.tmps.size=N.n/\ ∃Ds:List Nat,a.defers=Ds.map mkD/\I g Ds (yu a) w) μ g₀ ⟨h1,Ds,h2,h3▸h₀⟩ ?_;intro g a w ⟨h1,Ds,h2,hI⟩;refine wpIn_mono (round g Ds (yu a) w hI a h1 h2 rfl) ?_;intro e a' w' ⟨q1,Ds',q2,q3⟩
 cases e with
 |normal=>obtain⟨g',o1,o2⟩:=q3;exact⟨g',⟨q1,Ds',q2,o1⟩,o2⟩
 |_=>exact⟨q1,Ds',q2,q3⟩
theorem mx{c:Operand}{x y:Code}(hc:ev env c= .bool true)(h:Ar P N x Q Ds env w):Ar P N (.cond c x y) Q Ds env w:=
 fun a h1 h2 h3=>wpIn_cond_true (by rw[Ud,h3];exact hc) (h a h1 h2 h3)
theorem pA{c:Operand}{x y:Code}(hc:ev env c= .bool false)(h:Ar P N y Q Ds env w):Ar P N (.cond c x y) Q Ds env w:=
 fun a h1 h2 h3=>wpIn_cond_false (by rw[Ud,h3];exact hc) (h a h1 h2 h3)
end
theorem tC{α:Type _}(p:α->Bool): ∀l:List α,l.Perm ((l.filter fun a=> !p a)++l.filter p)
 |[]=>xdA _
 |a::l=>by
  have ih:=tC p l;rw[xdh,xdh];cases hp:p a
  ·simpa using ih.cons a
  ·simp only[xdK,xah,if_false,if_true];exact(ih.cons a).trans xcp.symm
theorem oe{ag ro:List Nat}(h:uH P fr cx σ env w):Bd cx (keep σ ag ro)/\uH P fr (jg cx (keep σ ag ro)) (rest σ ag ro) env w:=by
 obtain⟨hB,vs,ha⟩:=h;have hb:Bd cx (keep σ ag ro):=⟨fun e he=>hB.o1 e (xbW.1 he).1,hB.o2,fun e he=>hB.r1 e (xbW.1 he).1,hB.r2⟩;refine⟨hb,⟨fun e he=>hB.o1 e (xbW.1 he).1,fun e he=> ?_,fun e he=>hB.r1 e (xbW.1 he).1,fun e he=> ?_⟩,vs,?_⟩
 ·rcases xaa.1 he with he|he
  ·exact hb.o1 e he
  ·exact hb.o2 e he
 ·rcases xaa.1 he with he|he
  ·exact hb.r1 e he
  ·exact hb.r2 e he
 ·have hp:(OS vs fr cx σ.ob).Perm (OS vs fr (jg cx (keep σ ag ro)) (rest σ ag ro).ob):=by
   show List.Perm (MS vs σ.ob++(MS vs cx.ob++fr.F)) (MS vs (rest σ ag ro).ob++(MS vs ((keep σ ag ro).ob++cx.ob)++fr.F));have e:MS vs (rest σ ag ro).ob++(MS vs ((keep σ ag ro).ob++cx.ob)++fr.F)=(MS vs (rest σ ag ro).ob++MS vs (keep σ ag ro).ob)++(MS vs cx.ob++fr.F):=by
    rw[show MS vs ((keep σ ag ro).ob++cx.ob)=MS _ _++MS _ _ from xaN];simp only[xak]
   rw[e];refine xfe _ ?_;have:=(tC (fun e:Nat×Od=>aN (Aa σ ro) e.1) σ.ob).map (VO vs);rw[xaN]at this;exact this
  refine(St.perm ha hp).sub' ?_;intro f hf;rcases xaa.1 hf with hf|hf
  ·obtain⟨e,he,rfl⟩:=xal.1 hf;exact xaa.2 (.inl (xal.2 ⟨e,(xbW.1 he).1,rfl⟩))
  ·rcases xaa.1 hf with hf|hf
   ·obtain⟨e,he,rfl⟩:=xal.1 hf;rcases xaa.1 he with he|he
    ·exact xaa.2 (.inl (xal.2 ⟨e,(xbW.1 he).1,rfl⟩))
    ·exact xaa.2 (.inr (xaa.2 (.inl (xal.2 ⟨e,he,rfl⟩))))
   ·exact xaa.2 (.inr (xaa.2 (.inr hf)))
end
end
section
def JD(l:Nat)(r:Loop):MF where
 blk k:=k=l
 p _ w:=w.heap[l]? =some (.loop r)
 keep h _ hb:=(hb l rfl).trans h
 sub h _:=h
 lt h k hk:=by subst hk;exact(xbj.1 h).1
def mFF(Γ:List FF):MF where
 blk _:=False
 p S w:=zz S Γ w
 keep h k _:=zz.keep k h
 sub h k:=zz.sub k h
 lt _ _ hk:=hk.elim
section
variable{we:World}{Se:Nat->Prop}{ms:List MF}{Γ Δ:List FF}{w:World}
theorem St.ffIn(h:St we Se ms (Δ++Γ) w):St we Se (mFF Δ::ms) Γ w:=by
 obtain⟨h1,h2,h3,S,h4,h5,h6,h7,h8⟩:=h;refine⟨h1,h2,⟨fun k hk=>hk.elim,h3⟩,S,h4,h5,fun m hm k hk=> ?_,⟨zz.left h8,h7⟩,zz.right h8⟩;rcases xad.1 hm with rfl|hm
 ·exact hk.elim
 ·exact h6 m hm k hk
theorem St.ffOut(h:St we Se (mFF Δ::ms) Γ w):St we Se ms (Δ++Γ) w:=by
 obtain⟨h1,h2,h3,S,h4,h5,h6,h7,h8⟩:=h;exact⟨h1,h2,h3.2,S,h4,h5,fun m hm=>h6 m (H1 _ hm),h7.2,zz.append h7.1 h8⟩
theorem St.putObj{l:Nat}{m m':MF}{o:Obj}(h:St we Se (m::ms) Γ w)(hb: ∀k,m.blk k↔k=l)(he: ∀k,m'.blk k->k=l)(hp: ∀S w',w'.heap[l]? =some o->m'.p S w'):St we Se (m'::ms) Γ (w.putObj l o):=by
 obtain⟨h1,h2,h3,S,h4,h5,h6,h7,h8⟩:=h;have hl:=h6 m (FS) l ((hb l).2 rfl);have hf:l<w.heap.size:=yv.lt h7 m (FS) l ((hb l).2 rfl);have hd:(w.putObj l o).heap.size=w.heap.size:=World.putObj_size;have ha: ∀k,k≠l->(w.putObj l o).heap[k]? =w.heap[k]? :=fun k hk=>World.putObj_heap_other hk;have hk:yp S w (w.putObj l o):=⟨rfl,rfl,rfl,Nat.le_of_eq hd.symm,fun k _ hS=>ha k fun e=>hl.1 (e▸hS)⟩;have hx:VK we (w.putObj l o):=⟨h1.os,h1.tape,h1.output,xao h1.size (Nat.le_of_eq hd.symm),fun k hk hS=>(ha k fun e=>by omega).trans (h1.block k hk hS)⟩;refine⟨hx,h2,⟨fun k hk m2 hm2=>h3.1 k ((hb k).2 (he k hk)) m2 hm2,h3.2⟩,S,h4,fun k hk=>h5 k (by rw[hd]at hk;exact hk),fun m2 hm2 k hc=> ?_,⟨hp S _ (World.putObj_heap_same hf),yv.keep hk (fun m2 hm2 k hc=>ha k fun e=> ?_) h7.2⟩,zz.keep hk h8⟩
 ·rcases xad.1 hm2 with rfl|hm2
  ·exact h6 m (FS) k ((hb k).2 (he k hc))
  ·exact h6 m2 (H1 _ hm2) k hc
 ·subst e;exact h3.1 k ((hb k).2 rfl) m2 hm2 hc
theorem St.allocObj{o:Obj}{m:MF}(h:St we Se ms Γ w)(hb: ∀k,m.blk k->k=w.heap.size)(hp: ∀S w',w'.heap[w.heap.size]? =some o->m.p S w'):St we Se (m::ms) Γ (w.alloc o):=by
 obtain⟨h1,h2,h3,S,h4,h5,h6,h7,h8⟩:=h;have he:(w.alloc o).heap.size=w.heap.size+1:=World.size_alloc ..;have va: ∀k,k<w.heap.size->(w.alloc o).heap[k]? =w.heap[k]? :=fun k hk=>by
  show(w.heap.push o)[k]? =_;rw[Array.getElem?_push];rw[zx]
 have hd:(w.alloc o).heap[w.heap.size]? =some o:=World.alloc_heap_new w o;let S':Nat->Prop:=fun k=>S k/\k≠w.heap.size
 have hk:yp S' w (w.alloc o):=⟨rfl,rfl,rfl,by omega,fun k hk _=>va k hk⟩;have hc: ∀k,k<w.heap.size->S k->S' k:=fun k hk hS=>⟨hS,by omega⟩;refine⟨⟨h1.os,h1.tape,h1.output,by have:=h1.size;omega,fun k hk hS=>(va k (xap hk h1.size)).trans (h1.block k hk hS)⟩,h2,⟨fun k hk m2 hm2 ha=> ?_,h3⟩,S',fun k hk=>h4 k hk.1,fun k hk=>⟨h5 k (by omega),by omega⟩,fun m2 hm2 k ha=> ?_,⟨hp _ _ hd,yv.keep hk (fun m2 hm2 k ha=>va k (yv.lt h7 m2 hm2 k ha)) (yv.sub hc h7)⟩,zz.keep hk (zz.sub hc h8)⟩
 ·have:=yv.lt h7 m2 hm2 k ha;have:=hb k hk;omega
 ·rcases xad.1 hm2 with rfl|hm2
  ·exact⟨fun hS=>hS.2 (hb k ha),by have:=hb k ha;have:=h1.size;omega⟩
  ·exact⟨fun hS=>(h6 m2 hm2 k ha).1 hS.1,(h6 m2 hm2 k ha).2⟩
end
section
variable{P:Program}{cf:Cf}{fr:Fr}{cx kp σ:Sg}{vs vs':Nat->Value}{env env':yM}{w:World}
theorem Cb{cx σ:Sg}(h:Bd cx σ):Bd (jg cx σ) ⟨σ.nx,[],[]⟩where
 o1:=fun _ he=>absurd he Nm
 o2:=fun e he=>by
  rcases xaa.1 he with he|he
  ·exact h.o1 e he
  ·exact h.o2 e he
 r1:=fun _ he=>absurd he Nm
 r2:=fun e he=>by
  rcases xaa.1 he with he|he
  ·exact h.r1 e he
  ·exact h.r2 e he
def dJ(f:TF)(v u:Value):Prop:=match f with
 | .own _ _=>v=u
 | .var _ _=>v=u/\ ∃b,v= .pointer (some ⟨b,0,none⟩)
 | .mat _ _ _=>v=yY u
 | .bo _ _ _=>v=yY u
 |_=>False
def Vc(ds:List (Nat×TF))(env:yM)(U:Nat->Value):Prop:= ∀(j t:Nat) (f:TF),ds[j]? =some (t,f)->dJ f (env t) (U j)
theorem Cv: ∀{ds:List (Nat×TF)},JE ds=true-> ∀(j t:Nat) (f:TF),ds[j]? =some (t,f)->(∃s E,f= .own s E)\/(∃s E,f= .var s E)\/(∃s E F,f= .mat s E F)\/(∃s E F,f= .bo s E F)
 |[],_,j,t,f,h=>by simp at h
 |(t',f')::ds,hm,0,t,f,h=>by
  simp only[xbz,xaw,xct]at h;obtain⟨rfl,rfl⟩:=h;cases f'<;>simp only[JE,xah]at hm
  ·exact .inl ⟨_,_,rfl⟩
  ·exact .inr (.inl ⟨_,_,rfl⟩)
  ·exact .inr (.inr (.inl ⟨_,_,_,rfl⟩))
  ·exact .inr (.inr (.inr ⟨_,_,_,rfl⟩))
 |(t',f')::ds,hm,j+1,t,f,h=>by
  refine Cv (ds:=ds) ?_ j t f (by simpa using h);cases f'<;>simp only[JE,xah]at hm<;>exact hm
theorem Gh{ds:List (Nat×TF)}(hm:JE ds=true): ∀a∈ds,∀j,pO a.2=some j->j<ds.length:=fun a ha j e=>by
 obtain⟨i,hi⟩:=List.mem_iff_getElem?.1 ha;rcases Cv hm i a.1 a.2 hi with⟨_,_,h⟩|⟨_,_,h⟩|⟨_,_,_,h⟩|⟨_,_,_,h⟩<;>rw[h]at e<;>cases e
theorem Mj{U:Nat->Value}{S:Nat->Prop}: ∀{ds:List (Nat×TF)} {x:X4 ds} {i:Nat},(∀(j t:Nat) (f:TF),ds[j]? =some (t,f)->dJ f (env t) (U (i+j)))->zz S (dsF U env ds x i) w
 |[],_,_,_=>trivial
 |[(t,f)],x,i,h=>by
  have h0:=h 0 t f rfl;refine⟨?_,trivial⟩;cases f<;>first|exact h0|exact h0.elim
 |(t,f)::b::l,x,i,h=>by
  have h0:=h 0 t f rfl;refine⟨?_,Mj fun j t f hj=>by
   have:=h (j+1) t f (by simpa using hj);rw[show i+1+j=i+(j+1)by omega];exact this⟩
  cases f<;>first|exact h0|exact h0.elim
theorem Ru{n0:Nat}: ∀{ds:List (Nat×TF)} {x:X4 ds} {o j t:Nat} {f:TF},ds[j]? =some (t,f)-> ∃y:f.D,(t,0,(gI n0 (o+j) f y).1)∈(Uz n0 ds x o).1
 |[],_,_,_,_,_,h=>by simp at h
 |[(t',f')],x,o,0,t,f,h=>by
  simp only[xbz,xaw,xct]at h;obtain⟨rfl,rfl⟩:=h;exact⟨x,FS⟩
 |[(t',f')],x,o,j+1,t,f,h=>by simp at h
 |(t',f')::b::l,x,o,0,t,f,h=>by
  simp only[xbz,xaw,xct]at h;obtain⟨rfl,rfl⟩:=h;exact⟨x.1,FS⟩
 |(t',f')::b::l,x,o,j+1,t,f,h=>by
  obtain⟨y,hy⟩:=Ru (n0:=n0) (ds:=b::l) (x:=x.2) (o:=o+1) (j:=j) (t:=t) (f:=f) (by simpa using h);rw[show o+1+j=o+(j+1)by omega]at hy;exact⟨y,H1 _ hy⟩
theorem zay{ds:List (Nat×TF)}{x:X4 ds}{n:Nat}{S:Nat->Prop}(hm:JE ds=true)(h:zz S (RS P vs env (Uz n ds x n).1) w):Vc ds env fun j=>vs (n+j):=by
 intro j t f hj;obtain⟨y,hy⟩:=Ru (n0:=n) (x:=x) (o:=n) hj;have:=QF h hy;rcases Cv hm j t f hj with⟨_,_,rfl⟩|⟨_,_,rfl⟩|⟨_,_,_,rfl⟩|⟨_,_,_,rfl⟩
 ·exact this
 ·obtain⟨h1,b,h2⟩:=this;exact⟨h1,b,h1.trans h2⟩
 ·exact this
 ·exact this
theorem zc6{ds:List (Nat×TF)}{x:X4 ds}(hm:JE ds=true)(o1: ∀e∈kp.ob,e.1<kp.nx+ds.length)(o2: ∀e∈cx.ob,e.1<kp.nx+ds.length)(r1: ∀e∈kp.rg,∀o,xZ e.2.2=some o->o<kp.nx+ds.length)(r2: ∀e∈cx.rg,∀o,xZ e.2.2=some o->o<kp.nx+ds.length):Bd cx (VE ⟨ds,[]⟩ x kp):=by
 refine⟨fun e he=> ?_,o2,fun e he p hp=> ?_,r2⟩
 ·rcases xaa.1 he with he|he
  ·exact(Hx (n0:=kp.nx) (l:=ds) (x:=x) (o:=kp.nx) e he).2
  ·exact o1 e he
 ·have hr: ∀e∈(Uz kp.nx ds x kp.nx).1,∀p,xZ e.2.2=some p->p<kp.nx+ds.length:=fun e he p hp=>by
   rcases AN (n0:=kp.nx) (n:=ds.length) (l:=ds) (x:=x) (o:=kp.nx) (Gh hm) e he p hp with h|h<;>exact h
  rcases xaa.1 he with he|he
  ·rcases xaa.1 he with he|he
   ·exact hr e he p hp
   ·exact hr e he p hp
  ·exact r1 e he p hp
theorem PX{ds:List (Nat×TF)}{x:X4 ds}(hm:JE ds=true)(hc:Vc ds env fun j=>vs (kp.nx+j))(hb:Bd cx (VE ⟨ds,[]⟩ x kp))
 (hd:St fr.we fr.Se (Xb (fun j=>vs (kp.nx+j)) ds x 0++(MS vs kp.ob++(MS vs cx.ob++fr.F))) (RS P vs env kp.rg++(RS P vs env cx.rg++fr.G)) w):uH P fr cx (VE ⟨ds,[]⟩ x kp) env w:=by
 refine⟨hb,vs,?_⟩;have ha: ∀j,j<ds.length->vs (kp.nx+j)=(fun j=>vs (kp.nx+j)) (0+j):=fun j _=>by simp only[xaS]
 have e1:OS vs fr cx (VE ⟨ds,[]⟩ x kp).ob=Xb (fun j=>vs (kp.nx+j)) ds x 0++(MS vs kp.ob++(MS vs cx.ob++fr.F)):=by
  show MS vs ((Uz kp.nx ds x kp.nx).2++kp.ob)++(MS vs cx.ob++fr.F)=_;rw[show MS vs ((Uz kp.nx ds x kp.nx).2++kp.ob)=MS vs (Uz kp.nx ds x kp.nx).2++MS vs kp.ob from xaN,AJ (U:=fun j=>vs (kp.nx+j)) (i:=0) ha,xak]
 show St _ _ (OS vs fr cx (VE ⟨ds,[]⟩ x kp).ob) _ _;rw[e1];refine hd.weak fun S w hΓ=> ?_;have hy:zz S (RS P vs env (Uz kp.nx ds x kp.nx).1) w:=Hh (U:=fun j=>vs (kp.nx+j)) (n:=ds.length) (i:=0) (fun j _=>rfl) (Gh hm) ha (Mj fun j t f hj=>by rw[xaS];exact hc j t f hj);show zz S (RS P vs env (((Uz kp.nx ds x kp.nx).1++(Uz kp.nx ds x kp.nx).1)++kp.rg)++(RS P vs env cx.rg++fr.G)) w;rw[KX,KX];exact zz.append (zz.append (zz.append hy hy) (zz.left hΓ)) (zz.right hΓ)
theorem M1{ds:List (Nat×TF)}{x:X4 ds}{n:Nat}(hm:JE ds=true)(hR:uH P fr cx (VE ⟨ds,[]⟩ x ⟨n,[],[]⟩) env w): ∃vs,Vc ds env (fun j=>vs (n+j))/\Bd cx (VE ⟨ds,[]⟩ x ⟨n,[],[]⟩)/\St fr.we fr.Se (Xb (fun j=>vs (n+j)) ds x 0++(MS vs cx.ob++fr.F)) (RS P vs env cx.rg++fr.G) w:=by
 obtain⟨hB,vs,ha⟩:=hR;obtain⟨S,_,hΓ⟩:=ha.ex;have h1:zz S (RS P vs env (((Uz n ds x n).1++(Uz n ds x n).1)++[])) w:=zz.left hΓ;rw[KX,KX]at h1;refine⟨vs,zay hm (zz.right (zz.left h1)),hB,?_⟩;have e1:OS vs fr cx (VE ⟨ds,[]⟩ x ⟨n,[],[]⟩).ob=Xb (fun j=>vs (n+j)) ds x 0++(MS vs cx.ob++fr.F):=by
  show MS vs ((Uz n ds x n).2++[])++(MS vs cx.ob++fr.F)=_;rw[xbK,AJ (U:=fun j=>vs (n+j)) (i:=0) fun j _=>by simp only[xaS]]
 have h2:St fr.we fr.Se (OS vs fr cx (VE ⟨ds,[]⟩ x ⟨n,[],[]⟩).ob) (GS P vs env fr cx (VE ⟨ds,[]⟩ x ⟨n,[],[]⟩)) w:=ha;rw[e1]at h2;exact h2.weak fun S w h=>zz.right h
theorem DH{U:Nat->Value}{a:Nat×TF}: ∀{l:List (Nat×TF)} {y:a.2.D} {x:X4 l} {i:Nat},Xb U (a::l) (Ai y x) i=HV a.2 y (U i)++Xb U l x (i+1)
 |[],y,x,i=>by show HV a.2 y (U i)=_++[];rw[xbK]
 |_::_,y,x,i=>rfl
theorem K8{U V:Nat->Value}: ∀{l:List (Nat×TF)} {x:X4 l} {i k:Nat},(∀j,j<l.length->U (i+j)=V (k+j))->Xb U l x i=Xb V l x k
 |[],_,_,_,_=>rfl
 |[a],x,i,k,h=>by
  have h0:U i=V k:=h 0 (by simp);show HV a.2 x (U i)=HV a.2 x (V k);rw[h0]
 |a::b::l,x,i,k,h=>by
  have h0:U i=V k:=h 0 (by simp);show HV a.2 x.1 (U i)++Xb U (b::l) x.2 (i+1)=HV a.2 x.1 (V k)++Xb V (b::l) x.2 (k+1);rw[h0,K8 (l:=b::l) (x:=x.2) (i:=i+1) (k:=k+1) fun j hj=>by
   have:=h (j+1) (by simpa using hj);rw[show i+1+j=i+(j+1)by omega,show k+1+j=k+(j+1)by omega];exact this]
theorem O5{a:Nat×TF}: ∀{l:List (Nat×TF)} (z:X4 (a::l)),z=Ai (UI z).1 (UI z).2
 |[],_=>rfl
 |_::_,_=>rfl
theorem CA{we:World}{Se:Nat->Prop}{A B:List MF}{G:List FF}{l:Nat}{m m':MF}{o:Obj}(h:uH P ⟨we,Se,A++m::B,G⟩ cx σ env w)(hb: ∀k,m.blk k↔k=l)(ha: ∀k,m'.blk k->k=l)(hp: ∀S w',w'.heap[l]? =some o->m'.p S w'):uH P ⟨we,Se,A++m'::B,G⟩ cx σ env (w.putObj l o):=by
 obtain⟨hB,vs,hc⟩:=h;refine⟨hB,vs,?_⟩;have h1:St we Se ((MS vs σ.ob++(MS vs cx.ob++A))++m::B) (GS P vs env ⟨we,Se,A++m::B,G⟩ cx σ) w:=by
  have:St we Se (MS vs σ.ob++(MS vs cx.ob++(A++m::B))) (GS P vs env ⟨we,Se,A++m::B,G⟩ cx σ) w:=hc;simpa only[xak]using this
 have h2:=St.putObj (St.mid h1) hb ha hp;have h3:St we Se ((MS vs σ.ob++(MS vs cx.ob++A))++m'::B) (GS P vs env ⟨we,Se,A++m::B,G⟩ cx σ) (w.putObj l o):=h2.perm xcp.symm;show St we Se (MS vs σ.ob++(MS vs cx.ob++(A++m'::B))) _ _;simpa only[xak]using h3
theorem Rv{n:Nat}{S:Nat->Prop}: ∀{ds:List (Nat×TF)} {i:Nat},JE ds=true->(∀(j t:Nat) (f:TF),ds[j]? =some (t,f)->dJ f (env t) (vs (n+(i+j))))->zz S (RS P vs env (gL ds (n+i))) w
 |[],_,_,_=>trivial
 |(t,f)::r,i,hm,h=>by
  have h0:=h 0 t f rfl;have ih:JE r=true->zz S (RS P vs env (gL r (n+i+1))) w:=fun hm=>Rv (i:=i+1) hm fun j t f hj=>by
   have:=h (j+1) t f (by simpa using hj);rw[show i+1+j=i+(j+1)by omega];exact this
  cases f<;>simp only[JE,xah]at hm
  ·exact⟨h0,ih hm⟩
  ·exact⟨h0.1,ih hm⟩
  ·exact⟨h0,ih hm⟩
  ·exact⟨h0,ih hm⟩
theorem FR: ∀{ds:List (Nat×TF)} {n:Nat},∀e∈gL ds n,∀o,xZ e.2.2=some o->o<n+ds.length
 |[],_,e,he=>absurd he Nm
 |(t,f)::r,n,e,he=>by
  intro o ho;have ih:e∈gL r (n+1)->o<n+((t,f)::r).length:=fun he=>by
   have:=FR e he o ho;simp only[xav];omega
  cases f<;>rcases xad.1 he with rfl|he<;>first|exact ih he|(cases ho;simp only[xav];omega)
theorem mz: ∀{ds:List (Nat×TF)} {n j t:Nat} {f:TF},ds[j]? =some (t,f)-> ∃e∈gL ds n,e.1=t
 |[],_,_,_,_,h=>by simp at h
 |(t',f')::r,n,0,t,f,h=>by
  simp only[xbz,xaw,xct]at h;obtain⟨rfl,rfl⟩:=h;cases f'<;>exact⟨_,FS,rfl⟩
 |(t',f')::r,n,j+1,t,f,h=>by
  obtain⟨e,he,h1⟩:=mz (ds:=r) (n:=n+1) (j:=j) (t:=t) (f:=f) (by simpa using h);cases f'<;>exact⟨e,H1 _ he,h1⟩
theorem zcr{a:Nat×TF}{ds:List (Nat×TF)}(h:OX (a::ds)=true){j t:Nat}{f:TF}(hj:ds[j]? =some (t,f)):t≠a.1:=by
 simp only[OX,RE,xam,xaP]at h;have:=h.1 (t,f) (xbr hj);intro e;subst e;simp at this
end
end
section
def sF(P:Program)(cf:Cf)(n:Nat)(c:Code):Prop:= ∀{R:Type} {r:R} {fr:Fr} {cx σ:Sg} {K:Tg->Sg->Option R} {Q:Qd} {N:Nd},N.n=n->(N.rd=none\/BA c=true)->Um cf c cx σ K=some r-> ∀{Ds:List Nat} {env:yM} {w:World},
 (∀t σ',K t σ'=some r-> ∀Ds' env' w',cq cx env env'->uH P (fr.wd Ds') cx σ' env' w'->Q (tgE t) Ds' env' w')->uH P (fr.wd Ds) cx σ env w->Ar P N c Q Ds env w
def zgV:Value->List Value
 | .tuple us=>us.toList
 |_=>[]
def uU(u:Value)(k:Nat):Value:=(zgV u).getD k undef
def Gi(vs:Nat->Value)(m:Nat):Value:= .tuple ((xbb m).map vs).toArray
theorem zcJ{vs:Nat->Value}{m k:Nat}(h:k<m):uU (Gi vs m) k=vs k:=by
 simp[uU,Gi,zgV,UV,h]
def tgC:Tg->Code
 | .n=> .skip
 | .x i=> .exit i
 | .r=> .ret
section
variable{P:Program}{cf:Cf}{fr:Fr}{cx cx' kp σ:Sg}{vs vs':Nat->Value}{env env':yM}{w:World}{we:World}{Se:Nat->Prop}{F:List MF}{G:List FF}{n D l:Nat}{ds:List (Nat×TF)}{x:X4 ds}{u:Value}{rc:Loop}
def NM(P:Program)(env:yM)(cx':Sg)(n:Nat)(ds:List (Nat×TF))(D l:Nat)(rc:Loop)(x:X4 ds)(u:Value):MF:=
 FH (mPr (Vc ds env fun j=>uU u (n+j))::mFF (RS P (uU u) env cx'.rg)::JD l rc::wC D::(Xb (fun j=>uU u (n+j)) ds x 0++MS (uU u) cx'.ob))
theorem LO(h:St we Se (NM P env cx' n ds D l rc x u::F) G w):Vc ds env (fun j=>uU u (n+j))/\St we Se (JD l rc::wC D::(Xb (fun j=>uU u (n+j)) ds x 0++(MS (uU u) cx'.ob++F))) (RS P (uU u) env cx'.rg++G) w:=by
 obtain⟨h1,h2⟩:=St.unpr (St.grp.1 h);refine⟨h1,?_⟩;have h3:=St.ffOut (show St we Se (mFF (RS P (uU u) env cx'.rg)::(JD l rc::wC D::(Xb (fun j=>uU u (n+j)) ds x 0++MS (uU u) cx'.ob)++F)) G w from h2);simpa only[xbN,xak]using h3
theorem SQ(ha:Vc ds env fun j=>vs (n+j))(ho: ∀e∈cx'.ob,e.1<n)(hr: ∀e∈cx'.rg,∀o,xZ e.2.2=some o->o<n)(h:St we Se (JD l rc::wC D::(Xb (fun j=>vs (n+j)) ds x 0++(MS vs cx'.ob++F))) (RS P vs env cx'.rg++G) w):
 St we Se (NM P env cx' n ds D l rc x (Gi vs (n+ds.length))::F) G w:=by
 have e0: ∀k,k<n+ds.length->uU (Gi vs (n+ds.length)) k=vs k:=fun k hk=>zcJ hk;have e1:RS P (uU (Gi vs (n+ds.length))) env cx'.rg=RS P vs env cx'.rg:=qo (fun e he o ho=>e0 o (by have:=hr e he o ho;omega)) fun _ _=>rfl;have e2:MS (uU (Gi vs (n+ds.length))) cx'.ob=MS vs cx'.ob:=xX fun e he=>e0 e.1 (by have:=ho e he;omega);have e3:Xb (fun j=>uU (Gi vs (n+ds.length)) (n+j)) ds x 0=Xb (fun j=>vs (n+j)) ds x 0:=K8 fun j hj=>e0 _ (by omega);refine St.grp.2 (St.pr ?_ ?_)
 ·intro j t f hj;have:=(xar.1 hj).1;show dJ f (env t) (uU (Gi vs (n+ds.length)) (n+j));rw[e0 _ (by omega)];exact ha j t f hj
 ·have h2:St we Se (mFF (RS P vs env cx'.rg)::(JD l rc::wC D::(Xb (fun j=>vs (n+j)) ds x 0++MS vs cx'.ob)++F)) G w:=St.ffIn (by simpa only[xbN,xak]using h);rw[e1,e2,e3];exact h2
theorem CH{m:MF}{p:Prop}(h:uH P fr cx σ env w)(hm:m∈fr.F)(hp: ∀S,m.p S w->p):p:=by
 obtain⟨_,vs,_,_,_,S,_,_,_,h7,_⟩:=h;exact hp S (kR.1 h7 m (xaa.2 (.inr (xaa.2 (.inr hm)))))
theorem za4{it:ra}{pt:Nat}{τ:Tg}{a c:Code}{N:Nat}{fn:FuncId}{tmps:Array Value}(hA:sF P cf N a)(hC:sF P cf N c)(hV:BA a=true)(hW:BA c=true)(hpt:pt<N)(hX:tmps.size=N)(hN:yu ⟨tmps,[]⟩=env)(hm:JE ds=true)
 (hY:OX (jk pt it.t it.E ds).ds=true) (hH:ZF cx'.rg pt=true) (ho: ∀e∈cx'.ob,e.1<n) (hr: ∀e∈cx'.rg,∀o,xZ e.2.2=some o->o<n):
 Ek P l it.t.rep it.E (fun x u=>NM P env cx' n ds D l {state:= .ready,pending:=none,fn:=fn,tmps:=tmps,params:= #[pt],assign:=a,body:=c,defers:=D} x u)
  (fun x u=>NM P env cx' n ds D l {state:= .done,pending:=some (tgC τ),fn:=fn,tmps:=tmps,params:= #[pt],assign:=a,body:=c,defers:=D} x u)
  (zhU cx' n ds it.t it.E pt τ (fun cx σ K=>Um cf a cx σ K) fun cx σ K=>Um cf c cx σ K):=by
 obtain⟨rR,hg⟩: ∃rR:Loop,rR={state:= .ready,pending:=none,fn:=fn,tmps:=tmps,params:= #[pt],assign:=a,body:=c,defers:=D}:=⟨_,rfl⟩;obtain⟨rB,hF⟩: ∃rB:Loop,rB={rR with state:= .busy}:=⟨_,rfl⟩;rw[<-hg];intro ys x ys' q hq v u we Se F G w hZ;obtain⟨h0,h1⟩:=LO hZ;have hl:w.heap[l]? =some (.loop rR):=xN h1 (i:=0) rfl fun S hp=>hp;have hy:=run_yield (P:=P) (args:= #[v]) hl (by rw[hg];rfl);refine⟨fn,tmps.setIfInBounds pt v,a,c,by rw[hg]at hy;simpa using hy,roundIn_of_wpIn trivial ?_⟩;obtain⟨sh,hv⟩: ∃sh,sh=jk pt it.t it.E ds:=⟨_,rfl⟩;have hlen:sh.ds.length=ds.length+1:=by rw[hv];rfl
 have hG:JE sh.ds=true:=by rw[hv];exact hm
 obtain⟨cp,hb⟩: ∃cp,cp=cpR cx' n sh:=⟨_,rfl⟩;have hO: ∀{j t:Nat} {f:TF},ds[j]? =some (t,f)->t≠pt:=fun hj=>zcr (a:=(pt,.own it.t it.E)) hY hj;obtain⟨env1,hi⟩: ∃env1,env1=put env (some pt) v:=⟨_,rfl⟩;have e_pt:env1 pt=v:=by rw[hi];exact om
 have e_ne: ∀t,t≠pt->env1 t=env t:=fun t ht=>by rw[hi];exact U6 (fun e=>ht (by cases e;rfl))
 have e_cx: ∀e∈cx'.rg,env1 e.1=env e.1:=fun e he=>e_ne e.1 fun h=>by
  simp only[ZF,xaP]at hH;have:=hH e he;rw[h]at this;simp at this
 obtain⟨vs1,hx⟩: ∃vs1:Nat->Value,vs1=fun k=>if k<n then uU u k else if k=n then v else uU u (k-1):=⟨_,rfl⟩;have v_lo: ∀k,k<n->vs1 k=uU u k:=fun k hk=>by rw[hx];exact iq hk
 have v_n:vs1 n=v:=by rw[hx];simp
 have v_hi: ∀j,vs1 (n+(j+1))=uU u (n+j):=fun j=>by
  rw[hx];simp only;rw[zx,zx,show n+(j+1)-1=n+j by omega]
 have hI:Vc sh.ds env1 fun j=>vs1 (n+j):=by
  rw[hv];intro j t f hj
  cases j with
  |zero=>
   simp only[jk,xbz,xaw,xct]at hj;obtain⟨rfl,rfl⟩:=hj;show env1 pt=vs1 (n+0);rw[e_pt,xcg,v_n]
  |succ j=>
   have hj:ds[j]? =some (t,f):=by simpa[jk]using hj
   show dJ f (env1 t) (vs1 (n+(j+1)));rw[v_hi,e_ne t (hO hj)];exact h0 j t f hj
 have hB:Bd cp ⟨n+sh.ds.length,[],[]⟩:=by
  rw[hb];refine⟨fun _ he=>absurd he Nm,fun e he=> ?_,fun _ he=>absurd he Nm,fun e he o hd=> ?_⟩
  ·have:=ho e he;show e.1<n+_;omega
  ·show o<n+_;rcases xaa.1 (show e∈gL sh.ds n++cx'.rg from he)with he|he
   ·exact FR e he o hd
   ·have:=hr e he o hd;omega
 have h9:uH P (Fr.wd ⟨we,Se,JD l rR::wC D::F,G⟩ []) cp (VE sh (hv▸Ai (a:=(pt,.own it.t it.E)) ys x) ⟨n,[],[]⟩) env1 w:=by
  subst hv;refine PX (vs:=vs1) (kp:=⟨n,[],[]⟩) hG hI (zc6 hG (fun _ he=>absurd he Nm) (fun e he=>hB.o2 e he) (fun _ he=>absurd he Nm) fun e he o hd=>hB.r2 e he o hd) ?_;have e1:Xb (fun j=>vs1 (n+j)) (jk pt it.t it.E ds).ds (Ai (a:=(pt,.own it.t it.E)) ys x) 0=mO it.t.rep it.E v ys::Xb (fun j=>uU u (n+j)) ds x 0:=by
   refine(DH (U:=fun j=>vs1 (n+j)) (a:=(pt,.own it.t it.E)) (l:=ds) (y:=ys) (x:=x) (i:=0)).trans ?_;show mO it.t.rep it.E (vs1 (n+0)) ys::Xb _ ds x (0+1)=_;rw[xcg,v_n,K8 (U:=fun j=>vs1 (n+j)) (V:=fun j=>uU u (n+j)) (i:=0+1) (k:=0) fun j _=>by
    show vs1 (n+(0+1+j))=uU u (n+(0+j));rw[show 0+1+j=j+1 by omega,v_hi,xaS]]
  have e2:MS vs1 cp.ob=MS (uU u) cx'.ob:=by rw[hb];exact xX fun e he=>v_lo _ (ho e he)
  show St we Se (Xb (fun j=>vs1 (n+j)) (jk pt it.t it.E ds).ds (Ai (a:=(pt,.own it.t it.E)) ys x) 0++([]++(MS vs1 cp.ob++([]++(JD l rR::wC D::F))))) ([]++(RS P vs1 env1 cp.rg++G)) w;rw[e1,e2];have h2:St we Se (mO it.t.rep it.E v ys::Xb (fun j=>uU u (n+j)) ds x 0++([]++(MS (uU u) cx'.ob++([]++(JD l rR::wC D::F))))) (RS P (uU u) env cx'.rg++G) w:=by
   refine h1.perm ?_;simp only[xbE,xbN];have p1:(JD l rR::wC D::(Xb (fun j=>uU u (n+j)) ds x 0++(MS (uU u) cx'.ob++mO it.t.rep it.E v ys::F))).Perm (mO it.t.rep it.E v ys::(JD l rR::wC D::(Xb (fun j=>uU u (n+j)) ds x 0++(MS (uU u) cx'.ob++F)))):=by
    have:=xcp (a:=mO it.t.rep it.E v ys) (l₁:=JD l rR::wC D::(Xb (fun j=>uU u (n+j)) ds x 0++MS (uU u) cx'.ob)) (l₂:=F);simpa only[xbN,xak]using this
   refine p1.trans (List.Perm.cons _ ?_);have p2:([JD l rR,wC D]++((Xb (fun j=>uU u (n+j)) ds x 0++MS (uU u) cx'.ob)++F)).Perm ((Xb (fun j=>uU u (n+j)) ds x 0++MS (uU u) cx'.ob)++([JD l rR,wC D]++F)):=xdD ..;simpa only[xbN,xak,xbE]using p2
  refine h2.weak (Δ:=RS P vs1 env1 cp.rg++G) fun S w ha=>zz.append ?_ (zz.right ha);rw[hb];show zz S (RS P vs1 env1 (gL (jk pt it.t it.E ds).ds n++cx'.rg)) w;rw[KX];refine zz.append (Rv (i:=0) hG fun j t f hj=>by rw[xaS];exact hI j t f hj) ?_;rw[qo (vs:=uU u) (env:=env) (fun e he o hd=>v_lo o (hr e he o hd)) e_cx];exact zz.left ha
 obtain⟨N1,hw⟩: ∃N1:Nd,N1=⟨N,[],some l⟩:=⟨_,rfl⟩;have hP:(⟨tmps.setIfInBounds pt v,[]⟩:Act).tmps.size=N1.n:=by rw[hw];simpa using hX
 have hQ:yu ⟨tmps.setIfInBounds pt v,[]⟩=env1:=by
  have:=ZN (a:=⟨tmps,[]⟩) (d:=some pt) (v:=v) (fun t ht=>by cases ht;show pt<tmps.size;omega);rw[hi,<-hN];exact this
 subst hv
 have h':=hA (N:=N1) (fr:=⟨we,Se,JD l rR::wC D::F,G⟩) (Ds:=[]) (by rw[hw]) (.inr hV) (show Um cf a cp _ _=some (ys',q)from by rw[hb];exact hq)
  (Q:=fun e Ds' env' w'=>e= .normal/\ ∃σ',Um cf c cp σ' (zfn cp ds it.t it.E pt τ)=some (ys',q)/\cq cp env1 env'/\uH P (Fr.wd ⟨we,Se,JD l rR::wC D::F,G⟩ Ds') cp σ' env' w')
  (fun t σ' hk Ds' env' w' hs hR=>by
   cases t with
   |n=>exact⟨rfl,σ',by rw[hb];exact hk,hs,hR⟩
   |x i=>cases hk
   |r=>cases hk) h9
 have hS:=h' ⟨tmps.setIfInBounds pt v,[]⟩ hP rfl hQ;rw[hw]at hS;refine wpIn_mono hS ?_;rintro e a1 w1 ⟨q1,Ds',q2,rfl,σ',hk,hs,hR⟩;have hl1:w1.heap[l]? =some (.loop rR):=CH hR (m:=JD l rR) (xaa.2 (.inr (FS))) fun S hp=>hp;refine⟨w1.putObj l (.loop rB),by rw[hF];exact run_beginRound hl1 (by rw[hg]),?_⟩;have hR1:uH P (Fr.wd ⟨we,Se,JD l rB::wC D::F,G⟩ Ds') cp σ' (yu a1) (w1.putObj l (.loop rB)):=CA (A:=Ds'.map wC) (m:=JD l rR) (m':=JD l rB) (B:=wC D::F) hR (fun k=>Iff.rfl) (fun k h=>h) fun S w' h=>h
 have hwC:=hC (N:=N1) (fr:=⟨we,Se,JD l rB::wC D::F,G⟩) (Ds:=Ds') (by rw[hw]) (.inr hW) hk
  (Q:=fun e Ds'' env' w'=> ∃t σ'',e=tgE t/\zfn cp ds it.t it.E pt τ t σ''=some (ys',q)/\cq cp (yu a1) env'/\uH P (Fr.wd ⟨we,Se,JD l rB::wC D::F,G⟩ Ds'') cp σ'' env' w')
  (fun t σ'' hk Ds'' env' w' hs hR=>⟨t,σ'',rfl,hk,hs,hR⟩) hR1
 have hT:=hwC a1 (by rw[hw];exact q1) q2 rfl;rw[hw]at hT;refine wpIn_mono hT ?_;rintro e a2 w2 ⟨p1,Ds'',p2,t,σ'',rfl,hc,hs2,hn⟩;have hL:w2.heap[l]? =some (.loop rB):=CH hn (m:=JD l rB) (xaa.2 (.inr (FS))) fun S hp=>hp;have hM:=hs.trans hs2
 have close: ∀(z:X4 (jk pt it.t it.E ds).ds) (rc:Loop),uH P (Fr.wd ⟨we,Se,JD l rB::wC D::F,G⟩ Ds'') cp (VE (jk pt it.t it.E ds) z ⟨n+(jk pt it.t it.E ds).ds.length,[],[]⟩) (yu a2) w2->
  ∃u',St we Se (NM P env cx' n ds D l rc (UI z).2 u'::mO it.t.rep it.E v (UI z).1::F) G (w2.putObj l (.loop rc)):=by
  intro z rc hu;have hRp:=CA (A:=Ds''.map wC) (m:=JD l rB) (m':=JD l rc) (B:=wC D::F) hu (fun k=>Iff.rfl) (fun k h=>h) (o:= .loop rc) fun S w' h=>h;obtain⟨vs2,hD,hB2,hJ⟩:=M1 (ds:=(jk pt it.t it.E ds).ds) hG hRp;obtain⟨m,hm2⟩: ∃m,m=n+(jk pt it.t it.E ds).ds.length:=⟨_,rfl⟩;rw[<-hm2]at hD hJ;have z0:vs2 m=v:=by
   have h2:yu a2 pt=vs2 (m+0):=hD 0 pt (.own it.t it.E) rfl;obtain⟨e,he,h3⟩:=mz (ds:=(jk pt it.t it.E ds).ds) (n:=n) (j:=0) (t:=pt) (f:= .own it.t it.E) rfl;have h4:=hM e (by rw[hb];exact xaa.2 (.inl he));rw[h3,e_pt]at h4;rw[xcg]at h2;exact h2.symm.trans h4
  obtain⟨vs3,hK⟩: ∃vs3:Nat->Value,vs3=fun k=>if k<n then vs2 k else vs2 (m+1+(k-n)):=⟨_,rfl⟩;have w_lo: ∀k,k<n->vs3 k=vs2 k:=fun k hk=>by rw[hK];exact iq hk
  have w_hi: ∀j,vs3 (n+j)=vs2 (m+(j+1)):=fun j=>by
   rw[hK];simp only;rw[zx,show m+1+(n+j-n)=m+(j+1)by omega]
  have hU:Vc ds env fun j=>vs3 (n+j):=by
   intro j t f hj;have h2:=hD (j+1) t f (by simpa[jk]using hj);obtain⟨e,he,h3⟩:=mz (ds:=(jk pt it.t it.E ds).ds) (n:=n) (j:=j+1) (t:=t) (f:=f) (by simpa[jk]using hj);have h4:=hM e (by rw[hb];exact xaa.2 (.inl he));rw[h3,e_ne t (hO hj)]at h4;show dJ f (env t) (vs3 (n+j));rw[w_hi,<-h4];exact h2
  refine⟨_,SQ (F:=mO it.t.rep it.E v (UI z).1::F) hU ho hr ?_⟩;have e1:Xb (fun j=>vs2 (m+j)) (jk pt it.t it.E ds).ds z 0=mO it.t.rep it.E v (UI z).1::Xb (fun j=>vs3 (n+j)) ds (UI z).2 0:=by
   refine(congrArg (fun z=>Xb (fun j=>vs2 (m+j)) (jk pt it.t it.E ds).ds z 0) (O5 (a:=(pt,.own it.t it.E)) (l:=ds) z)).trans ?_;refine(DH (U:=fun j=>vs2 (m+j)) (a:=(pt,.own it.t it.E)) (l:=ds) (y:=(UI (a:=(pt,.own it.t it.E)) z).1) (x:=(UI (a:=(pt,.own it.t it.E)) z).2) (i:=0)).trans ?_;show mO it.t.rep it.E (vs2 (m+0)) (UI z).1::Xb _ ds (UI z).2 (0+1)=_;rw[xcg,z0,K8 (U:=fun j=>vs2 (m+j)) (V:=fun j=>vs3 (n+j)) (i:=0+1) (k:=0) fun j _=>by
    show vs2 (m+(0+1+j))=vs3 (n+(0+j));rw[show 0+1+j=j+1 by omega,xaS,w_hi]]
  have e2:MS vs2 cp.ob=MS vs3 cx'.ob:=by rw[hb];exact xX fun e he=>(w_lo _ (ho e he)).symm
  have h5:St we Se (Xb (fun j=>vs2 (m+j)) (jk pt it.t it.E ds).ds z 0++(MS vs2 cp.ob++(Ds''.map wC++JD l rc::wC D::F))) (RS P vs2 (yu a2) cp.rg++G) (w2.putObj l (.loop rc)):=hJ;rw[e1,e2]at h5;have h6:St we Se ((mO it.t.rep it.E v (UI z).1::Xb (fun j=>vs3 (n+j)) ds (UI z).2 0++MS vs3 cx'.ob)++(JD l rc::wC D::F)) (RS P vs2 (yu a2) cp.rg++G) (w2.putObj l (.loop rc)):=St.dropM (B:=Ds''.map wC) (by simpa only[xak]using h5);have h7:St we Se (JD l rc::wC D::(Xb (fun j=>vs3 (n+j)) ds (UI z).2 0++(MS vs3 cx'.ob++(mO it.t.rep it.E v (UI z).1::F)))) (RS P vs2 (yu a2) cp.rg++G) (w2.putObj l (.loop rc)):=by
   refine h6.perm ?_;have p1:((Xb (fun j=>vs3 (n+j)) ds (UI z).2 0++MS vs3 cx'.ob)++([JD l rc,wC D]++F)).Perm ([JD l rc,wC D]++((Xb (fun j=>vs3 (n+j)) ds (UI z).2 0++MS vs3 cx'.ob)++F)):=xdD ..;have p2:=xcp (a:=mO it.t.rep it.E v (UI z).1) (l₁:=JD l rc::wC D::(Xb (fun j=>vs3 (n+j)) ds (UI z).2 0++MS vs3 cx'.ob)) (l₂:=F);have p3:=(p1.cons (mO it.t.rep it.E v (UI z).1)).trans (by simpa only[xbN,xak,xbE]using p2.symm);simpa only[xbN,xak,xbE]using p3
  refine h7.weak fun S w ha=>zz.append ?_ (zz.right ha);have h8:zz S (RS P vs2 (yu a2) (gL (jk pt it.t it.E ds).ds n++cx'.rg)) w:=by
   have:=zz.left ha;rw[hb]at this;exact this
  rw[KX]at h8;rw[qo (vs:=vs2) (env:=yu a2) (fun e he o hd=>w_lo o (hr e he o hd)) fun e he=> ?_]
  ·exact zz.right h8
  ·have h4:=hM e (by rw[hb];exact xaa.2 (.inr he));rw[e_cx e he]at h4;exact h4.symm
 cases t with
 |n=>
  obtain⟨z,hz,hf⟩:=gi (P:=P) (cx:=cp) (kp:=⟨n+(jk pt it.t it.E ds).ds.length,[],[]⟩) (show dR (jg cp ⟨n+(jk pt it.t it.E ds).ds.length,[],[]⟩) (jk pt it.t it.E ds) σ'' (fun z=>some ((UI z).1,Sum.inl (UI z).2))=some (ys',q)from by rw[hb]at hc⊢;exact hc) hB;cases hz;have hu:=hf (Fr.wd ⟨we,Se,JD l rB::wC D::F,G⟩ Ds'') (yu a2) w2 (by rw[hb]at hn⊢;exact hn);refine⟨_,_,run_endRound none hL,rfl,?_⟩;have hE:({rB with state:=if(none:Option Code).isNone then .ready else .done,pending:=none}:Loop)=rR:=by rw[hF,hg];rfl
  rw[hE];exact close z rR hu
 |x i=>
  obtain⟨ht,hc⟩:=yh hc;obtain⟨z,hz,hf⟩:=gi (P:=P) (cx:=cp) (kp:=⟨n+(jk pt it.t it.E ds).ds.length,[],[]⟩) (show dR (jg cp ⟨n+(jk pt it.t it.E ds).ds.length,[],[]⟩) (jk pt it.t it.E ds) σ'' (fun z=>some ((UI z).1,Sum.inr (UI z).2))=some (ys',q)from by rw[hb]at hc⊢;exact hc) hB;cases hz;have hu:=hf (Fr.wd ⟨we,Se,JD l rB::wC D::F,G⟩ Ds'') (yu a2) w2 (by rw[hb]at hn⊢;exact hn);refine⟨_,_,run_endRound (some (.exit i)) hL,rfl,?_⟩;have hE:({rB with state:=if(some (Code.exit i)).isNone then .ready else .done,pending:=some (.exit i)}:Loop)={state:= .done,pending:=some (tgC τ),fn:=fn,tmps:=tmps,params:= #[pt],assign:=a,body:=c,defers:=D}:=by rw[hF,hg,LJ ht];rfl
  rw[hE];exact close z _ hu
 |r=>
  obtain⟨ht,hc⟩:=yh hc;obtain⟨z,hz,hf⟩:=gi (P:=P) (cx:=cp) (kp:=⟨n+(jk pt it.t it.E ds).ds.length,[],[]⟩) (show dR (jg cp ⟨n+(jk pt it.t it.E ds).ds.length,[],[]⟩) (jk pt it.t it.E ds) σ'' (fun z=>some ((UI z).1,Sum.inr (UI z).2))=some (ys',q)from by rw[hb]at hc⊢;exact hc) hB;cases hz;have hu:=hf (Fr.wd ⟨we,Se,JD l rB::wC D::F,G⟩ Ds'') (yu a2) w2 (by rw[hb]at hn⊢;exact hn);refine⟨_,_,run_endRound (some .ret) hL,rfl,?_⟩;have hE:({rB with state:=if(some Code.ret).isNone then .ready else .done,pending:=some .ret}:Loop)={state:= .done,pending:=some (tgC τ),fn:=fn,tmps:=tmps,params:= #[pt],assign:=a,body:=c,defers:=D}:=by rw[hF,hg,LJ ht];rfl
  rw[hE];exact close z _ hu
end
end
section
section
variable{P:Program}{cf:Cf}{fr:Fr}{cx σ:Sg}{env:yM}{w:World}{R:Type}{r:R}
theorem zbm(hX:pX P cf){g:Operand}{a c:Code}{N:Nd}{K:Tg->Sg->Option R}{Q:Qd}{s:Lp}{it:ra}{y:JW it.dom}{τ:Tg}{pt:Nat}{ags:List Nat}{cs:List PD}{Ds:List Nat}
 (hA:sF P cf N.n a) (hC:sF P cf N.n c) (hP:BA a=true) (hQ:BA c=true) (hS:N.rd=none) (hT:pt<N.n) (hg:xU cx σ g=some (.fn it.f cs)) (hU:it∈cf.is) (hy:Js it.dom cs=some y) (hv:s.hd.ns=[])
 (h:HA cx σ K s it y τ pt ags (fun cx σ K=>Um cf a cx σ K) (fun cx σ K=>Um cf c cx σ K)=some r)
 (hK: ∀t σ',K t σ'=some r-> ∀Ds' env' w',cq cx env env'->uH P (fr.wd Ds') cx σ' env' w'->Q (tgE t) Ds' env' w') (hR:uH P (fr.wd Ds) cx σ env w):Ar P N (.rangeFunc g #[pt] a c) Q Ds env w:=by
 obtain⟨⟨ds,ns⟩,sg⟩:=s;simp only at hv;subst hv;obtain⟨h8,hx⟩:=CF hy;obtain⟨hB,vs,hz⟩:=hR;obtain⟨S0,_,hΓ⟩:=hz.ex;obtain⟨cvs,hD,h7,h9⟩:=zk hg (zW hΓ g);have hV:uH P ⟨fr.we,fr.Se,Ds.map wC++fr.F,kE P it.dom y cvs++fr.G⟩ cx σ env w:=⟨hB,vs,hz.weak fun S w ha=>zz.append (zz.left ha) (zz.append (zz.left (zz.right ha)) (zz.append (by
  obtain⟨cvs',hE,hY,hF⟩:=zk hg (zW ha g);rw[hD]at hE;have:cvs=cvs':=by simpa using hE
  subst this;exact hx hY hF) (zz.right (zz.right ha))))⟩
 unfold HA at h;simp only at h;obtain⟨hi,h⟩:=yh h;simp only[xam]at hi;obtain⟨hm,hZ,hl⟩:=hi;obtain⟨hc,hG⟩:=oe (ag:=ags) (ro:=sg.ro) hV;obtain⟨kp,h0⟩: ∃kp,kp=keep σ ags sg.ro:=⟨_,rfl⟩;rw[<-h0]at h hc hG hl;obtain⟨x0,h1,h2⟩:=gi (P:=P) (cx:=jg cx kp) (kp:=⟨kp.nx,[],[]⟩) h (Cb hc);obtain⟨r',h3,h4⟩:=ny h1;obtain⟨vs0,hH,h',hI⟩:=M1 (ds:=ds) hm (h2 _ env w hG);obtain⟨hb,hJ⟩:=hX.is it hU;have ho: ∀e∈(jg cx kp).ob,e.1<kp.nx:=fun e he=>by
  rcases xaa.1 he with he|he
  ·exact hc.o1 e he
  ·exact hc.o2 e he
 have hr: ∀e∈(jg cx kp).rg,∀o,xZ e.2.2=some o->o<kp.nx:=fun e he o hf=>by
  rcases xaa.1 he with he|he
  ·exact hc.r1 e he o hf
  ·exact hc.r2 e he o hf
 intro a0 g1 g2 g3;refine wpIn_rangeFunc ?_;intro fn hfn;rw[show N.F.round=none from hS];obtain⟨rR,hj⟩: ∃rR:Loop,rR={state:= .ready,pending:=none,fn:=fn,tmps:=a0.tmps,params:= #[pt],assign:=a,body:=c,defers:=w.heap.size}:=⟨_,rfl⟩;obtain⟨rD,hn⟩: ∃rD:Loop,rD={state:= .done,pending:=some (tgC τ),fn:=fn,tmps:=a0.tmps,params:= #[pt],assign:=a,body:=c,defers:=w.heap.size}:=⟨_,rfl⟩;have hL:=run_enterLoop_outer (P:=P) (w:=w) fn a0.tmps #[pt] a c;rw[<-hj]at hL;have hW:St fr.we fr.Se (JD (w.heap.size+1) rR::wC w.heap.size::(Xb (fun j=>vs0 (kp.nx+j)) ds x0 0++(MS vs0 (jg cx kp).ob++(Ds.map wC++fr.F)))) (RS P vs0 env (jg cx kp).rg++(kE P it.dom y cvs++fr.G)) ((w.alloc (.deferred (some []))).alloc (.loop rR)):=by
  have q1:=St.allocObj (o:= .deferred (some [])) (m:=wC w.heap.size) hI (fun k hk=>hk) (fun S w' hw=>hw);have hM:(w.alloc (.deferred (some []))).heap.size=w.heap.size+1:=World.size_alloc ..;refine St.allocObj (o:= .loop rR) (m:=JD (w.heap.size+1) rR) q1 (fun k hk=>by rw[hM];exact hk) (fun S w' hw=> ?_);rw[hM]at hw;exact hw
 have h5:=SQ (x:=x0) hH ho hr hW;have hN:=za4 (P:=P) (cf:=cf) (cx':=jg cx kp) (env:=env) (n:=kp.nx) (D:=w.heap.size) (l:=w.heap.size+1) (ds:=ds) (it:=it) (pt:=pt) (τ:=τ) (a:=a) (c:=c) (N:=N.n) (fn:=fn) (tmps:=a0.tmps) hA hC hP hQ hT g1 g3 hm hZ hl ho hr;rw[<-hj,<-hn]at hN;have hq:=hJ y _ _ _ _ _ x0 r' h3 (w.heap.size+1) cvs (by omega) hN _ fr.we fr.Se _ fr.G _ h5
 have close: ∀(rc:Loop) (x:X4 ds) (u':Value) (w3:World),St fr.we fr.Se (NM P env (jg cx kp) kp.nx ds w.heap.size (w.heap.size+1) rc x u'::(Ds.map wC++fr.F)) fr.G w3->
  w3.heap[w.heap.size+1]? =some (.loop rc)/\ ∀o,uH P (fr.wd (w.heap.size::Ds)) cx (VE ⟨ds,[]⟩ x kp) env (w3.putObj (w.heap.size+1) (.loop o)):=by
  intro rc x u' w3 hs;obtain⟨h6,q1⟩:=LO hs;refine⟨xN q1 (i:=0) rfl fun S hp=>hp,fun o=> ?_⟩;have q2:=St.putObj (m':=JD (w.heap.size+1) o) (o:= .loop o) q1 (fun k=>Iff.rfl) (fun k hk=>hk) (fun S w' hw=>hw);have q3:St fr.we fr.Se ([wC w.heap.size]++(Xb (fun j=>uU u' (kp.nx+j)) ds x 0++(MS (uU u') (jg cx kp).ob++(Ds.map wC++fr.F)))) (RS P (uU u') env (jg cx kp).rg++fr.G) (w3.putObj (w.heap.size+1) (.loop o)):=St.drop (i:=0) q2;refine PX (vs:=uU u') hm h6 (zc6 hm (fun e he=>xap (hc.o1 e he) (xbI _ _)) (fun e he=>xap (hc.o2 e he) (xbI _ _)) (fun e he o hf=>xap (hc.r1 e he o hf) (xbI _ _)) fun e he o hf=>xap (hc.r2 e he o hf) (xbI _ _)) ?_;have e1:MS (uU u') (jg cx kp).ob=MS (uU u') kp.ob++MS (uU u') cx.ob:=xaN;have e2:RS P (uU u') env (jg cx kp).rg=RS P (uU u') env kp.rg++RS P (uU u') env cx.rg:=xaN;rw[e1,e2]at q3;have q4:St fr.we fr.Se ((Xb (fun j=>uU u' (kp.nx+j)) ds x 0++(MS (uU u') kp.ob++MS (uU u') cx.ob))++([wC w.heap.size]++(Ds.map wC++fr.F))) ((RS P (uU u') env kp.rg++RS P (uU u') env cx.rg)++fr.G) (w3.putObj (w.heap.size+1) (.loop o)):=by
   refine q3.perm ?_;rw[<-xak (Xb _ _ _ _)];exact xdD ..
  show St fr.we fr.Se (Xb _ ds x 0++(MS (uU u') kp.ob++(MS (uU u') cx.ob++((wC w.heap.size::Ds.map wC)++fr.F)))) (RS P (uU u') env kp.rg++(RS P (uU u') env cx.rg++fr.G)) _;simpa only[xak,xbN,xbE]using q4
 refine⟨w.heap.size+1,[mkD w.heap.size],((w.alloc (.deferred (some []))).alloc (.loop rR)),{target:= .fn (.func it.f) cvs.toArray,args:= #[.func (.yield (w.heap.size+1)) #[] #[]]},((w.alloc (.deferred (some []))).alloc (.loop rR)),it.f,#[.func (.yield (w.heap.size+1)) #[] #[]]++cvs.toArray,((w.alloc (.deferred (some []))).alloc (.loop rR)),hL,?_,fun _ _=>trivial,?_,fun e=>by simp[Nd.F,xfO]at e,?_⟩
 ·have:a0.eval g= .func (.func it.f) #[] cvs.toArray:=by rw[Ud,g3];exact hD
  simp only[resolve,this];simp[go_sem]
 ·simp[invoke,go_sem,ks hb]
 ·have ht:(#[.func (.yield (w.heap.size+1)) #[] #[]]++cvs.toArray:Array Value)=(Value.func (.yield (w.heap.size+1)) #[] #[]::cvs).toArray:=by simp
  rw[ht];refine CallsIn.mono (callsIn_wide.2 hq) ?_;rintro e w3 ⟨⟨v,rfl⟩,u',hs⟩
  cases hO:r' with
  |inl x=>
   rw[hO]at hs h4;obtain⟨hu,hd⟩:=close rR x u' w3 hs;refine⟨none,_,by have:=run_endLoop (P:=P) hu (by rw[hj];simp);rw[hj]at this;exact this,?_⟩;exact⟨g1,w.heap.size::Ds,by show[mkD w.heap.size]++a0.defers=_;rw[g2];rfl,hK .n _ h4 _ _ _ (by rw[<-g3];exact cq.refl) (by rw[<-g3]at hd;exact hd _)⟩
  |inr x=>
   rw[hO]at hs h4;obtain⟨hu,hd⟩:=close rD x u' w3 hs;refine⟨some (tgC τ),_,by have:=run_endLoop (P:=P) hu (by rw[hn];simp);rw[hn]at this;exact this,?_⟩;have fin: ∀o,zdy N Q (tgE τ) {a0 with defers:=[mkD w.heap.size]++a0.defers} (w3.putObj (w.heap.size+1) (.loop o)):=fun o=>⟨g1,w.heap.size::Ds,by show[mkD w.heap.size]++a0.defers=_;rw[g2];rfl,hK τ _ h4 _ _ _ (by rw[<-g3];exact cq.refl) (by rw[<-g3]at hd;exact hd _)⟩
   cases τ with
   |n=>exact wpIn_skip (fin _)
   |x i=>exact wpIn_exit (fin _)
   |r=>exact wpIn_ret (fin _)
end
end
section
section
variable{P:Program}{cf:Cf}
theorem ZD(hm:P.follows .mixedOrders=true)(hT:zS P cf.tt)(hL:jy P cf.tt)(hC: ∀s∈cf.cs,y5 P s)(hX:pX P cf){n:Nat}: ∀(c:Code),GR n c=true->sF P cf n c
 | .skip,_,R,r,fr,cx,σ,K,Q,N,hN,ha,h,Ds,env,w,hK,hR=>fun _ h1 h2 h3=>wpIn_skip ⟨h1,Ds,h2,h3▸hK .n σ h Ds env w cq.refl hR⟩
 | .label _,_,R,r,fr,cx,σ,K,Q,N,hN,ha,h,Ds,env,w,hK,hR=>fun _ h1 h2 h3=>wpIn_label ⟨h1,Ds,h2,h3▸hK .n σ h Ds env w cq.refl hR⟩
 | .exit id,_,R,r,fr,cx,σ,K,Q,N,hN,ha,h,Ds,env,w,hK,hR=>fun _ h1 h2 h3=>wpIn_exit ⟨h1,Ds,h2,h3▸hK (.x id) σ h Ds env w cq.refl hR⟩
 | .ret,_,R,r,fr,cx,σ,K,Q,N,hN,ha,h,Ds,env,w,hK,hR=>fun _ h1 h2 h3=>wpIn_ret ⟨h1,Ds,h2,h3▸hK .r σ h Ds env w cq.refl hR⟩
 | .scope c,ho,R,r,fr,cx,σ,K,Q,N,hN,ha,h,Ds,env,w,hK,hR=>by
  refine M7 (ZD hm hT hL hC hX c ho (K:=K) hN ha h (fun t σ' hk Ds' env' w' hs hR=> ?_) hR);have:=hK t σ' hk Ds' env' w' hs hR;cases t<;>exact this
 | .region id ops dr,ho,R,r,fr,cx,σ,K,Q,N,hN,ha,h,Ds,env,w,hK,hR=>by
  subst hN;refine zeq ?_;have:=PS (id:=id) (N:=N.wd Ds) (fr:=fr.wd Ds) hm hT hL hC hX (Q:=fun e env w=>Q e Ds env w) (k:=fun σ=>K .n σ) (fun σ' hk env' w' hs hR=>hK .n σ' hk Ds env' w' hs hR) ho h hR;rwa[xde]at this
 | .cond c a b,ho,R,r,fr,cx,σ,K,Q,N,hN,ha,h,Ds,env,w,hK,hR=>by
  have ho:=(xam _ _).mp ho;have hd:N.rd=none\/BA a=true:=ha.imp id fun h=>((xam _ _).mp h).1;have hf:N.rd=none\/BA b=true:=ha.imp id fun h=>((xam _ _).mp h).2;simp only[Um]at h;obtain⟨hB,vs,ht⟩:=hR;have hR:uH P (fr.wd Ds) cx σ env w:=⟨hB,vs,ht⟩;obtain⟨S,_,hΓ⟩:=ht.ex;split at h
  ·next hv=>exact mx (zk hv (zW hΓ c)) (ZD hm hT hL hC hX a ho.1 hN hd h hK hR)
  ·next hv=>exact pA (zk hv (zW hΓ c)) (ZD hm hT hL hC hX b ho.2 hN hf h hK hR)
  ·next x hv=>
   have hx:ev env c= .bool x:=bK (zk hv (zW hΓ c));rcases EU h with⟨rfl,h⟩|⟨rfl,h⟩
   ·exact mx hx (ZD hm hT hL hC hX a ho.1 hN hd h hK hR)
   ·exact pA hx (ZD hm hT hL hC hX b ho.2 hN hf h hK hR)
  ·cases h
 | .block id c,ho,R,r,fr,cx,σ,K,Q,N,hN,ha,h,Ds,env,w,hK,hR=>by
  refine sN (ZD hm hT hL hC hX c ho (K:=fun t σ=>match t with
   | .x j=>HO (xan j id) (K .n σ) (K (.x j) σ)
   |t=>K t σ) hN ha h (fun t σ' hk Ds' env' w' hs hR=> ?_) hR)
  cases t with
  |n=>exact hK .n σ' hk Ds' env' w' hs hR
  |r=>exact hK .r σ' hk Ds' env' w' hs hR
  |x j=>
   simp only at hk;show BB id Q (.exit j) Ds' env' w';simp only[BB];cases hb:xan j id<;>rw[hb]at hk
   ·exact hK (.x j) σ' hk Ds' env' w' hs hR
   ·exact hK .n σ' hk Ds' env' w' hs hR
 | .seq a b,ho,R,r,fr,cx,σ,K,Q,N,hN,ha,h,Ds,env,w,hK,hR=>by
  have ho:=(xam _ _).mp ho;have hd:N.rd=none\/BA a=true:=ha.imp id fun h=>((xam _ _).mp h).1;have hf:N.rd=none\/BA b=true:=ha.imp id fun h=>((xam _ _).mp h).2;simp only[Um]at h;split at h
  ·refine iY (ZD hm hT hL hC hX a ho.1 hN hd h (fun t σ' hk Ds' env' w' hs hR=> ?_) hR)
   cases t with
   |n=>exact ZD hm hT hL hC hX b ho.2 hN hf hk (fun t σ2 hi Ds2 env2 w2 hj hn=>hK t σ2 hi Ds2 env2 w2 (hs.trans hj) hn) hR
   |x j=>exact hK (.x j) σ' hk Ds' env' w' hs hR
   |r=>exact hK .r σ' hk Ds' env' w' hs hR
  ·next s hs=>
   obtain⟨x,h1,h2⟩:=ny h;obtain⟨hc,hp⟩:=oe (ag:=pT a) (ro:=s.ro) hR
   refine iY (Sm (ZD hm hT hL hC hX a ho.1 (Q:=fun e Ds env' w=> ∃t σt,e=tgE t/\(match t with
    | .n=>Um cf b cx σt K
    |t=>K t σt)=some r/\cq cx env env'/\uH P (fr.wd Ds) cx σt env' w) hN hd h1 (fun t σ' hk Ds' env' w' hs hR=> ?_) hp) ?_)
   ·obtain⟨y,σt,e1,e2,e3⟩:=LD (P:=P) hc hk;cases e1
    have e4:=(e2 fun t σ=>match t with
     | .n=>Um cf b cx σ K
     |t=>K t σ).symm.trans h2
    exact⟨t,σt,rfl,by cases t<;>exact e4,fun e he=>hs e (xaa.2 (.inr he)),e3 _ env' w' hR⟩
   ·rintro e Ds' env' w' ⟨t,σt,rfl,hk,hq,hR⟩
    cases t with
    |n=>exact ZD hm hT hL hC hX b ho.2 hN hf hk (fun t σ2 hi Ds2 env2 w2 hj hn=>hK t σ2 hi Ds2 env2 w2 (hq.trans hj) hn) hR
    |x j=>exact hK (.x j) σt hk Ds' env' w' hq hR
    |r=>exact hK .r σt hk Ds' env' w' hq hR
 | .loop c,ho,R,r,fr,cx,σ,K,Q,N,hN,ha,h,Ds,env,w,hK,hR=>by
  simp only[Um]at h;split at h
  ·cases h
  ·next s hs=>
   obtain⟨hc,hp⟩:=oe (ag:=pT c) (ro:=s.sg.ro) hR;obtain⟨x,h1,h2⟩:=gi (P:=P) (cx:=jg cx (keep σ (pT c) s.sg.ro)) (kp:=⟨(keep σ (pT c) s.sg.ro).nx,[],[]⟩) h (Cb hc);obtain⟨s0,h3,h4⟩:=ny h1;refine DK (G:=Nat×X4 s.hd.ds) (fun g Ds env' w=>zj _ g.1 g.2=some s0/\cq cx env env'/\uH P (fr.wd Ds) (jg cx (keep σ (pT c) s.sg.ro)) (VE s.hd g.2 ⟨(keep σ (pT c) s.sg.ro).nx,[],[]⟩) env' w) (fun g=>g.1) (cf.fu,x) ⟨h3,cq.refl,h2 _ env w hp⟩ ?_;rintro⟨n',x⟩ Ds env1 w ⟨hl,hA,hR⟩
   cases n' with
   |zero=>exact(LA hl).elim
   |succ n'=>
    refine ZD hm hT hL hC hX c ho hN ha (Mb hl) (fun t σ' hk Ds' env' w' hs hR=> ?_) hR;have hu:cq cx env env':=hA.trans fun e he=>hs e (xaa.2 (.inr he));have fin:(∀(y:SmD s.sg.tg) (σt:Sg),some y=some s0->(∀{R':Type} (K:Tg->Sg->Option R'),Gv (keep σ (pT c) s.sg.ro) K s.sg.tg y=K t σt)->uH P (fr.wd Ds') cx σt env' w'->Q (tgE t) Ds' env' w'):=fun y σt e1 e2 e3=>by
     cases e1;exact hK t σt (by rw[<-h4];exact(e2 K).symm) Ds' env' w' hu e3
    cases t with
    |n=>
     obtain⟨x',h5,h6⟩:=gi (P:=P) (cx:=jg cx (keep σ (pT c) s.sg.ro)) (kp:=⟨(keep σ (pT c) s.sg.ro).nx,[],[]⟩) hk (Cb hc);exact⟨(n',x'),⟨h5,hu,h6 _ env' w' hR⟩,xbV n'⟩
    |x j=>
     obtain⟨y,σt,e1,e2,e3⟩:=LD (P:=P) hc hk;exact fin y σt e1 e2 (e3 _ env' w' hR)
    |r=>
     obtain⟨y,σt,e1,e2,e3⟩:=LD (P:=P) hc hk;exact fin y σt e1 e2 (e3 _ env' w' hR)
 | .rangeFunc g ps a c,ho,R,r,fr,cx,σ,K,Q,N,hN,ha,h,Ds,env,w,hK,hR=>by
  have ho:=(xam _ _).mp ho;have hw:=(xam _ _).mp ho.2;simp only[Um]at h;split at h
  ·next f cs s pt hg hs hI=>
   split at h
   ·next it τ sh hD hJ hE=>
    split at h
    ·next y hy=>
     obtain⟨hr,h⟩:=yh h;rw[xam]at hr;obtain⟨hF,hG⟩:=O6 hD;subst hG;have hz:ps= #[pt]:=by cases ps;simp_all
     subst hz;have hH:pt<n:=by
      have:=ho.1;simpa using this
     subst hN;exact zbm hX (ZD hm hT hL hC hX a hw.1) (ZD hm hT hL hC hX c hw.2) hr.1 hr.2 (ha.resolve_right (by simp[BA])) hH hg hF hy hE h hK hR
    ·cases h
   ·cases h
  ·cases h
 | .refuse _,_,R,r,fr,cx,σ,K,Q,N,hN,ha,h,_,_,_,_,_=>by cases h
 | .goto _,_,R,r,fr,cx,σ,K,Q,N,hN,ha,h,_,_,_,_,_=>by cases h
end
end
section
def qc:List Nat->World->World
 |[],w=>w
 |D::Ds,w=>qc Ds (w.putObj D (.deferred none))
def mj:List Nat->World->Prop
 |[],_=>True
 |D::Ds,w=>w.heap[D]? =some (.deferred (some []))/\mj Ds (w.putObj D (.deferred none))
def mTk(D:Nat):MF where
 blk k:=k=D
 p _ w:=w.heap[D]? =some (.deferred none)
 keep h _ hb:=(hb D rfl).trans h
 sub h _:=h
 lt h k hk:=by subst hk;exact(xbj.1 h).1
section
variable{P:Program}{cf:Cf}{fr:Fr}{cx σ:Sg}{env:yM}
theorem WH: ∀{Ds:List Nat} {w:World},uH P (fr.wd Ds) cx σ env w->mj Ds w/\uH P fr cx σ env (qc Ds w)
 |[],w,h=>⟨trivial,h⟩
 |D::Ds,w,h=>by
  have h1:w.heap[D]? =some (.deferred (some [])):=CH h (m:=wC D) (FS) fun S hp=>hp;have h2:=CA (A:=[]) (m:=wC D) (m':=mTk D) (B:=Ds.map wC++fr.F) h (fun k=>Iff.rfl) (fun k h=>h) (o:= .deferred none) fun S w' h=>h;have h3:uH P (fr.wd Ds) cx σ env (w.putObj D (.deferred none)):=by
   obtain⟨hB,vs,ha⟩:=h2;refine⟨hB,vs,?_⟩;have h4:St fr.we fr.Se ((MS vs σ.ob++MS vs cx.ob)++([mTk D]++(Ds.map wC++fr.F))) (RS P vs env σ.rg++(RS P vs env cx.rg++fr.G)) (w.putObj D (.deferred none)):=by
    have:St fr.we fr.Se (MS vs σ.ob++(MS vs cx.ob++([]++mTk D::(Ds.map wC++fr.F)))) (RS P vs env σ.rg++(RS P vs env cx.rg++fr.G)) (w.putObj D (.deferred none)):=ha;simpa only[xak,xbE,xfq]using this
   have h5:=St.dropM h4;show St fr.we fr.Se (MS vs σ.ob++(MS vs cx.ob++(Ds.map wC++fr.F))) (RS P vs env σ.rg++(RS P vs env cx.rg++fr.G)) _;simpa only[xak]using h5
  obtain⟨h4,h5⟩:=WH h3;exact⟨⟨h1,h4⟩,h5⟩
theorem J7{F:Fence}{n:Nat}{fn:Func}{tmps:Array Value}{Q:Ending->World->Prop}: ∀{Ds:List Nat} {w:World},mj Ds w->(∃v,(results fn tmps).run P (qc Ds w)= .ok v (qc Ds w)/\Q (.returned v) (qc Ds w))->LeavesInM F n P fn tmps Q (Ds.map mkD) .returning w
 |[],w,_,h=>h
 |D::Ds,w,hm,h=>⟨by simp,.inl ⟨D,_,rfl,run_takeDeferred hm.1,J7 hm.2 h⟩⟩
theorem Qm{f:FuncId}{fn:Func}{c:Code}{args:List Value}{w:World}{Q:Ending->World->Prop}(hf:P.funcs[f]? =some fn)(hb:fn.body=some c)(hn:xfN args.length fn.ntmps=true)
 (h: ∀rest,Ar P (Nd.of fn.ntmps) c (fun e Ds env w=>(e= .normal\/e= .ret)/\mj Ds w/\ ∀a:Act,yu a=env-> ∃v,(results fn a.tmps).run P (qc Ds w)= .ok v (qc Ds w)/\Q (.returned v) (qc Ds w)) [] (L ((args.zipIdx 0).map fun x=>(x.2,x.1)) rest) w):
 Calls P f args.toArray w Q:=by
 have hn:=xbH hn;refine callsIn_wide.1 (callsIn_of_wp_marks (n:=0) hf hb trivial ?_);have ha:Vw (yu ⟨args.toArray++xen (fn.ntmps-args.toArray.size) undef,[]⟩) ((args.zipIdx 0).map fun x=>(x.2,x.1)):=by
  refine aK args 0 _ fun j=> ?_;rw[oZ];simp[xbl,UV]
 refine wpIn_mono (h _ _ (by simp[Nd.of];omega) rfl (QE ha).symm) ?_;rintro e a' w' ⟨q1,Ds,q2,he,hm,hv⟩;obtain⟨v,h1,h2⟩:=hv a' rfl;rcases he with rfl|rfl
 ·show LeavesInM _ _ P fn a'.tmps Q a'.defers .returning w';rw[q2];exact J7 hm ⟨v,h1,h2⟩
 ·show LeavesInM _ _ P fn a'.tmps Q a'.defers .returning w';rw[q2];exact J7 hm ⟨v,h1,h2⟩
end
end
section
section
variable{P:Program}{cf:Cf}{fr:Fr}{σ:Sg}{vs:Nat->Value}{env:yM}{w:World}{R:Type}{r:R}
theorem Dn{rest:yM}: ∀{l:List Value} {i j:Nat} {v:Value},l[j]? =some v->L ((l.zipIdx i).map fun x=>(x.2,x.1)) rest (i+j)=v
 |a::l,i,0,v,h=>by
  simp only[xbz,xaw]at h;simp[L,h]
 |a::l,i,j+1,v,h=>by
  simp only[List.zipIdx_cons,xbP,L];rw[zaj (show i+(j+1)≠i by omega)];have:=Dn (rest:=rest) (l:=l) (i:=i+1) (j:=j) (v:=v) (by simpa using h);rw[show i+1+j=i+(j+1)by omega]at this;exact this
theorem HY: ∀{dom:List AM} {x:JW dom} {i:Nat} {l:List Value},l.length=dom.length->(∀j v,l[j]? =some v->vs (i+j)=v)->MS vs (XV dom x i).2=YM dom x l
 |[],_,_,_,_,_=>rfl
 |a::dom,x,i,[],hl,_=>by cases hl
 |a::dom,x,i,v::l,hl,h=>by
  have ih:MS vs (XV dom x.2 (i+1)).2=YM dom x.2 l:=HY (by simpa using hl) fun j v hj=>by
   have:=h (j+1) v (by simpa using hj);rw[<-this];congr 1;omega
  have h0:vs i=v:=h 0 v rfl
  cases a with
  |own t E=>
   show mO t.rep E (vs i) x.1::MS vs (XV dom x.2 (i+1)).2=mO t.rep E v x.1::YM dom x.2 l;rw[ih,h0]
  |_=>exact ih
theorem If{S:Nat->Prop}: ∀{dom:List AM} {x:JW dom} {i:Nat} {l:List Value},l.length=dom.length->(∀j v,l[j]? =some v->vs (i+j)=v/\env (i+j)=v)->zz S (kE P dom x l) w->zz S (RS P vs env (XV dom x i).1) w
 |[],_,_,_,_,_,_=>trivial
 |a::dom,x,i,[],hl,_,_=>by cases hl
 |a::dom,x,i,v::l,hl,h,hA=>by
  have ih:zz S (RS P vs env (XV dom x.2 (i+1)).1) w:=If (l:=l) (by simpa using hl) (fun j v hj=>by
   have:=h (j+1) v (by simpa using hj);rw[show i+1+j=i+(j+1)by omega];exact this) hA.2
  have h0:vs i=v/\env i=v:=h 0 v rfl;have ha:(amF P a x.1 v).p S w:=hA.1
  cases a with
  |d t=>exact⟨show(fV t.rep x.1 (env i)).p S w by rw[h0.2];exact ha,ih⟩
  |q t=>exact⟨show(fP t.rep x.1 (env i)).p S w by rw[h0.2];exact ha,ih⟩
  |own t E=>exact⟨show env i=vs i by rw[h0.1,h0.2],ih⟩
  |fn dom' cod'=>exact⟨show(fnF P dom' cod' x.1 (env i)).p S w by rw[h0.2];exact ha,ih⟩
theorem La: ∀{dom:List AM} {x:JW dom} {i:Nat},∀e∈(XV dom x i).2,e.1<i+dom.length
 |[],_,_,e,he=>absurd he Nm
 |a::dom,x,i,e,he=>by
  have ih: ∀e∈(XV dom x.2 (i+1)).2,e.1<i+(a::dom).length:=fun e he=>by
   have:=La e he;simp only[xav];omega
  cases a with
  |own t E=>
   rcases xad.1 (show e∈(i,Od.own t E x.1)::(XV dom x.2 (i+1)).2 from he)with rfl|he
   ·simp only[xav];omega
   ·exact ih e he
  |_=>exact ih e he
theorem BO: ∀{dom:List AM} {x:JW dom} {i:Nat},∀e∈(XV dom x i).1,∀p,xZ e.2.2=some p->p<i+dom.length
 |[],_,_,e,he=>absurd he Nm
 |a::dom,x,i,e,he=>by
  intro p hp;have ih: ∀e∈(XV dom x.2 (i+1)).1,∀p,xZ e.2.2=some p->p<i+(a::dom).length:=fun e he p hp=>by
   have:=BO e he p hp;simp only[xav];omega
  cases a with
  |own t E=>
   rcases xad.1 (show e∈(i,0,Dv.ow i)::(XV dom x.2 (i+1)).1 from he)with rfl|he
   ·cases hp;simp only[xav];omega
   ·exact ih e he p hp
  |d t=>
   rcases xad.1 (show e∈(i,0,Dv.d t x.1)::(XV dom x.2 (i+1)).1 from he)with rfl|he
   ·cases hp
   ·exact ih e he p hp
  |q t=>
   rcases xad.1 (show e∈(i,0,Dv.q t x.1)::(XV dom x.2 (i+1)).1 from he)with rfl|he
   ·cases hp
   ·exact ih e he p hp
  |fn d c=>
   rcases xad.1 (show e∈(i,0,Dv.fp d c x.1)::(XV dom x.2 (i+1)).1 from he)with rfl|he
   ·cases hp
   ·exact ih e he p hp
theorem Kk: ∀(l:List ResultVar) (ms:List RM) {σ:Sg},uH P fr ⟨0,[],[]⟩ σ env w->uH P fr ⟨0,[],[]⟩ (J5 σ l ms) env w
 |[],_,_,h=>by unfold J5;exact h
 | .tmp t::l,[],_,h=>by unfold J5;exact h
 | .tmp t::l,.d _::ms,_,h=>by unfold J5;exact Kk l ms (AV _ h)
 | .tmp t::l,.own _ _::ms,_,h=>by unfold J5;exact Kk l ms h
 | .cell t E::l,[],_,h=>by unfold J5;exact h
 | .cell t E::l,m::ms,_,h=>by unfold J5;exact Kk l ms h
theorem TS(hT:zS P cf.tt){rv:ResultVar}{m:RM}{k:m.D->List Nat->Option R}(h:CZ cf σ rv m k=some r): ∃x os,k x os=some r/\
 ∀vs (fr:Fr) env (A:List MF) (Γ:List FF) w (os':List Nat),(∀S w,zz S Γ w-> ∀t,Lk P vs env S w ⟨0,[],[]⟩ σ t)->(∀o∈os,aN os' o=false)->St fr.we fr.Se (A++OS vs fr ⟨0,[],[]⟩ (wU σ.ob os')) Γ w->
  ∃v,zcp P w env rv v/\St fr.we fr.Se (rmM m x v++(A++OS vs fr ⟨0,[],[]⟩ (wU σ.ob (os++os')))) (rmF m x v++Γ) w:=by
 cases rv with
 |tmp t=>
  cases m with
  |d s=>
   simp only[CZ]at h;have hc:=h;obtain⟨y,h,hy⟩:=SE h;refine⟨y,[],h,fun vs fr env A Γ w os' hl _ ha=>⟨env t,rfl,?_⟩⟩;refine ha.weak fun S w hΓ=>⟨?_,hΓ⟩
   cases hg:get ⟨0,[],[]⟩ σ t 0 with
   |none=>rw[hg]at hc;cases hc
   |some v=>exact hy P vs S w v _ hg (hl S w hΓ t 0 v hg)
  |own s E=>
   simp only[CZ]at h;obtain⟨x,os,h1,_,h2,h3⟩:=GQ h;refine⟨x,os,h1,fun vs fr env A Γ w os' hl hn ha=>⟨env t,rfl,?_⟩⟩;exact h3 P vs fr env A Γ w os' (fun S w hΓ=>hl S w hΓ t) hn ha
 |cell t E=>
  cases m with
  |own s E'=>simp only[CZ]at h;cases h
  |d s=>
   simp only[CZ]at h;split at h
   ·next o s0 ti hg he=>
    split at h
    ·next s' E' z ho=>
     obtain⟨hE,h1⟩:=yh h;have hE:=z8 hE;subst hE;obtain⟨e,h2⟩:=yi h1;cases e;obtain⟨e,h3⟩:=yi h2;cases e;refine⟨_,[o],h3,fun vs fr env A Γ w os' hl hn ha=> ?_⟩;have hp:=kg (vs:=vs) (fr:=fr) (cx:=⟨0,[],[]⟩) ((jW (hn o (FS))).trans ho);have h3:=St.mid (St.perm ha (xbZ _ hp));obtain⟨S,_,hΓ⟩:=ha.ex;obtain⟨hv,b,hb⟩:=hl S w hΓ t 0 _ hg;obtain⟨⟨zero,ht,_⟩,_⟩:=hT E ti he;have h4:St fr.we fr.Se (mP ti.ty.rep.c E (vs o) z::(A++OS vs fr ⟨0,[],[]⟩ (yD (wU σ.ob os') o))) Γ w:=h3;obtain⟨b',hd,h5⟩:=h4.openP 0 rfl;rw[hb]at hd;cases hd;refine PC 0 h5 rfl (hv.trans hb) ht fun v hs hr=>⟨v,hr,?_⟩;exact St.drop (i:=0) hs
    ·cases h
   ·cases h
theorem IY(hT:zS P cf.tt): ∀{rvs:List ResultVar} {cod:List RM} {k:aX cod->List Nat->Option R},Ep cf σ rvs cod k=some r-> ∃x os,k x os=some r/\
 ∀vs (fr:Fr) env (Γ:List FF) w,(∀S w,zz S Γ w-> ∀t,Lk P vs env S w ⟨0,[],[]⟩ σ t)->St fr.we fr.Se (OS vs fr ⟨0,[],[]⟩ σ.ob) Γ w->
  ∃us,us.length=cod.length/\Kz P w env rvs us/\St fr.we fr.Se (uA cod x us++OS vs fr ⟨0,[],[]⟩ (wU σ.ob os)) (uD cod x us++Γ) w
 |[],[],k,h=>⟨(),[],h,fun vs fr env Γ w _ ha=>⟨[],rfl,trivial,ha⟩⟩
 |[v],[m],k,h=>by
  obtain⟨x,os,h1,h2⟩:=TS hT (h:CZ cf σ v m k=some r);refine⟨x,os,h1,fun vs fr env Γ w hl ha=> ?_⟩;obtain⟨u,h3,h4⟩:=h2 vs fr env [] Γ w [] hl (fun _ _=>rfl) ha;rw[xbK]at h4;exact⟨[u],rfl,⟨h3,trivial⟩,h4⟩
 |v::v'::rvs,m::m'::ms,k,h=>by
  obtain⟨x,o,h1,h2⟩:=TS hT (h:CZ cf σ v m _=some r);obtain⟨y,os,h3,h4⟩:=IY hT h1;obtain⟨hn,h3⟩:=yh h3;refine⟨(x,y),o++os,h3,fun vs fr env Γ w hl ha=> ?_⟩;obtain⟨us,h5,h6,h7⟩:=h4 vs fr env Γ w hl ha;obtain⟨u,h8,h9⟩:=h2 vs fr env (uA (m'::ms) y us) (uD (m'::ms) y us++Γ) w os (fun S w hΓ=>hl S w (zz.right hΓ)) (BU hn) h7;refine⟨u::us,by simpa using h5,⟨h8,h6⟩,?_⟩;show St _ _ ((rmM m x u++uA (m'::ms) y us)++_) ((rmF m x u++uD (m'::ms) y us)++Γ) w;rw[xak,xak];exact h9
 |[],_::_,_,h=>by cases h
 |[_],[],_,h=>by cases h
 |[_],_::_::_,_,h=>by cases h
 |_::_::_,[],_,h=>by cases h
 |_::_::_,[_],_,h=>by cases h
theorem IM(hm:P.follows .mixedOrders=true)(hT:zS P cf.tt)(hL:jy P cf.tt)(hC: ∀s∈cf.cs,y5 P s)(hX:pX P cf){s:W1}{fn:Func}
 (hf:P.funcs[s.f]? =some fn) (hb:pW P s.f=true) (hk:s.bk=0) (hM: ∀x r,s.M x=some r->H8 cf fn s.dom s.cod x=some r):y5 P s:=by
 refine⟨hb,fun x r h vs hd=> ?_⟩;rw[hk];show MO P s.f vs.toArray (YM s.dom x vs) (kE P s.dom x vs) ZH (fun us=>uA s.cod r us) (fun us=>uD s.cod r us) (fun us=>us.length=s.cod.length);have h:=hM x r h;unfold H8 at h;split at h
 ·next c hc=>
  obtain⟨ho,h⟩:=yh h;rw[xam]at ho;intro we Se F G w hg;refine Qm hf hc (by rw[hd];exact ho.2) fun rest=> ?_;refine ZD (fr:=⟨we,Se,F,G⟩) (N:=Nd.of fn.ntmps) hm hT hL hC hX c ho.1 rfl (.inl rfl) h (fun t σ' hk Ds env w _ hR=> ?_) ?_
  ·obtain⟨hi,hR⟩:=WH hR
   have fin:Ep cf (J5 σ' fn.results.toList s.cod) fn.results.toList s.cod (fun y _=>some y)=some r-> ∀a:Act,yu a=env->
    ∃v,(results fn a.tmps).run P (qc Ds w)= .ok v (qc Ds w)/\ ∃u:List Value,xer v= .returned (ZH u)/\u.length=s.cod.length/\St we Se (uA s.cod r u++F) (uD s.cod r u++G) (qc Ds w):=fun h a ha=>by
    have hl:=Kk fn.results.toList s.cod hR;generalize J5 σ' fn.results.toList s.cod=σ1 at h hl;obtain⟨hB,vs,hg⟩:=hl;obtain⟨y,os,e1,e2⟩:=IY hT h;cases e1;obtain⟨us,h1,h2,h3⟩:=e2 vs ⟨we,Se,F,G⟩ env _ _ (fun S w hΓ t=>ZE hΓ t) hg;refine⟨_,YP (rs:=fn.results.toList) (by rw[xde]) (ha▸h2),us,rfl,h1,?_⟩;exact(St.dropM (B:=MS vs (wU σ1.ob os)) h3).weak fun S w hΓ=>zz.append (zz.left hΓ) (zz.right (zz.right hΓ))
   cases t with
   |n=>exact⟨.inl rfl,hi,fin hk⟩
   |r=>exact⟨.inr rfl,hi,fin hk⟩
   |x j=>cases hk
  ·have e0: ∀j v,vs[j]? =some v->vs.getD (0+j) undef=v:=fun j v hj=>by rw[xaS,UV,hj];rfl
   refine⟨⟨fun e he=> ?_,fun _ he=>absurd he Nm,fun e he p hp=> ?_,fun _ he=>absurd he Nm⟩,fun o=>vs.getD o undef,?_⟩
   ·have:=La e he;simpa using this
   ·have:=BO e he p hp;simpa using this
   ·have e1:MS (fun o=>vs.getD o undef) (XV s.dom x 0).2=YM s.dom x vs:=HY hd e0;show St we Se (MS _ (XV s.dom x 0).2++([]++F)) _ w;rw[e1];exact hg.weak fun S w hΓ=>zz.append (If hd (fun j v hj=>⟨e0 j v hj,Dn hj⟩) (zz.left hΓ)) (zz.right hΓ)
 ·cases h
theorem Ri{S:Nat->Prop}{pn:Nat->Value}: ∀{dom:List AM} {i:Nat},(∀j,j<dom.length->env (i+j)=pn (i+j))->zz S (RS P vs env (C1 pn dom i)) w
 |[],_,_=>trivial
 |a::dom,i,h=>by
  have ih:zz S (RS P vs env (C1 pn dom (i+1))) w:=Ri fun j hj=>by
   have:=h (j+1) (by simp only[xav];omega);rw[show i+1+j=i+(j+1)by omega];exact this
  cases a with
  |own t E=>exact⟨h 0 (by simp),ih⟩
  |_=>exact ih
theorem cd{S:Nat->Prop}{l:List Value}: ∀{dom:List AM} {i:Nat} {us:List Value},zz S (RS P vs env (C1 (fun o=>l.getD o undef) dom i)) w->Kz P w env (B5 dom i) us->us=J9 dom (l.drop i)
 |[],_,[],_,_=>rfl
 |[],_,_::_,_,h=>h.elim
 |a::dom,i,us,hA,h=>by
  have e0:(l.drop i).headD undef=l.getD i undef:=by rw[List.headD_eq_head?_getD,List.head?_drop,UV]
  have e1:(l.drop i).tail=l.drop (i+1):=by rw[List.tail_drop]
  cases a with
  |own t E=>
   cases us with
   |nil=>exact h.elim
   |cons u us=>
    have h1:env i=u:=h.1;have h2:env i=l.getD i undef:=hA.1;have ih:=cd (dom:=dom) (i:=i+1) hA.2 h.2;show u::us=(l.drop i).headD undef::J9 dom (l.drop i).tail;rw[e0,e1,<-ih,<-h1,h2]
  |d t=>
   have ih:=cd (dom:=dom) (i:=i+1) hA h;show us=J9 dom (l.drop i).tail;rw[e1];exact ih
  |q t=>
   have ih:=cd (dom:=dom) (i:=i+1) hA h;show us=J9 dom (l.drop i).tail;rw[e1];exact ih
  |fn d c=>
   have ih:=cd (dom:=dom) (i:=i+1) hA h;show us=J9 dom (l.drop i).tail;rw[e1];exact ih
theorem lY: ∀{a b:List ResultVar} {us:List Value},Kz P w env (a++b) us->Kz P w env a (us.take a.length)/\Kz P w env b (us.drop a.length)
 |[],b,us,h=>⟨trivial,h⟩
 |r::a,b,[],h=>h.elim
 |r::a,b,u::us,h=>by
  obtain⟨h1,h2⟩:=lY (a:=a) (b:=b) h.2;exact⟨⟨h.1,h1⟩,h2⟩
theorem de{pn:Nat->Value}: ∀{dom:List AM} {i:Nat},∀e∈C1 pn dom i,xZ e.2.2=none
 |[],_,e,he=>absurd he Nm
 |a::dom,i,e,he=>by
  cases a with
  |own t E=>
   rcases xad.1 (show e∈(i,0,Dv.pin (pn i))::C1 pn dom (i+1)from he)with rfl|he
   ·rfl
   ·exact de e he
  |d t=>exact de (dom:=dom) (i:=i+1) e he
  |q t=>exact de (dom:=dom) (i:=i+1) e he
  |fn d c=>exact de (dom:=dom) (i:=i+1) e he
theorem zdZ(hm:P.follows .mixedOrders=true)(hT:zS P cf.tt)(hL:jy P cf.tt)(hC: ∀s∈cf.cs,y5 P s)(hX:pX P cf){s:W1}{fn:Func}
 (hf:P.funcs[s.f]? =some fn) (hb:pW P s.f=true) (hM: ∀pn x r,s.M x=some r->zcd cf fn s.dom s.cod s.bk pn x=some r):y5 P s:=by
 refine⟨hb,fun x r h vs hd=> ?_⟩;have h:=hM (fun o=>vs.getD o undef) x r h;unfold zcd at h;split at h
 ·next c hc=>
  obtain⟨ho,h⟩:=yh h;simp only[xam]at ho;obtain⟨⟨⟨⟨hx,hy⟩,hq⟩,hE⟩,hr⟩:=ho;have hq:=z8 hq;have hr:0<s.bk:=Nat.blt_eq.mp hr;obtain⟨b,hz⟩: ∃b,s.bk=b+1:=⟨s.bk-1,by omega⟩;rw[hz];intro we Se F G w hl;refine Qm hf hc (by rw[hd];exact hy) fun rest=> ?_;have e0: ∀j v,vs[j]? =some v->vs.getD (0+j) undef=v:=fun j v hj=>by rw[xaS,UV,hj];rfl
  refine ZD (fr:=⟨we,Se,F,G⟩) (N:=Nd.of fn.ntmps) hm hT hL hC hX c hx rfl (.inl rfl) h (fun t σ' hk Ds env w _ hR=> ?_) ?_
  ·obtain⟨hs,hR⟩:=WH hR
   have fin:Ep cf (J5 σ' (fn.results.toList++B5 s.dom 0) s.cod) (fn.results.toList++B5 s.dom 0) s.cod (fun y _=>some y)=some r-> ∀a:Act,yu a=env->
    ∃v,(results fn a.tmps).run P (qc Ds w)= .ok v (qc Ds w)/\ ∃u:List Value,xer v= .returned (zhW (b+1) s.cod.length u)/\zdx s.dom vs (b+1) s.cod.length u/\St we Se (uA s.cod r u++F) (uD s.cod r u++G) (qc Ds w):=fun h a ha=>by
    obtain⟨ht,vs0,hi⟩:=hR;obtain⟨S0,_,hA⟩:=hi.ex;have hu:zz S0 (RS P vs0 env (C1 (fun o=>vs.getD o undef) s.dom 0)) _:=zz.left (zz.right hA);have hD:uH P ⟨we,Se,F,G⟩ ⟨0,[],[]⟩ σ' env (qc Ds w):=⟨⟨ht.o1,fun _ he=>absurd he Nm,ht.r1,fun _ he=>absurd he Nm⟩,vs0,hi.weak fun S w ha=>zz.append (zz.left ha) (zz.right (zz.right ha))⟩;have hv:=Kk (fn.results.toList++B5 s.dom 0) s.cod hD;generalize J5 σ' (fn.results.toList++B5 s.dom 0) s.cod=σ1 at h hv;obtain⟨hB,vs1,hl⟩:=hv;obtain⟨y,os,e1,e2⟩:=IY hT h;cases e1;obtain⟨us,h1,h2,h3⟩:=e2 vs1 ⟨we,Se,F,G⟩ env _ _ (fun S w hΓ t=>ZE hΓ t) hl;obtain⟨h4,h5⟩:=lY h2;have hn:s.cod.length-(b+1)=fn.results.toList.length:=by omega
    have hg:=cd hu h5;rw[List.drop_zero]at hg;refine⟨_,YP (rs:=fn.results.toList) (by rw[xde]) (ha▸h4),us,?_,⟨h1,by rw[hn];exact hg⟩,?_⟩
    ·show xer _= .returned (ZH (us.take (s.cod.length-(b+1))));rw[hn]
    ·exact(St.dropM (B:=MS vs1 (wU σ1.ob os)) h3).weak fun S w hΓ=>zz.append (zz.left hΓ) (zz.right (zz.right hΓ))
   cases t with
   |n=>exact⟨.inl rfl,hs,fin hk⟩
   |r=>exact⟨.inr rfl,hs,fin hk⟩
   |x j=>cases hk
  ·refine⟨⟨fun e he=> ?_,fun _ he=>absurd he Nm,fun e he p hp=> ?_,fun e he p hp=> ?_⟩,fun o=>vs.getD o undef,?_⟩
   ·have:=La e he;simpa using this
   ·have:=BO e he p hp;simpa using this
   ·rw[de e he]at hp;cases hp
   ·have e1:MS (fun o=>vs.getD o undef) (XV s.dom x 0).2=YM s.dom x vs:=HY hd e0;show St we Se (MS _ (XV s.dom x 0).2++([]++F)) _ w;rw[e1];refine hl.weak fun S w hΓ=>zz.append (If hd (fun j v hj=>⟨e0 j v hj,Dn hj⟩) (zz.left hΓ)) (zz.append (Ri fun j hj=> ?_) (zz.right hΓ));have hw:vs[j]? =some (vs[j]'(by omega)):=IR (by omega);show L _ _ (0+j)=vs.getD (0+j) undef;rw[e0 j _ hw];exact Dn hw
 ·cases h
end
end
end Go.Proofs.YtmggkmchbdanfaaGreat
