/- What a proof needs: rules of walking, mirrors of functions and their plain laws. No condition. -/
import Derived.Test.YtmggkmchbdanfaaGreatZr2
import Derived.RangeFuncLeaves
set_option linter.unusedVariables false
set_option linter.unusedSimpArgs false
namespace Go.Proofs.YtmggkmchbdanfaaGreat
open Bool renaming and_eq_true->xao,false_eq_true->xak,false_or->xej,not_eq_true'->xdn,not_true->xdM,or_eq_true->xdY
open Deferred renaming ofValue->xdJ
open Ending renaming returned->xeA
open Extern renaming find->xeV,findNext->xey
open Extern.MathBitsCarry renaming m64->xaY,pair->xbU,three->xbQ
open Fence renaming wide->xfV
open List renaming all_eq_true->xaR,any_eq_true->xeP,append_assoc->xaj,append_nil->xbR,cons_append->xbI,filterMap_cons->xaO,filterMap_eq_nil_iff->xdT,filter_cons->xdk,getD_eq_getElem?_getD->H1,getElem?_append_left->xbq,getElem?_append_right->xcn,getElem?_cons_zero->xbE,getElem?_eq_getElem->xaa,getElem?_eq_some_iff->xat,getElem?_map->xaT,getElem?_range->xby,getElem?_take->xcp,length->xaI,length_cons->xaq,length_eq_one_iff->xfk,length_eq_zero_iff->xbF,length_map->xaP,length_replicate->xaZ,length_set->xcK,length_take->xav,map_append->xbg,map_congr_left->xci,map_cons->xbX,map_nil->xex,mem_append->Nm,mem_cons->xac,mem_cons_of_mem->UV,mem_cons_self->FS,mem_filter->xcj,mem_filterMap->xff,mem_map->xal,mem_of_getElem?->xbx,mem_of_mem_drop->xeL,mem_range->xbf,mem_singleton->xai,nil_append->xbA,not_mem_nil->IR,perm_append_comm_assoc->xdG,perm_middle->xct,range->xbc,replicate->xaf,set->xfX,singleton_append->xfy,take_length->xcP,take_of_length_le->xaQ
open List.Perm renaming append_left->xcf,append_right->xfl,refl->xdE,swap->xeO
open List.cons renaming injEq->xez
open Nat renaming add_sub_cancel_left->xfc,add_zero->xbT,beq->xap,ble->xfU,blt->xdc,eq_of_beq_eq_true->xcL,le_add_right->xbP,le_mul_of_pos_right->xcb,le_of_ble_eq_true->xbM,le_refl->xab,le_succ->xcd,le_trans->xam,lt_of_lt_of_le->xan,lt_or_ge->xce,lt_succ_of_lt->xfq,lt_succ_self->xbY,zero_add->xaN,zero_le->xah,zero_lt_one->xec
open Oper renaming looksAt->xbC
open Option.some renaming injEq->xaz
open Prod.mk renaming injEq->xcH
open Region renaming binds->xcs
open Sum renaming elim->xfw
open Value renaming bool->xer,cells->xfK
open _root_.Array renaming getD_eq_getD_getElem?->xbo,getElem?_eq_some_iff->xbj,length_toList->xeT,mem_toList_iff->xdi,replicate->xev,toArray_toList->xdh
section
section
variable{P:Program}{cf:Cf}{fr:Fr}{cx σ:Sg}{vs vs':Nat->Value}{env:yN}{w:World}{R:Type}{r:R}
 {d:Option Tmp}{ty t yt:TypeId}{pos:String}{aft:Array Edge}{g:Option (Nat×Bool)}{x y:Operand}
theorem zba{a b:Nat}(h:a≠b):xap a b=false:=uX h
theorem QT:∀{ob:List (Nat×Od)}{o p:Nat},p≠o->xO (yD ob o) p=xO ob p
 |[],_,_,_=>rfl
 |(q,X)::r,o,p,h=>by
  unfold yD;cases hb:xap q o
  ·simp only[cond_false];unfold xO;rw[QT h]
  ·simp only[cond_true];have:=z8 hb;subst this;conv=>rhs;unfold xO
   rw[zba<|fun e=>h e.symm];rfl
theorem jW{ob:List (Nat×Od)}{p:Nat}:∀{os:List Nat},b5 os p=false->xO (w8 ob os) p=xO ob p
 |[],_=>rfl
 |o::r,h=>by
  simp only[b5,List.any_cons,Bool.or_eq_false_iff]at h;unfold w8;rw[QT (fun e=>by subst e;simp at h),jW h.2]
theorem QX{ob:List (Nat×Od)}:∀{os:List Nat},∀e∈w8 ob os,e∈ob
 |[],_,h=>h
 |o::r,e,h=>QX (os:=r) e<|ue e h
theorem PQ{α:Type _}:∀{l:List α}{i:Nat}{a:α},l[i]? =some a->l.Perm (a::l.eraseIdx i)
 |[],_,_,h=>by simp at h
 |b::l,0,a,h=>by simp at h;subst h;exact xdE _
 |b::l,i+1,a,h=>((PQ (l:=l) (i:=i)<|by simpa using h).cons b).trans<|xeO _ _ _
theorem kT{ob:List (Nat×Od)}{o:Nat}{X:Od}(h:xO ob o=some X):(OS vs fr cx ob).Perm (Qz vs (o,X)::OS vs fr cx (yD ob o)):=by
 obtain⟨i,h1,_,h3⟩:=wQ h;show(MS vs ob++(MS vs cx.ob++fr.F)).Perm (Qz vs (o,X)::(MS vs (yD ob o)++(MS vs cx.ob++fr.F)));rw[h3,<-UC h1];exact PQ<|Vd h1
theorem aA(hC:∀s∈cf.cs,y6 P s):∀{dom:List AM}{xs:List Operand}{cs:List PD}{k:aa dom->List Nat->Option R},Yb cf cx σ dom xs cs k=some r->
 ∃z os,k z os=some r/\xs.length+cs.length=dom.length/\(∀o∈os,∃X,(o,X)∈σ.ob)/\∀vs (fr:Fr) env S w,(∀x,Z8 P vs env S w cx σ x)->∀cvs:List Value,cvs.length=cs.length->zA S (Ea cs cvs) w->
  zA S (kU P dom z<|xs.map (ev env)++cvs) w/\(OS vs fr cx σ.ob).Perm (Y5 dom z (xs.map (ev env)++cvs)++OS vs fr cx (w8 σ.ob os))/\UY dom (xs.map (ev env)++cvs)=os.map vs
 |[],[],[],k,h=>⟨(),[],h,rfl,fun _ ho=>absurd ho IR,fun _ _ _ _ _ _ _ _ _=>⟨trivial,xdE _,rfl⟩⟩
 |.q t::dom,[],c::cs,k,h=>by
  simp only[Yb]at h;obtain⟨e,h⟩:=yi h;subst e;obtain⟨z,os,h1,h2,ho,h3⟩:=aA hC h;refine⟨_,os,h1,by simp at h2⊢;lia,ho,fun vs fr env S w hl cvs ha hb=> ?_⟩
  cases cvs with
  |nil=>cases ha
  |cons v cvs=>obtain⟨h4,h5,h6⟩:=h3 vs fr env S w hl cvs (by simpa using ha) hb.2;exact⟨⟨hb.1,h4⟩,h5,h6⟩
 |.d t::dom,x::xs,cs,k,h=>by
  simp only[Yb]at h;obtain⟨y,h,hy⟩:=XZ h;obtain⟨z,os,h1,h2,ho,h3⟩:=aA hC h;exact⟨_,os,h1,by simp at h2⊢;lia,ho,fun vs fr env S w hl cvs ha hb=>by obtain⟨h4,h5,h6⟩:=h3 vs fr env S w hl cvs ha hb;exact⟨⟨hy P vs env S w<|hl x,h4⟩,h5,h6⟩⟩
 |.q t::dom,x::xs,cs,k,h=>by
  simp only[Yb]at h;split at h
  ·next s y hx=>
   obtain⟨e,h⟩:=yi h;subst e;obtain⟨z,os,h1,h2,ho,h3⟩:=aA hC h;exact⟨_,os,h1,by simp at h2⊢;lia,ho,fun vs fr env S w hl cvs ha hb=>by obtain⟨h4,h5,h6⟩:=h3 vs fr env S w hl cvs ha hb;exact⟨⟨zk hx<|hl x,h4⟩,h5,h6⟩⟩
  ·cases h
 |.own t E::dom,x::xs,cs,k,h=>by
  simp only[Yb]at h;split at h
  ·next o hx=>
   split at h
   ·next s E' ys hc=>
    obtain⟨hE,h7⟩:=yh h;have hE:=z8 hE;subst hE;obtain⟨e,h8⟩:=yi h7;cases e;obtain⟨z,os,h9,h2,ho,h3⟩:=aA hC h8;obtain⟨hn,h1⟩:=yh h9;simp only[xdn]at hn;refine⟨_,o::os,h1,by simp at h2⊢;lia,fun p hp=> ?_,fun vs fr env S w hl cvs ha hb=> ?_⟩
    ·rcases xac.1 hp with rfl|hp
     ·obtain⟨i,h4,_⟩:=wQ hc;exact⟨_,xbx h4⟩
     ·exact ho p hp
    obtain⟨h4,h5,h6⟩:=h3 vs fr env S w hl cvs ha hb;have hv:ev env x=vs o:=zk hx<|hl x;refine⟨⟨trivial,h4⟩,h5.trans ?_,?_⟩
    ·have hp:=kT (vs:=vs) (fr:=fr) (cx:=cx)<|(jW hn).trans hc;refine(xcf _ hp).trans ?_;refine xct.trans ?_;show List.Perm _ (mO t.rep E (ev env x) _::(Y5 dom z (xs.map (ev env)++cvs)++_));rw[hv];exact xdE _
    ·show ev env x::UY dom (xs.map (ev env)++cvs)=vs o::os.map vs;rw[hv,h6]
   ·cases h
  ·cases h
 |.fn dom' cod::dom,x::xs,cs,k,h=>by
  simp only[Yb]at h;obtain⟨f,h,hf⟩:=SR hC h;obtain⟨z,os,h1,h2,ho,h3⟩:=aA hC h;refine⟨_,os,h1,by simp at h2⊢;lia,ho,fun vs fr env S w hl cvs ha hb=> ?_⟩;obtain⟨h4,h5,h6⟩:=h3 vs fr env S w hl cvs ha hb;refine⟨⟨?_,h4⟩,h5,h6⟩
  cases hv:xX cx σ x with
  |none=>rename_i h0;rw[hv]at h0;simp[asF]at h0
  |some v=>exact hf vs S w v _ hv<|zk hv<|hl x
 |[],_::_,_,_,h=>by simp[Yb]at h
 |[],[],_::_,_,h=>by simp[Yb]at h
 |.d _::_,[],_,_,h=>by simp[Yb]at h
 |.own _ _::_,[],_,_,h=>by simp[Yb]at h
 |.fn _ _::_,[],_,_,h=>by simp[Yb]at h
 |.q _::_,[],[],_,h=>by simp[Yb]at h
def iX:List RM->List Value->Nat->(Nat->Value)->Nat->Value
 |[],_,_,vs=>vs
 |.d _::r,us,o,vs=>iX r us.tail o vs
 |.own _ _::r,us,o,vs=>Y8 (iX r us.tail (o+1) vs) o<|us.headD undef
theorem VN:∀{rs:List RM}{us:List Value}{o k:Nat},k<o->iX rs us o vs k=vs k
 |[],_,_,_,_=>rfl
 |.d _::r,us,o,k,h=>VN (rs:=r) h
 |.own _ _::r,us,o,k,h=>by
  show Y8 _ o _ k=_;rw[uB h,VN (rs:=r)<|by lia]
theorem M0{n o:Nat}{v:Value}(h:o≠n):Y8 vs n v o=vs o:=by unfold Y8;rw[uX h];rfl
theorem gf:∀{rs:List RM}{x:dm rs}{i o:Nat},(∀e∈(ZY rs x i o).2,o<=e.1/\e.1<o+(ZY rs x i o).2.length)
 |[],_,_,_,e,he=>absurd he IR
 |[.d _],_,_,_,e,he=>absurd he IR
 |[.own _ _],_,_,o,e,he=>by
  obtain rfl:=xai.1 he;exact⟨xab _,xbY _⟩
 |.d t::n::r,x,i,o,e,he=>gf (rs:=n::r) (x:=x.2) (i:=i+1) e he
 |.own t E::n::r,x,i,o,e,he=>by
  have he:e∈(o,Od.own t E x.1)::(ZY (n::r) x.2 (i+1)<|o+1).2:=he;have ha:(ZY (.own t E::n::r) x i o).2.length=(ZY (n::r) x.2 (i+1)<|o+1).2.length+1:=rfl;rw[ha];rcases xac.1 he with rfl|he
  ·exact⟨xab _,by show o<_;lia⟩
  ·have:=gf (rs:=n::r) (x:=x.2) (i:=i+1) (o:=o+1) e he;lia
theorem om:∀{rs:List RM}{x:dm rs}{us:List Value}{i o:Nat},MS (iX rs us o vs) (ZY rs x i o).2=Zc rs x us
 |[],_,_,_,_=>rfl
 |[.d _],_,_,_,_=>rfl
 |[.own t E],x,us,i,o=>by exact congrArg (fun m=>[m])<|Jq (vs:=vs) (xs:=x)
 |.d t::n::r,x,us,i,o=>by
  show MS (iX (n::r) us.tail o vs) (ZY (n::r) x.2 (i+1) o).2=Zc (n::r) x.2 us.tail;exact om
 |.own t E::n::r,x,us,i,o=>by
  refine List.cons_eq_cons.2 ⟨Jq (xs:=x.1),?_⟩;exact(wa (ob:=(ZY (n::r) x.2 (i+1)<|o+1).2) (vs:=iX (n::r) us.tail (o+1) vs) fun e he=>M0 (by have:=gf e he;lia)).trans om
theorem gz:∀{rs:List RM}{x:dm rs}{i o:Nat},∀e∈(ZY rs x i o).1,∀p,wj e.2=some p->p<o+(ZY rs x i o).2.length
 |[],_,_,_,e,he=>absurd he IR
 |[.d _],_,_,_,e,he=>by
  obtain rfl:=xai.1 he;intro p hp;cases hp
 |[.own _ _],_,_,o,e,he=>by
  obtain rfl:=xai.1 he;intro p hp;cases hp;exact xbY _
 |.d t::n::r,x,i,o,e,he=>by
  rcases xac.1 he with rfl|he
  ·intro p hp;cases hp
  ·exact gz (rs:=n::r) (x:=x.2) (i:=i+1) e he
 |.own t E::n::r,x,i,o,e,he=>by
  have ha:(ZY (.own t E::n::r) x i o).2.length=(ZY (n::r) x.2 (i+1)<|o+1).2.length+1:=rfl;rw[ha];rcases xac.1 he with rfl|he
  ·intro p hp;cases hp;lia
  ·intro p hp;have:=gz (rs:=n::r) (x:=x.2) (i:=i+1) (o:=o+1) e he p hp;lia
theorem EK:∀{rs:List RM}{x:dm rs}{i o:Nat},∀e∈(ZY rs x i o).1,∀p,wj e.2=some p->o<=p
 |[],_,_,_,e,he=>absurd he IR
 |[.d _],_,_,_,e,he=>by
  obtain rfl:=xai.1 he;intro p hp;cases hp
 |[.own _ _],_,_,o,e,he=>by
  obtain rfl:=xai.1 he;intro p hp;cases hp;exact xab _
 |.d t::n::r,x,i,o,e,he=>by
  rcases xac.1 he with rfl|he
  ·intro p hp;cases hp
  ·exact EK (rs:=n::r) (x:=x.2) (i:=i+1) e he
 |.own t E::n::r,x,i,o,e,he=>by
  rcases xac.1 he with rfl|he
  ·intro p hp;cases hp;exact xab _
  ·intro p hp;have:=EK (rs:=n::r) (x:=x.2) (i:=i+1) (o:=o+1) e he p hp;lia
theorem EU:∀{rs:List RM}{x:dm rs}{us:List Value}{i o:Nat}{S:Nat->Prop},zA S (Zb rs x us) w->us.length=rs.length->∀e∈(ZY rs x i o).1,∃j u,e.1=i+j/\us[j]? =some u/\(vv P (iX rs us o vs) e.2 u).p S w
 |[],_,_,_,_,_,_,_,e,he=>absurd he IR
 |[m],_,[],_,_,_,_,hl,_,_=>by cases hl
 |[.d _],x,u::us,i,o,S,h,hl,e,he=>by
  obtain rfl:=xai.1 he;exact⟨0,u,rfl,rfl,h.1⟩
 |[.own _ _],x,u::us,i,o,S,h,hl,e,he=>by
  obtain rfl:=xai.1 he;exact⟨0,u,rfl,rfl,(vC (vs:=vs)).symm⟩
 |_::n::r,x,[],_,_,_,_,hl,_,_=>by cases hl
 |.d t::n::r,x,u::us,i,o,S,h,hl,e,he=>by
  rcases xac.1 he with rfl|he
  ·exact⟨0,u,rfl,rfl,h.1⟩
  ·obtain⟨j,v,h1,h2,h3⟩:=EU (rs:=n::r) (x:=x.2) (i:=i+1) (o:=o) h.2 (by simpa using hl) e he;exact⟨j+1,v,by lia,by simpa using h2,h3⟩
 |.own t E::n::r,x,u::us,i,o,S,h,hl,e,he=>by
  rcases xac.1 he with rfl|he
  ·exact⟨0,u,rfl,rfl,(vC (vs:=iX (n::r) us (o+1) vs)).symm⟩
  ·obtain⟨j,v,h1,h2,h3⟩:=EU (rs:=n::r) (x:=x.2) (i:=i+1) (o:=o+1) h (by simpa using hl) e he;refine⟨j+1,v,by lia,by simpa using h2,?_⟩;have:vv P (iX (.own t E::n::r) (u::us) o vs) e.2 v=vv P (iX (n::r) us (o+1) vs) e.2 v:=dN (fun p hp=>M0 (by have:=EK (rs:=n::r) (x:=x.2) (i:=i+1) (o:=o+1) e he p hp;lia)) v;rw[this];exact h3
theorem SI{f:FuncId}{ags:List Operand}:∀{cs:List VB}{s:VB},Mc cx σ f ags cs=some s->s∈cs/\s.f=f
 |c::cs,s,h=>by
  unfold Mc at h;split at h
  ·next hb=>
   simp only[xaz]at h;subst h;rw[xao]at hb;exact⟨FS,z8 hb.1⟩
  ·obtain⟨h1,h2⟩:=SI h;exact⟨UV _ h1,h2⟩
theorem RA{rs:List RM}{x:dm rs}{us:List Value}{o:Nat}{S:Nat->Prop}(h:zA S (Zb rs x us) w)(hl:us.length=rs.length):∀e∈(ZY rs x (bif Ju rs then 0 else 1) o).1,(xK P (iX rs us o vs) e.2 (Yg us) e.1).p S w:=by
 intro e he;obtain⟨j,u,h1,h2,h3⟩:=EU (P:=P) (vs:=vs) h hl e he;obtain⟨i,dv⟩:=e
 match us,hl,h2 with
 |[],_,h2=>simp at h2
 |[v],hl,h2=>
  obtain rfl:j=0:=by
   rcases j with _|j
   ·rfl
   ·simp at h2
  obtain⟨m,rfl⟩:=xfk.1 hl.symm;simp only[Ju,cond_true]at h1;simp only[xbE,xaz]at h2;subst h1;subst h2;exact h3
 |v::v'::us,hl,h2=>
  have:Ju rs=false:=by
   match rs,hl with
   |[],_=>rfl
   |_::_::_,_=>rfl
  rw[this]at h1;simp only[cond_false]at h1;obtain rfl:i=j+1:=by lia
  exact⟨(v::v'::us).toArray,u,rfl,by simpa using h2,h3⟩
def BD:List RM->List Value->List Value
 |[],_=>[]
 |.d _::r,us=>BD r us.tail
 |.own _ _::r,us=>us.headD undef::BD r us.tail
theorem iC:∀{rs:List RM}{x:dm rs}{us:List Value}{i o:Nat},(ZY rs x i o).2.map (fun e=>iX rs us o vs e.1)=BD rs us
 |[],_,_,_,_=>rfl
 |[.d _],x,us,i,o=>rfl
 |[.own t E],x,us,i,o=>by
  show[Y8 vs o (us.headD undef) o]=[us.headD undef];rw[vC]
 |.d t::n::r,x,us,i,o=>iC (rs:=n::r) (x:=x.2) (us:=us.tail) (i:=i+1) (o:=o)
 |.own t E::n::r,x,us,i,o=>by
  show Y8 (iX (n::r) us.tail (o+1) vs) o (us.headD undef) o::(ZY (n::r) x.2 (i+1)<|o+1).2.map (fun e=>iX (.own t E::n::r) us o vs e.1)=us.headD undef::BD (n::r) us.tail;rw[vC,<-iC (rs:=n::r) (x:=x.2) (us:=us.tail) (i:=i+1) (o:=o+1)];congr 1;refine xci fun e he=> ?_;exact M0 (by have:=gf e he;lia)
theorem Dn:∀{m:Nat}{rs:List RM}{us:List Value},oh m rs=true->us.length=rs.length->BD rs us=us.drop m
 |0,[],us,_,hl=>by
  obtain rfl:=xbF.1 hl;rfl
 |0,.own _ _::r,[],_,hl=>by cases hl
 |0,.own _ _::r,u::us,h,hl=>by
  show u::BD r us=u::us;rw[Dn (m:=0) (rs:=r) (us:=us) h<|by simpa using hl];rfl
 |m+1,.d _::r,[],_,hl=>by cases hl
 |m+1,.d _::r,u::us,h,hl=>Dn (m:=m) (rs:=r) (us:=us) h<|by simpa using hl
 |0,.d _::_,_,h,_=>by cases h
 |_+1,[],_,h,_=>by cases h
 |_+1,.own _ _::_,_,h,_=>by cases h
theorem PN{vs':Nat->Value}:∀{os:List Nat}{ob:List (Nat×Od)},os.map vs'=ob.map (fun e=>vs' e.1)->MS vs' (r8 os ob)=MS vs' ob
 |[],[],_=>rfl
 |[],_::_,h=>by cases h
 |_::_,[],h=>by cases h
 |o::os,(p,X)::ob,h=>by
  simp only[xbX,xez]at h;show Qz vs' (o,X)::MS vs' (r8 os ob)=Qz vs' (p,X)::MS vs' ob;rw[PN h.2];congr 1;cases X<;>simp only[Qz]<;>rw[h.1]
theorem Ij:∀{os:List Nat}{ob:List (Nat×Od)},∀e∈r8 os ob,e.1∈os
 |[],_,e,he=>absurd he<|by simp[r8]
 |_::_,[],e,he=>absurd he<|by simp[r8]
 |o::os,p::ob,e,he=>by
  rcases xac.1 (show e∈(o,p.2)::r8 os ob from he)with rfl|he
  ·exact FS
  ·exact UV _<|Ij e he
theorem LN{rs:List RM}{x:dm rs}{us:List Value}{o m:Nat}{S:Nat->Prop}(h:zA S (Zb rs x us) w)(hl:us.length=rs.length)(hm:m<=us.length):∀e∈(ZY rs x (mW m) o).1.filter (fun e=>xdc e.1<|mW m+m),(xK P (iX rs us o vs) e.2 (Yg<|us.take m) e.1).p S w:=by
 intro e he;obtain⟨he,hb⟩:=xcj.1 he;have hb:e.1<mW m+m:=Nat.blt_eq.mp hb;obtain⟨j,u,h1,h2,h3⟩:=EU (P:=P) (vs:=vs) h hl e he;obtain⟨i,dv⟩:=e;simp only at h1 hb;have hj:j<m:=by lia
 have h4:(us.take m)[j]? =some u:=by rw[xcp,iq hj];exact h2
 have h5:(us.take m).length=m:=by rw[xav];lia
 generalize us.take m=vs' at*
 match vs',h5,h4 with
 |[],h5,h4=>simp at h4
 |[v],h5,h4=>
  obtain rfl:m=1:=h5.symm;obtain rfl:j=0:=by lia
  simp only[xbE,xaz]at h4;obtain rfl:i=0:=h1;subst h4;exact h3
 |v::v'::us',h5,h4=>
  have:mW m=1:=by
   unfold mW;rw[zba<|by simp at h5;lia];rfl
  rw[this]at h1;obtain rfl:i=j+1:=by lia
  exact⟨(v::v'::us').toArray,u,rfl,by simpa using h4,h3⟩
theorem zg5(hC:∀s∈cf.cs,y6 P s){f:Operand}{f':FuncId}{cs:List PD}{s:VB}{ags:Array Operand}{ts:Array TypeId}{k:Sg->Option R}(hd:wu cx d=true)(hf:xX cx σ f=some (.fn f' cs))
 (hs:Mc cx σ f' ags.toList cf.cs=some s) (h:zar cf cx σ d s ags.toList cs k=some r):ou P cx ⟨d,.call ⟨.value f,ags,ts⟩,ty,pos,aft,g⟩ σ k r:=by
 obtain⟨h1,h2⟩:=SI hs;have hp:=hC s h1;unfold zar at h;obtain⟨z,os,h,hu,hE,hz⟩:=aA hC h;obtain⟨q,hq,h⟩:=rM h;split at h
 ·next hw=>
   refine⟨_,h,xbP _ _,fun fr vs env w hR=> ?_⟩
   obtain⟨hB,hk⟩:=hR
   obtain⟨S0,_,hΓ⟩:=hk.ex
   obtain⟨cvs,hv,hi,_⟩:=zk hf<|zY hΓ f
   have hj:=hp.plain hw hq (vs:=ags.toList.map (ev env)++cvs)<|by simp at hu⊢;lia
   have hl:(execOp (ev env) ⟨d,.call ⟨.value f,ags,ts⟩,ty,pos,aft,g⟩).run P w=.ok (.enter f' (ags.toList.map (ev env)++cvs).toArray) w:=by simp[execOp,resolve,hv,xdJ,invoke,kP<|h2▸hp.1]
   have hm:St fr.we fr.Se (Y5 s.dom z (ags.toList.map (ev env)++cvs)++OS vs fr cx (w8 σ.ob os)) (kU P s.dom z (ags.toList.map (ev env)++cvs)++GS P vs env fr cx σ) w:=by
    refine St.perm (St.weak hk fun S w ha=>zA.append ?_ ha) (hz vs fr env S0 w (zY hΓ) cvs hi ?_).2.1
    ·obtain⟨cvs',hb,hg,hc⟩:=zk hf<|zY ha f;rw[hv]at hb;have:cvs=cvs':=by simpa using hb
     subst this;exact(hz vs fr env S w (zY ha) cvs hi hc).1
    ·obtain⟨cvs',hb,hg,hc⟩:=zk hf<|zY hΓ f;rw[hv]at hb;have:cvs=cvs':=by simpa using hb
     subst this;exact hc
   unfold kv
   rw[hl]
   rw[h2]at hj
   refine(hj fr.we fr.Se _ _ w hm).mono ?_
   rintro e w' ⟨us,he,hr,hx⟩
   refine⟨Yg us,he,?_⟩
   refine Qq (vs:=vs) (vs':=iX s.cod us σ.nx vs) (l:=(ZY s.cod q (bif Ju s.cod then 0 else 1) σ.nx).1) (Γl:=Zb s.cod q us) hB hd rfl (xbP _ _) (fun o ho=>VN ho) gz ?_ (fun S w ha=>RA ha hr) ?_
   ·intro e he
    rcases Nm.1 he with he|he
    ·exact(gf e he).2
    ·exact xan (hB.o1 e<|QX e he)<|xbP _ _
   ·have e1:OS (iX s.cod us σ.nx vs) fr cx ((ZY s.cod q (bif Ju s.cod then 0 else 1) σ.nx).2++w8 σ.ob os)=Zc s.cod q us++OS vs fr cx (w8 σ.ob os):=by
     show MS _ (_++_)++(MS _ cx.ob++_)=_;have a1:MS (iX s.cod us σ.nx vs) (w8 σ.ob os)=MS vs (w8 σ.ob os):=wa fun e he=>VN<|hB.o1 e<|QX e he;have a2:MS (iX s.cod us σ.nx vs) cx.ob=MS vs cx.ob:=wa fun e he=>VN<|hB.o2 e he;rw[a2,show MS (iX s.cod us σ.nx vs) ((ZY s.cod q (bif Ju s.cod then 0 else 1) σ.nx).2++w8 σ.ob os)=MS _ _++MS _ _ from xbg,a1,om,xaj]
    rw[e1]
    exact hx
 ·next b hw=>
   obtain⟨ht,h⟩:=yh h
   refine⟨_,h,xbP _ _,fun fr vs env w hR=> ?_⟩
   obtain⟨hB,hk⟩:=hR
   obtain⟨S0,_,hΓ⟩:=hk.ex
   obtain⟨cvs,hv,hi,_⟩:=zk hf<|zY hΓ f
   have hj:=hp.2 z q hq (ags.toList.map (ev env)++cvs)<|by simp at hu⊢;lia
   rw[hw]at hj
   have hl:(execOp (ev env) ⟨d,.call ⟨.value f,ags,ts⟩,ty,pos,aft,g⟩).run P w=.ok (.enter f' (ags.toList.map (ev env)++cvs).toArray) w:=by simp[execOp,resolve,hv,xdJ,invoke,kP<|h2▸hp.1]
   have hA:UY s.dom (ags.toList.map (ev env)++cvs)=os.map vs:=by
    obtain⟨cvs',hb,hg,hc⟩:=zk hf<|zY hΓ f;rw[hv]at hb;have:cvs=cvs':=by simpa using hb
    subst this;exact(hz vs fr env S0 w (zY hΓ) cvs hi hc).2.2
   have hm:St fr.we fr.Se (Y5 s.dom z (ags.toList.map (ev env)++cvs)++OS vs fr cx (w8 σ.ob os)) (kU P s.dom z (ags.toList.map (ev env)++cvs)++GS P vs env fr cx σ) w:=by
    refine St.perm (St.weak hk fun S w ha=>zA.append ?_ ha) (hz vs fr env S0 w (zY hΓ) cvs hi ?_).2.1
    ·obtain⟨cvs',hb,hg,hc⟩:=zk hf<|zY ha f;rw[hv]at hb;have:cvs=cvs':=by simpa using hb
     subst this;exact(hz vs fr env S w (zY ha) cvs hi hc).1
    ·obtain⟨cvs',hb,hg,hc⟩:=zk hf<|zY hΓ f;rw[hv]at hb;have:cvs=cvs':=by simpa using hb
     subst this;exact hc
   unfold kv
   rw[hl]
   rw[h2]at hj
   refine(hj fr.we fr.Se _ _ w hm).mono ?_
   rintro e w' ⟨us,he,⟨hr,hy⟩,hx⟩
   refine⟨Yg<|us.take<|s.cod.length-(b+1),he,?_⟩
   have hn:∀o,o<σ.nx->iX s.cod us σ.nx vs o=vs o:=fun o ho=>VN ho
   have hD:∀o∈os,o<σ.nx:=fun o ho=>by
    obtain⟨X,hX⟩:=hE o ho;exact hB.o1 _ hX
   have hF:MS (iX s.cod us σ.nx vs) (r8 os (ZY s.cod q (mW<|s.cod.length-(b+1)) σ.nx).2)=Zc s.cod q us:=by
    rw[PN,om];rw[iC,Dn ht hr,hy,hA];exact xci fun o ho=>hn o<|hD o ho
   refine Qq (vs:=vs) (vs':=iX s.cod us σ.nx vs) (l:=(ZY s.cod q (mW<|s.cod.length-(b+1)) σ.nx).1.filter fun e=>xdc e.1<|mW (s.cod.length-(b+1))+(s.cod.length-(b+1))) (Γl:=Zb s.cod q us) hB hd rfl (xbP _ _) hn (fun e he=>gz e (xcj.1 he).1) ?_ (fun S w ha=>LN ha hr<|by lia) ?_
   ·intro e he
    rcases Nm.1 he with he|he
    ·exact xan (hD _<|Ij e he)<|xbP _ _
    ·exact xan (hB.o1 e<|QX e he)<|xbP _ _
   ·have e1:OS (iX s.cod us σ.nx vs) fr cx (r8 os (ZY s.cod q (mW<|s.cod.length-(b+1)) σ.nx).2++w8 σ.ob os)=Zc s.cod q us++OS vs fr cx (w8 σ.ob os):=by
     show MS _ (_++_)++(MS _ cx.ob++_)=_;have a1:MS (iX s.cod us σ.nx vs) (w8 σ.ob os)=MS vs (w8 σ.ob os):=wa fun e he=>VN<|hB.o1 e<|QX e he;have a2:MS (iX s.cod us σ.nx vs) cx.ob=MS vs cx.ob:=wa fun e he=>VN<|hB.o2 e he;rw[a2,show MS (iX s.cod us σ.nx vs) (r8 os (ZY s.cod q (mW<|s.cod.length-(b+1)) σ.nx).2++w8 σ.ob os)=MS _ _++MS _ _ from xbg,a1,hF,xaj]
    rw[e1]
    exact hx
end
end
section
theorem St.pr{we:World}{Se:Nat->Prop}{ms:List MF}{Γ:List FF}{w:World}{p:Prop}(hp:p)(h:St we Se ms Γ w):St we Se (mPr p::ms) Γ w:=by
 obtain⟨h1,h2,h3,S,h4,h5,h6,h7,h8⟩:=h;refine⟨h1,h2,⟨fun k hk=>hk.elim,h3⟩,S,h4,h5,fun m hm k hk=> ?_,⟨hp,h7⟩,h8⟩;rcases xac.1 hm with rfl|hm
 ·exact hk.elim
 ·exact h6 m hm k hk
theorem St.unpr{we:World}{Se:Nat->Prop}{ms:List MF}{Γ:List FF}{w:World}{p:Prop}(h:St we Se (mPr p::ms) Γ w):p/\St we Se ms Γ w:=
 ⟨xR h (i:=0) rfl fun S hp=>hp,St.drop (i:=0) h⟩
section
variable{P:Program}{cf:Cf}{fr:Fr}{cx σ:Sg}{vs vs':Nat->Value}{env:yN}{w:World}{R:Type}{r:R}
 {d:Option Tmp}{ty t yt:TypeId}{pos:String}{aft:Array Edge}{g:Option (Nat×Bool)}{x y:Operand}
theorem QM{d d':Dv}{v:Value}{i:Nat}{S:Nat->Prop}(h:(xK P vs d v i).p S w)(hm:∀u,(vv P vs d u).p S w->(vv P vs d' u).p S w):(xK P vs d' v i).p S w:=by
 cases i with
 |zero=>exact hm _ h
 |succ i=>obtain⟨us,u,h1,h2,h3⟩:=h;exact⟨us,u,h1,h2,hm _ h3⟩
theorem UU{v u:Value}{mk:Nat->Dv}{X:Od}{ob:List (Nat×Od)}(hB:Bd cx σ)(hd:wu cx d=true)(ha:∀e∈ob,e.1<σ.nx)(hb:∀o,wj (mk o)=some o)(hc:∀S w,(vv P (Y8 vs σ.nx u) (mk σ.nx) v).p S w)
 (hf:St fr.we fr.Se (Qz (Y8 vs σ.nx u) (σ.nx,X)::OS vs fr cx ob) (GS P vs env fr cx σ) w):cm P fr cx σ.nx vs ⟨σ.nx+1,vi σ.rg d [(0,mk σ.nx)],(σ.nx,X)::ob⟩ (put env d v) w:=by
 refine Qq (σ':=⟨σ.nx+1,vi σ.rg d [(0,mk σ.nx)],(σ.nx,X)::ob⟩) (vs:=vs) (vs':=Y8 vs σ.nx u) (Γl:=[]) hB hd rfl (xcd _) (fun o ho=>uB ho) ?_ ?_ ?_ ?_
 ·intro e he o ho;obtain rfl:=xai.1 he;rw[hb]at ho;cases ho;exact xbY _
 ·intro e he;rcases xac.1 he with rfl|he
  ·exact xbY _
  ·exact xfq<|ha e he
 ·intro S w _ e he;obtain rfl:=xai.1 he;exact hc S w
 ·show St _ _ (Qz (Y8 vs σ.nx u) (σ.nx,X)::OS (Y8 vs σ.nx u) fr cx ob) _ _;rw[Ei hB ha];exact hf
theorem Q4:∀{ob:List (Nat×Od)}{o:Nat}{X Y:Od},xO ob o=some X->xO (kL ob o Y) o=some Y/\yD (kL ob o Y) o=yD ob o
 |(o',X')::r,o,X,Y,h=>by
  unfold xO at h;unfold kL;cases hb:xap o' o<;>rw[hb]at h
  ·obtain⟨h1,h2⟩:=Q4 (ob:=r) (Y:=Y) h;constructor
   ·simp only[cond_false];unfold xO;rw[hb];exact h1
   ·simp only[cond_false];unfold yD;rw[hb];simp only[cond_false,h2]
  ·constructor
   ·simp only[cond_true];unfold xO;rw[hb];rfl
   ·simp only[cond_true];unfold yD;rw[hb];rfl
theorem ZS{o:Nat}{X:Od}{Γ:List FF}(ho:xO σ.ob o=some X)(h:St fr.we fr.Se (OS vs fr cx σ.ob) Γ w):St fr.we fr.Se (Qz vs (o,X)::OS vs fr cx (yD σ.ob o)) Γ w:=h.perm<|kT ho
theorem PE{ob:List (Nat×Od)}{o:Nat}{X Y:Od}{Γ:List FF}(ho:xO ob o=some X)(h:St fr.we fr.Se (Qz vs (o,Y)::OS vs fr cx (yD ob o)) Γ w):St fr.we fr.Se (OS vs fr cx<|kL ob o Y) Γ w:=by
 obtain⟨h1,h2⟩:=Q4 (Y:=Y) ho;have:=kT (vs:=vs) (fr:=fr) (cx:=cx) h1;rw[h2]at this;exact h.perm this.symm
theorem eK{o o2:Nat}{X Y:Od}{Γ:List FF}(ha:xap o o2=false)(ho:xO σ.ob o=some X)(hb:xO σ.ob o2=some Y)(h:St fr.we fr.Se (OS vs fr cx σ.ob) Γ w):
 St fr.we fr.Se (Qz vs (o,X)::Qz vs (o2,Y)::OS vs fr cx (yD (yD σ.ob o) o2)) Γ w:=by
 have h1:xO (yD σ.ob o) o2=some Y:=by rw[QT<|fun e=>by subst e;simp at ha];exact hb
 exact(h.perm<|kT ho).perm<|(kT (vs:=vs) (fr:=fr) (cx:=cx) h1).cons _
theorem moU{o:Nat}{u:Value}{X:Od}:Qz (Y8 vs o u) (o,X)=Qz (fun _=>u) (0,X):=by
 cases X<;>simp only[Qz,vC]
theorem zjE{S:Nat->Prop}{w:World}:(Zk [.slice none 0 0]).p S 0 (xfK (.slice none 0 0)).toList w:=⟨_,rfl,rfl,rfl⟩
theorem zed(hT:yZ P cf.tt){k:Sg->Option R}(hd:wu cx d=true)(h:My cf cx σ d t x y k=some r):ou P cx ⟨d,.makeSlice t x y,ty,pos,aft,g⟩ σ k r:=by
 unfold My at h;split at h
 ·next s E B ht=>
  obtain⟨hi,h⟩:=yh h;split at h
  ·next s' E1 B1 n he hn=>
   obtain⟨j,hj,h⟩:=Pf h;obtain⟨hb,h⟩:=kG h;obtain⟨xs,hf,h⟩:=xq h;have hk:=Ng hT he rfl;refine⟨_,h,xcd _,fun fr vs env w hR=> ?_⟩;obtain⟨hB,hg⟩:=hR;obtain⟨S0,_,hΓ⟩:=hg.ex;have hx:ev env x=.int .i64 (j:Int):=by rw[(xW hn<|zY hΓ x).1,hj]
   have ha:=(hT _ _ he).2.1;refine(GQ (e:=Zk [.slice none 0 0]) (z:=0) (xs:=xs) (n:=j) (vn hT ht) hk hx ((O2 hi).symm.trans hx) ha hb (fun _ _=>zjE) hf w hg).mono ?_;rintro v w' ⟨b,rfl,_,hs⟩;have hc:xs.length=j:=by rw[hf];exact xaZ
   have h1:=hs.closeF 0 rfl (by rw[hc];exact xab _)<|zaT ha hb;rw[hc]at h1;refine UU (vs:=vs) (mk:=.mw) (u:=KP (.slice (some ⟨b,0,none⟩) j j) [.slice none 0 0]) hB hd hB.o1 (fun _=>rfl) (fun S w=>by simp only[vv,vC];rfl) ?_;rw[moU];refine St.grp.2<|St.pr (p:=([.slice none 0 0]:List Value).length=([[]]:List (List s.D)).length) rfl ?_;have h2:=St.nilO (e:=s.rep) (E:=E1) h1;exact h2.perm<|xeO ..
  ·cases h
 ·cases h
theorem zgQ{ao:Option Addr}{n c:Nat}:(Value.slice ao n c).oneCell'=true/\(Value.slice ao n c).cells= #[.slice ao n c]:=⟨rfl,rfl⟩
theorem EO{α:Type}{e:zZ α}{E:TypeId}{v:Value}{xs:List α}{S:Nat->Prop}(h:(mO e E v xs).p S w):v.oneCell'=true/\v.cells= #[v]:=by
 rcases KG h with⟨rfl,_⟩|⟨b,cap,rfl,_⟩<;>exact zgQ
theorem zh6(hT:yZ P cf.tt)(hL:jN P cf.tt){n:Nat}{ps:Array (Nat×Operand)}{k:Sg->Option R}(hd:wu cx d=true)(h:za2 cf cx σ d t n ps.toList k=some r):ou P cx ⟨d,.buildSlice t n ps,ty,pos,aft,g⟩ σ k r:=by
 unfold za2 at h;split at h
 ·next s E B x ht hf=>
  obtain⟨hn,h⟩:=yh h;have hn:=z8 hn;subst hn;split at h
  ·next o2 hg=>
   split at h
   ·next s2 E1 ys hc=>
    obtain⟨hi,h⟩:=yi h;cases hi;obtain⟨bytes,zero,hj⟩:=VQ hT hL ht;refine⟨_,h,xcd _,fun fr vs env w hR=> ?_⟩;obtain⟨hB,hb⟩:=hR;obtain⟨S0,_,hΓ⟩:=hb.ex;have hk:ev env x=vs o2:=zk hg<|zY hΓ x;obtain⟨q1,q2⟩:=xR (ZS hc hb) (i:=0) (m:=mO s.rep E1 (vs o2) ys) rfl fun S hp=>EO hp;have hl:qj [(0,vs o2)]=[vs o2]:=by rw[zfS,q2]
    refine(zbk (e:=Zk [vs o2]) (zs:=[0]) (len:=1) (x8:=ps.toList) (vs:=[(0,vs o2)]) (vn hT ht) hj (xec) rfl (by show 1*1<=_;lia) (by rw[hf];simp[hk]) (fun S w ha=>⟨by rw[q2];rfl,trivial⟩) (fun S w ha=> ?_) w<|ZS hc hb).mono ?_
    ·rw[hl];exact⟨[vs o2],[],rfl,⟨_,rfl,q1,rfl⟩,rfl⟩
    rintro v w' ⟨v',rfl,_,hs⟩;refine UU (vs:=vs) (mk:=.mw) (u:=KP v [vs o2]) hB hd (fun e he=>hB.o1 e<|ue e he) (fun _=>rfl) (fun S w=>by simp only[vv,vC];rfl) ?_;rw[moU];exact St.grp.2<|St.pr (p:=([vs o2]:List Value).length=([ys]:List (List s.D)).length) rfl hs
   ·cases h
  ·cases h
 ·cases h
theorem Tj(hT:yZ P cf.tt){E0:TypeId}{k:Sg->Option R}(hd:wu cx d=true)(h:DN cf σ d E0 k=some r):ou P cx ⟨d,.alloc E0,ty,pos,aft,g⟩ σ k r:=by
 unfold DN at h;split at h
 ·next s E B ht=>
  have ha:=Ng hT ht rfl;refine⟨_,h,xcd _,fun fr vs env w hR=> ?_⟩;obtain⟨hB,hb⟩:=hR;refine(B0 (e:=(Zk [.slice none 0 0]).c) (z:=0) ha (fun S w=>zjE (S:=S) (w:=w)) w hb).mono ?_;rintro v w' ⟨b,rfl,_,hs⟩;refine UU (vs:=vs) (mk:=.mw) (u:=KP (.pointer<|some ⟨b,0,none⟩) [.slice none 0 0]) hB hd hB.o1 (fun _=>rfl) (fun S w=>by simp only[vv,vC];rfl) ?_;rw[moU];refine St.grp.2<|St.pr (p:=([.slice none 0 0]:List Value).length=1) rfl ?_;exact(St.nilO (e:=s.rep) (E:=E)<|hs.toP 0 rfl).perm<|xeO ..
 ·cases h
theorem zcd{hv:List Value}(h:hv.length=1):hv=[hv.headD undef]:=by
 match hv,h with
 |[a],_=>rfl
theorem zdQ(hT:yZ P cf.tt){o:Nat}{k:Sg->Option R}(hd:wu cx d=true)(hf:xX cx σ x=some (.mw o))(h:NG cf σ d t o k=some r):ou P cx ⟨d,.load t x,ty,pos,aft,g⟩ σ k r:=by
 unfold NG at h;split at h
 ·next q E' B s E E0 xs ht ho=>
  obtain⟨zero,hg,_⟩:=Vv hT ht;refine⟨_,h,xcd _,fun fr vs env w hR=> ?_⟩;obtain⟨hB,hc⟩:=hR;obtain⟨S0,_,hΓ⟩:=hc.ex;have hi:ev env x=yY (vs o):=zk hf<|zY hΓ x;obtain⟨ha,h1⟩:=St.unpr<|St.grp.1<|ZS ho hc;obtain⟨b,hb,h2⟩:=h1.openP 0 rfl;refine(zcg (QU (e:=(Zk<|ve<|vs o).c) (f:=Zk<|ve<|vs o) (z':=0) (up:=id) 0 rfl (hi.trans hb) (Sub.self (Zk<|ve<|vs o) 0) hg) w h2).mono ?_;rintro u w' ⟨_,rfl,_,hs⟩;obtain⟨S1,_,hj⟩:=hs.ex;have hu:=zfJ hj.1;have hk:=zcd ha;have hl:u=(ve<|vs o).headD undef:=by
   rw[hk]at hu;simpa using hu.symm
  have h3:=(hs.weak (Δ:=GS P vs env fr cx σ) fun S w h=>h.2).toP 0 rfl;rw[<-hb]at h3;refine UU (vs:=vs) (mk:=.ow) (u:=u) hB hd (fun e he=> ?_) (fun _=>rfl) (fun S w=>Jr S w) ?_
  ·obtain⟨e',g1,g2⟩:=KQ ho e he;rw[<-g2];exact hB.o1 e' g1
  ·rw[Jq,hl];have h4:St fr.we fr.Se (mO s.rep E ((ve<|vs o).headD undef) xs::(Qz vs (o,.ho E0)::OS vs fr cx (yD σ.ob o))) (GS P vs env fr cx σ) w':=by
    have h5:St fr.we fr.Se (mP (Zk<|ve<|vs o).c E0 (yY<|vs o) 0::mO s.rep E ((ve<|vs o).headD undef) xs::OS vs fr cx (yD σ.ob o)) (GS P vs env fr cx σ) w':=h3;have h6:=St.pr (p:=(ve<|vs o).length=1) ha h5;have h7:St fr.we fr.Se ([mPr<|(ve<|vs o).length=1,mP (Zk<|ve<|vs o).c E0 (yY<|vs o) 0]++mO s.rep E ((ve<|vs o).headD undef) xs::OS vs fr cx (yD σ.ob o)) (GS P vs env fr cx σ) w':=h6;exact(St.grp.2 h7).perm<|xeO ..
   have hp:=kT (vs:=vs) (fr:=fr) (cx:=cx) (Q4 (Y:=.ho E0) ho).1;rw[(Q4 (Y:=.ho E0) ho).2]at hp;exact h4.perm<|hp.symm.cons _
 ·cases h
structure zbA(a b:Value):Prop where
 out:yY b=yY a
 hv:∀(r:Nat) (v:Value),(ve a)[r]? =some v->(ve b)[r]? =some v
theorem TN{o n:Nat}(hr:zbA (vs o) (vs n)){dv:Dv}{v:Value}{S:Nat->Prop}(h:(vv P vs dv v).p S w):(vv P vs (zdH o n dv) v).p S w:=by
 cases dv with
 |mw p=>
  show(vv P vs (bif xap p o then .mw n else .mw p) v).p S w;cases hb:xap p o
  ·exact h
  ·obtain rfl:=z8 hb;exact(show v=yY (vs p)from h).trans hr.out.symm
 |mv p l m=>
  show(vv P vs (bif xap p o then .mv n l m else .mv p l m) v).p S w;cases hb:xap p o
  ·exact h
  ·obtain rfl:=z8 hb;simp only[vv,cond_true]at h⊢;rw[hr.out];exact h
 |hp p j=>
  show(vv P vs (bif xap p o then .hp n j else .hp p j) v).p S w;cases hb:xap p o
  ·exact h
  ·obtain rfl:=z8 hb;simp only[vv,cond_true]at h⊢;rw[hr.out];exact h
 |rw p r=>
  show(vv P vs (bif xap p o then .rw n r else .rw p r) v).p S w;cases hb:xap p o
  ·exact h
  ·obtain rfl:=z8 hb;exact hr.hv _ _ h
 |rp p t r j f=>
  show(vv P vs (bif xap p o then .rp n t r j f else .rp p t r j f) v).p S w;cases hb:xap p o
  ·exact h
  ·obtain rfl:=z8 hb;obtain⟨h1,b,m,cap,h2,h3,h4⟩:=h;exact⟨h1,b,m,cap,hr.hv _ _ h2,h3,h4⟩
 |_=>exact h
theorem zaf{o n p:Nat}{v:Dv}(h:wj (zdH o n v)=some p):wj v=some p\/p=n:=by
 cases v with
 |mw q=>
  have h:wj (bif xap q o then Dv.mw n else .mw q)=some p:=h;cases hb:xap q o<;>rw[hb]at h
  ·exact .inl h
  ·cases h;exact .inr rfl
 |mv q l m=>
  have h:wj (bif xap q o then Dv.mv n l m else .mv q l m)=some p:=h;cases hb:xap q o<;>rw[hb]at h
  ·exact .inl h
  ·cases h;exact .inr rfl
 |hp q j=>
  have h:wj (bif xap q o then Dv.hp n j else .hp q j)=some p:=h;cases hb:xap q o<;>rw[hb]at h
  ·exact .inl h
  ·cases h;exact .inr rfl
 |rw q r=>
  have h:wj (bif xap q o then Dv.rw n r else .rw q r)=some p:=h;cases hb:xap q o<;>rw[hb]at h
  ·exact .inl h
  ·cases h;exact .inr rfl
 |rp q t r j f=>
  have h:wj (bif xap q o then Dv.rp n t r j f else .rp q t r j f)=some p:=h;cases hb:xap q o<;>rw[hb]at h
  ·exact .inl h
  ·cases h;exact .inr rfl
 |_=>exact .inl h
theorem FO{o n:Nat}:∀{rg:List (Nat×Nat×Dv)},∀e∈zdN o n rg,∃e'∈rg,e=(e'.1,e'.2.1,zdH o n e'.2.2)
 |[],e,he=>absurd he IR
 |(t,i,v)::rg,e,he=>by
  rcases xac.1 he with rfl|he
  ·exact⟨_,FS,rfl⟩
  ·obtain⟨e',h1,h2⟩:=FO e he;exact⟨e',UV _ h1,h2⟩
theorem Ix{o n:Nat}:∀{rg:List (Nat×Nat×Dv)},∀e∈FU o n rg,e∈rg\/∃e'∈rg,∃p,e'.2.2=.mw p/\e=(e'.1,e'.2.1,bif xap p o then .mw n else .mw p)
 |[],e,he=>absurd he IR
 |(t,i,v)::rg,e,he=>by
  have ih:∀e∈FU o n rg,e∈(t,i,v)::rg\/∃e'∈(t,i,v)::rg,∃p,e'.2.2=.mw p/\e=(e'.1,e'.2.1,bif xap p o then .mw n else .mw p):=fun e he=>by
   rcases Ix e he with h|⟨e',h1,p,h2,h3⟩
   ·exact .inl<|UV _ h
   ·exact .inr ⟨e',UV _ h1,p,h2,h3⟩
  cases v with
  |mw p=>
   rcases xac.1 (show e∈(t,i,bif xap p o then Dv.mw n else .mw p)::FU o n rg from he)with rfl|he
   ·exact .inr ⟨_,FS,p,rfl,rfl⟩
   ·exact ih e he
  |_=>
   rcases xac.1 he with rfl|he
   ·exact .inl<|FS
   ·exact ih e he
theorem Fm{u v:Value}{o:Nat}{X:Od}{ob:List (Nat×Od)}{rg:List (Nat×Nat×Dv)}(hB:Bd cx σ)(hd:wu cx d=true)(hb:∀e∈ob,e.1<σ.nx)
 (hc:∀e∈rg,∃e'∈vi σ.rg d [],e.1=e'.1/\e.2.1=e'.2.1/\(∀p,wj e.2.2=some p->wj e'.2.2=some p\/p=σ.nx)/\∀v S w,(vv P (Y8 vs σ.nx u) e'.2.2 v).p S w->(vv P (Y8 vs σ.nx u) e.2.2 v).p S w)
 (hg:St fr.we fr.Se (Qz (Y8 vs σ.nx u) (σ.nx,X)::OS vs fr cx ob) (GS P vs env fr cx σ) w):cm P fr cx σ.nx vs ⟨σ.nx+1,rg,(σ.nx,X)::ob⟩ (put env d v) w:=by
 obtain⟨ha,hi⟩:aR P fr cx ⟨σ.nx+1,vi σ.rg d [],(σ.nx,X)::ob⟩ (Y8 vs σ.nx u) (put env d v) w:=by
  refine CV (σ':=⟨σ.nx+1,vi σ.rg d [],(σ.nx,X)::ob⟩) (l:=[]) (vs:=vs) (vs':=Y8 vs σ.nx u) (Γl:=[]) hB hd rfl (xcd _) (fun o ho=>uB ho) (fun _ he=>absurd he IR) ?_ (fun S w _ e he=>absurd he IR) ?_
  ·intro e he;rcases xac.1 he with rfl|he
   ·exact xbY _
   ·exact xfq<|hb e he
  ·show St _ _ (Qz (Y8 vs σ.nx u) (σ.nx,X)::OS (Y8 vs σ.nx u) fr cx ob) _ _;rw[Ei hB hb];exact hg
 refine⟨Y8 vs σ.nx u,fun o ho=>uB ho,⟨ha.o1,ha.o2,fun e he p hp=> ?_,ha.r2⟩,hi.weak fun S w h=>zA.append (jK.2 fun f hf=> ?_)<|zA.right h⟩
 ·obtain⟨e',h1,_,_,h2,_⟩:=hc e he;rcases h2 p hp with h|rfl
  ·exact ha.r1 e' h1 p h
  ·exact xbY _
 ·obtain⟨e,he,rfl⟩:=xal.1 hf;obtain⟨e',h1,h2,h3,_,h4⟩:=hc e he;have h5:=JK (zA.left h) (t:=e'.1) (i:=e'.2.1) (d:=e'.2.2) h1;rw[h2,h3];exact QM h5 fun u hu=>h4 u S w hu
theorem zdB{u:Value}{o:Nat}(hr:zbA (Y8 vs σ.nx u o) (Y8 vs σ.nx u σ.nx)):∀e∈zdN o σ.nx σ.rg,∃e'∈vi σ.rg none [],e.1=e'.1/\e.2.1=e'.2.1/\(∀p,wj e.2.2=some p->wj e'.2.2=some p\/p=σ.nx)/\∀v S w,(vv P (Y8 vs σ.nx u) e'.2.2 v).p S w->(vv P (Y8 vs σ.nx u) e.2.2 v).p S w:=by
 intro e he;obtain⟨e',h1,rfl⟩:=FO e he;exact⟨e',h1,rfl,rfl,fun p hp=>zaf hp,fun v S w h=>TN hr h⟩
theorem Gf{u:Value}{o:Nat}{rg:List (Nat×Nat×Dv)}(hr:yY (Y8 vs σ.nx u σ.nx)=yY (Y8 vs σ.nx u o)):∀e∈FU o σ.nx rg,∃e'∈rg,e.1=e'.1/\e.2.1=e'.2.1/\(∀p,wj e.2.2=some p->wj e'.2.2=some p\/p=σ.nx)/\∀v S w,(vv P (Y8 vs σ.nx u) e'.2.2 v).p S w->(vv P (Y8 vs σ.nx u) e.2.2 v).p S w:=by
 intro e he;rcases Ix e he with h|⟨e',h1,p,h2,rfl⟩
 ·exact⟨e,h,rfl,rfl,fun p hp=> .inl hp,fun v S w h=>h⟩
 ·refine⟨e',h1,rfl,rfl,fun q hq=> ?_,fun v S w h=> ?_⟩
  ·rw[h2];cases hb:xap p o
   ·simp only[hb,cond_false]at hq;exact .inl hq
   ·simp only[hb,cond_true]at hq;cases hq;exact .inr rfl
  ·rw[h2]at h;have h:v=yY (Y8 vs σ.nx u p):=h;cases hb:xap p o
   ·exact h
   ·have hp:=z8 hb;subst hp;exact h.trans hr.symm
end
end
section
section
variable{P:Program}{cf:Cf}{fr:Fr}{cx σ:Sg}{vs vs':Nat->Value}{env:yN}{w:World}{R:Type}{r:R}
 {d:Option Tmp}{ty t yt:TypeId}{pos:String}{aft:Array Edge}{g:Option (Nat×Bool)}{x y:Operand}
theorem Mz{α:Type}{xss:List (List α)}{r:Nat}(h:r<xss.length):xss[r]? =some (jG xss r):=by simp_all [jG]
theorem ab{o:Nat}{s:Ty}{E E1:TypeId}{xss:List (List s.D)}{ix:List Nat}{ms:List MF}{Γ:List FF}(h:St fr.we fr.Se (Qz vs (o,.mat s E E1 xss ix)::ms) Γ w):
 (ve<|vs o).length=xss.length/\St fr.we fr.Se ((mO (Zk<|ve<|vs o) E (yY<|vs o) ix::wo s.rep E1 (ve<|vs o) xss)++ms) Γ w:=St.unpr<|St.grp.1 h
theorem GI{u:Value}{s:Ty}{E E1:TypeId}{xss:List (List s.D)}{ix:List Nat}{ms:List MF}{Γ:List FF}(hl:(ve u).length=xss.length)(h:St fr.we fr.Se ((mO (Zk<|ve u) E (yY u) ix::wo s.rep E1 (ve u) xss)++ms) Γ w):
 St fr.we fr.Se (lZ s.rep E E1 u xss ix::ms) Γ w:=St.grp.2<|St.pr hl h
theorem ziW{k:Sg->Option R}{ti:TI}(hT:yZ P cf.tt)(hr:Ye cf t=some ti){o p j:Nat}{e:Ty}{f:Fl e.D}(hx:xX cx σ x=some (.rp o e p j f))(h:ZU σ ti.ty (xX cx σ x) (xX cx σ y) k=some r):
 ou P cx ⟨none,.store t x y,ty,pos,aft,g⟩ σ k r:=by
 obtain⟨zero,hd,_⟩:=Vv hT hr;rw[hx]at h;simp only[ZU]at h;split at h
 ·next s' E E1 xss ix hb ho _=>
  obtain⟨ht,h1⟩:=yi h;cases ht;obtain⟨q,h2,hq⟩:=XZ h1;obtain⟨zss,hz,h⟩:=xq h2;obtain⟨hb⟩:=hb;refine⟨_,h,xab _,fun fr vs env w hR=> ?_⟩;obtain⟨hB,he⟩:=hR;obtain⟨S0,_,hΓ⟩:=he.ex;obtain⟨hu,b,m,cap,hv,hj,hw⟩:=zk hx<|zY hΓ x;have hf:=ZS ho he;obtain⟨hn,hp⟩:m=(jG (α:=e.D) xss p).length/\p<xss.length:=xR hf (i:=0) rfl fun S hp=>⟨gu (lv (show(lZ e.rep E E1 (vs o) xss ix).p S w from hp) hv).1 rfl,(lv (show(lZ e.rep E E1 (vs o) xss ix).p S w from hp) hv).2⟩;obtain⟨hl,hg⟩:=ab hf;have hi:=zfr (e:=e.rep) (E:=E) (E1:=E1) (v:=yY<|vs o) (ix:=ix) hv (Mz (α:=e.D) hp)<|OS vs fr cx<|yD σ.ob o;obtain⟨b',cap',hy,hA,hC,hs⟩:=hg.openO (p+1) hi (by lia);cases hy;rw[<-hb]at hd;have hk:=(Sub.rowT0 e.rep cap (jG (α:=e.D) xss p) j ((jG (α:=e.D) xss p).getD j e.z)<|getD_some e.z<|by lia).comp<|hu<|(jG (α:=e.D) xss p).getD j e.z;refine(Yj (f:=f.f.rep) (y':=q) (p+1) (wy hi) hw rfl hk hd (fun S w ha=>hq P vs env S w<|zY ha y) w hs).mono ?_;rintro v w' ⟨_,rfl,_,hD⟩;refine gx (vs:=vs) hB ho<|PE ho ?_;have hc:(xfX (jG (α:=e.D) xss p) j<|f.set q<|(jG (α:=e.D) xss p).getD j e.z).length=(jG (α:=e.D) xss p).length:=xcK ..;have hm:=hD.closeF (p+1) (wy<|wy hi) (by rw[hc];exact hA) hC;rw[kS,kS,hc,Gq hv hp hl]at hm;rw[hz];exact GI (by rw[show(zjr (α:=e.D) xss p _).length=xss.length from xcK ..];exact hl) hm
 ·cases h
theorem zje{k:Sg->Option R}{ti:TI}(hT:yZ P cf.tt)(hq:Ye cf t=some ti){o j o' p:Nat}(hx:xX cx σ x=some (.hp o j))(hy:xX cx σ y=some (.rw o' p))(h:ZU σ ti.ty (xX cx σ x) (xX cx σ y) k=some r):
 ou P cx ⟨none,.store t x y,ty,pos,aft,g⟩ σ k r:=by
 obtain⟨zero,hc,_⟩:=Vv hT hq;rw[hx,hy]at h;simp only[ZU]at h;obtain⟨hr,h⟩:=yh h;obtain rfl:=z8 hr;split at h
 ·next s' E E1 xss ix q ho ht=>
  obtain⟨iz,hz,h⟩:=xq h;refine⟨_,h,xab _,fun fr vs env w hR=> ?_⟩;obtain⟨hB,hd⟩:=hR;obtain⟨S0,_,hΓ⟩:=hd.ex;obtain⟨b,m,cap,hv,hj,hu⟩:=zk hx<|zY hΓ x;have hw:(ve<|vs o')[p]? =some (ev env y):=zk hy<|zY hΓ y;have he:=ZS ho hd;obtain⟨hn,hf⟩:m=ix.length/\(ev env y).oneCell'=true:=xR he (i:=0) rfl fun S hp=>⟨gu (Da (show(lZ s'.rep E E1 (vs o') xss ix).p S w from hp)).2.1 hv,(EO (lv (show(lZ s'.rep E E1 (vs o') xss ix).p S w from hp) hw).1).1⟩;obtain⟨hl,hg⟩:=ab he;obtain⟨b',cap',hi,hA,hC,hs⟩:=hg.openO 0 rfl (by lia);rw[hv]at hi;cases hi;have hk:=Sub.rowT0 (Zk<|ve<|vs o') cap ix j (ix.getD j 0) (getD_some 0<|by lia);rw[ht]at hc;refine(Yj (f:=Zk<|ve<|vs o') (y':=p) 0 rfl hu rfl hk hc (fun S w ha=> ?_) w hs).mono ?_
  ·exact zcI (zk hy<|zY ha y) hf
  rintro v w' ⟨_,rfl,_,hD⟩;refine gx (vs:=vs) hB ho<|PE ho ?_;have hb:(ix.set j p).length=ix.length:=xcK ..;have hm:=hD.closeF 0 rfl (by rw[hb];exact hA) hC;rw[hb,<-hv]at hm;rw[hz];exact GI hl hm
 ·cases h
theorem zdu{u:Value}{o:Nat}{hv:List Value}(hu:ve u=ve (vs o)++hv)(ho:yY u=yY (vs o))(ha:o<σ.nx):zbA (Y8 vs σ.nx u o) (Y8 vs σ.nx u σ.nx):=by
 rw[uB ha,vC];refine⟨ho,fun r v h=> ?_⟩;rw[hu,xbq (xat.1 h).1];exact h
theorem E3{o:Nat}{X:Od}(hB:Bd cx σ)(h:xO σ.ob o=some X):o<σ.nx:=by
 obtain⟨i,h1,_⟩:=wQ h;exact hB.o1 _<|xbx h1
theorem sY(hB:Bd cx σ){o p:Nat}:∀e∈yD (yD σ.ob o) p,e.1<σ.nx:=fun e he=>hB.o1 e<|ue e<|ue e he
theorem zjt{k:Sg->Option R}{ti:TI}(hT:yZ P cf.tt)(ht:Ye cf t=some ti){o j o2:Nat}(hx:xX cx σ x=some (.hp o j))(hy:xX cx σ y=some (.ow o2))(h:ZU σ ti.ty (xX cx σ x) (xX cx σ y) k=some r):
 ou P cx ⟨none,.store t x y,ty,pos,aft,g⟩ σ k r:=by
 obtain⟨zero,hd,_⟩:=Vv hT ht;rw[hx,hy]at h;simp only[ZU]at h;obtain⟨he,h⟩:=yh h;rw[xdn]at he;split at h
 ·next s' E E1 xss ix s2 E2 ys q ho hu hw=>
  obtain⟨hE,h0⟩:=yh h;obtain rfl:=z8 hE;obtain⟨hA,h1⟩:=yi h0;cases hA;obtain⟨zss,hz,h2⟩:=xq h1;obtain⟨iz,hi,h3⟩:=xq h2;refine⟨_,h3,xcd _,fun fr vs env w hR=> ?_⟩;obtain⟨hB,hf⟩:=hR;obtain⟨S0,_,hΓ⟩:=hf.ex;obtain⟨b,m,cap,hv,hj,hC⟩:=zk hx<|zY hΓ x;have hD:ev env y=vs o2:=zk hy<|zY hΓ y;have hb:=eK he ho hu hf;have hn:m=ix.length:=xR hb (i:=0) rfl fun S hp=>gu (Da (show(lZ s'.rep E E1 (vs o) xss ix).p S w from hp)).2.1 hv;obtain⟨hk,_⟩:(vs o2).oneCell'=true/\_:=xR hb (i:=1) (m:=mO s'.rep E1 (vs o2) ys) rfl fun S hp=>EO hp;have hl:=(ab hb).1
  have hg:St fr.we fr.Se ((mO (Zk<|ve (vs o)++[vs o2]) E (yY<|vs o) ix::wo s'.rep E1 (ve (vs o)++[vs o2]) (xss++[ys]))++OS vs fr cx (yD (yD σ.ob o) o2)) (GS P vs env fr cx σ) w:=
   St.grp.1 (St.adopt hl<|St.grp.2 (ab hb).2)
  obtain⟨b',cap',hm,hF,hG,hs⟩:=hg.openO 0 rfl (by lia);rw[hv]at hm;cases hm;have hq:=Sub.rowT0 (Zk<|ve (vs o)++[vs o2]) cap ix j (ix.getD j 0) (getD_some 0<|by lia);rw[hw]at hd;refine(Yj (f:=Zk<|ve (vs o)++[vs o2]) (y':=xss.length) 0 rfl hC hD hq hd (fun S w ha=>zcI (by rw[<-hl];simp) hk) w hs).mono ?_;rintro v w' ⟨_,rfl,_,hH⟩;have hc:(ix.set j xss.length).length=ix.length:=xcK ..;have hr:=hH.closeF 0 rfl (by rw[hc];exact hF) hG;rw[hc,<-hv]at hr;refine Fm (o:=o) (u:=KP (yY<|vs o)<|ve (vs o)++[vs o2]) hB rfl (sY hB) (zdB<|zdu rfl rfl<|E3 hB ho) ?_;rw[moU,hi,hz];refine GI (u:=KP (yY<|vs o)<|ve (vs o)++[vs o2]) (by show(ve (vs o)++[vs o2]).length=(xss++[ys]).length;simp[hl]) hr
 ·cases h
theorem zkl{k:Sg->Option R}{ti:TI}(hT:yZ P cf.tt)(hj:Ye cf t=some ti){o o2:Nat}(hx:xX cx σ x=some (.mw o))(hy:xX cx σ y=some (.ow o2))(h:ZU σ ti.ty (xX cx σ x) (xX cx σ y) k=some r):
 ou P cx ⟨none,.store t x y,ty,pos,aft,g⟩ σ k r:=by
 obtain⟨zero,hc,_⟩:=Vv hT hj;rw[hx,hy]at h;simp only[ZU]at h;obtain⟨hd,h⟩:=yh h;rw[xdn]at hd;split at h
 ·next E0 s2 E2 ys q ho hk hm=>
  refine⟨_,h,xcd _,fun fr vs env w hR=> ?_⟩;obtain⟨hB,he⟩:=hR;obtain⟨S0,_,hΓ⟩:=he.ex;have hn:ev env x=yY (vs o):=zk hx<|zY hΓ x;have hq:ev env y=vs o2:=zk hy<|zY hΓ y;have hf:=eK hd ho hk he;obtain⟨hg,_⟩:(vs o2).oneCell'=true/\_:=xR hf (i:=1) (m:=mO s2.rep E2 (vs o2) ys) rfl fun S hp=>EO hp;obtain⟨hl,h1⟩:=St.unpr<|St.grp.1 hf;have h1:St fr.we fr.Se (mP (Zk<|ve<|vs o).c E0 (yY<|vs o) 0::mO s2.rep E2 (vs o2) ys::OS vs fr cx (yD (yD σ.ob o) o2)) (GS P vs env fr cx σ) w:=h1;obtain⟨b,hb,h2⟩:=h1.openP 0 rfl;have hi:=zcd hl;have h3:=h2.conv (i:=0) (m:=mB (Zk<|ve<|vs o).c E0 b 0) (m':=mB (Zk<|ve (vs o)++[vs o2]).c E0 b 0) rfl rfl fun S hp=>by
   obtain⟨cs,g1,u,g2,g3,g4⟩:=hp;exact⟨cs,g1,u,by rw[xbq (xat.1 g2).1];exact g2,g3,g4⟩
  rw[hm]at hc;refine(Yj (e:=(Zk<|ve (vs o)++[vs o2]).c) (f:=Zk<|ve (vs o)++[vs o2]) (z':=0) (y':=1) (up:=id) 0 rfl (hn.trans hb) hq (Sub.self (Zk<|ve (vs o)++[vs o2]) 0) hc (fun S w ha=>zcI (by rw[hi];rfl) hg) w h3).mono ?_;rintro v w' ⟨_,rfl,_,hr⟩;have h4:St fr.we fr.Se (mB (Zk<|ve (vs o)++[vs o2]).c E0 b 1::mO s2.rep E2 (vs o2) ys::OS vs fr cx (yD (yD σ.ob o) o2)) (GS P vs env fr cx σ) w':=hr;have h5:=h4.conv (i:=0) (m:=mB (Zk<|ve (vs o)++[vs o2]).c E0 b 1) (m':=mB (Zk [vs o2]).c E0 b 0) rfl rfl fun S hp=>by
   obtain⟨cs,g1,u,g2,g3,g4⟩:=hp;refine⟨cs,g1,u,?_,g3,g4⟩;rw[hi]at g2;exact g2
  have h6:=h5.toP 0 rfl;rw[<-hb]at h6;have h7:St fr.we fr.Se (mP (Zk [vs o2]).c E0 (yY<|vs o) 0::mO s2.rep E2 (vs o2) ys::OS vs fr cx (yD (yD σ.ob o) o2)) (GS P vs env fr cx σ) w':=h6;refine Fm (o:=o) (u:=KP (yY<|vs o) [vs o2]) hB rfl (sY hB) (Gf<|by rw[vC,uB<|E3 hB ho];rfl) ?_
  ·rw[moU];exact St.grp.2<|St.pr (p:=([vs o2]:List Value).length=1) rfl h7
 ·cases h
theorem zbJ(hT:yZ P cf.tt){k:Sg->Option R}{ti:TI}(ha:Ye cf t=some ti)(h:ZU σ ti.ty (xX cx σ x) (xX cx σ y) k=some r):ou P cx ⟨none,.store t x y,ty,pos,aft,g⟩ σ k r:=by
 have h0:=h;unfold ZU at h;split at h
 ·next o e r j f hx=>exact ziW hT ha hx h0
 ·next o j o' r hx hy=>exact zje hT ha hx hy h0
 ·next o j o2 hx hy=>exact zjt hT ha hx hy h0
 ·next o o2 hx hy=>exact zkl hT ha hx hy h0
 ·cases h
theorem gU:∀{ob:List (Nat×Od)}{o p:Nat},o≠p->yD (yD ob o) p=yD (yD ob p) o
 |[],_,_,_=>rfl
 |(q,X)::r,o,p,h=>by
  have ih:=gU (ob:=r) h;cases h1:xap q o
  ·cases h2:xap q p
   ·simp only[yD,h1,h2,cond_false];rw[ih]
   ·simp only[yD,h1,h2,cond_false,cond_true]
  ·cases h2:xap q p
   ·simp only[yD,h1,h2,cond_false,cond_true]
   ·have:=(z8 h1).symm.trans<|z8 h2;exact absurd this h
theorem BQ{S:Nat->Prop}{w:World}{hv ha:List Value}:∀{ix:List Nat}{cs:List Value},yu (Zk ha) S ix cs w->yu (Zk<|hv++ha) S (ix.map (hv.length+ ·)) cs w
 |[],_,h=>h
 |r::ix,cs,⟨c,q,h1,⟨u,h2,h3,h4⟩,h5⟩=>⟨c,q,h1,⟨u,by show(hv++ha)[hv.length+r]? =some u;rw[xcn<|xbP _ _,xfc];exact h2,h3,h4⟩,BQ h5⟩
theorem BR{α:Type}{e:zZ α}{E:TypeId}:∀{hv ha:List Value}{xss yss:List (List α)},hv.length=xss.length->wo e E (hv++ha) (xss++yss)=wo e E hv xss++wo e E ha yss
 |[],_,[],_,_=>rfl
 |u::hv,ha,xs::xss,yss,h=>by
  show mO e E u xs::wo e E (hv++ha) (xss++yss)=mO e E u xs::(wo e E hv xss++wo e E ha yss);rw[BR<|by simpa using h]
 |[],_,_::_,_,h=>by cases h
 |_::_,_,[],_,h=>by cases h
theorem zgW(hT:yZ P cf.tt){ags:Array Operand}{ts:Array TypeId}{k:Sg->Option R}(hd:wu cx d=true)(h:za8 cf cx σ d ags.toList ts.toList k=some r):
 ou P cx ⟨d,.call ⟨.builtin .append,ags,ts⟩,ty,pos,aft,g⟩ σ k r:=by
 unfold za8 at h;split at h
 ·next _ _ x y t t' hS hU=>
  obtain rfl:ags= #[x,y]:=by cases ags;simp_all
  obtain rfl:ts= #[t,t']:=by cases ts;simp_all
  split at h
  ·next s E B o p ht hx hy=>
   obtain⟨hg,h6⟩:=yh h;rw[xao]at hg;obtain⟨hC,hl⟩:=hg;obtain rfl:=z8 hC;rw[xdn]at hl;clear h;split at h6
   ·next q1 q2 B1 s1 E1 F1 xss ix s2 E2 F2 yss iy hn ho hp=>
    obtain⟨hg,h1⟩:=yh h6;simp only[xao]at hg;obtain⟨hf,hj,hF⟩:=hg;have hf:=z8 hf;have hj:=z8 hj;have hF:=z8 hF;subst hf;subst hj;subst hF;obtain⟨hD,h2⟩:=yi h1;cases hD;obtain⟨hb,h3⟩:=kG h2;obtain⟨zss,hz,h4⟩:=xq h3;obtain⟨iz,hi,h5⟩:=xq h4;have hE:=Ng hT hn rfl;have hc:=(hT _ _ hn).2.1;refine⟨_,h5,xcd _,fun fr vs env w hR=> ?_⟩;obtain⟨hB,hr⟩:=hR;obtain⟨S0,_,hΓ⟩:=hr.ex;have hG:ev env x=yY (vs o):=zk hx<|zY hΓ x;have hH:ev env y=yY (vs p):=zk hy<|zY hΓ y;have hI:=eK hl ho hp hr;obtain⟨hk,hJ⟩:=ab hI;have hu:St fr.we fr.Se (Qz vs (p,.mat s1 E2 F1 yss iy)::((mO (Zk<|ve<|vs o) E2 (yY<|vs o) ix::wo s1.rep F1 (ve<|vs o) xss)++OS vs fr cx (yD (yD σ.ob o) p))) (GS P vs env fr cx σ) w:=hJ.perm xct;obtain⟨hK,hL⟩:=ab hu;have hN:St fr.we fr.Se (mO (Zk<|ve<|vs o) E2 (yY<|vs o) ix::mO (Zk<|ve<|vs p) E2 (yY<|vs p) iy::(wo s1.rep F1 (ve<|vs o) xss++wo s1.rep F1 (ve<|vs p) yss++OS vs fr cx (yD (yD σ.ob o) p))) (GS P vs env fr cx σ) w:=by
     refine hL.perm ?_;simp only[xbI,xaj];refine(List.Perm.cons _ xct).trans<|(xeO ..).trans ?_;refine List.Perm.cons _<|List.Perm.cons _ ?_;exact(xdG ..)
    have hO:=hN.conv (i:=0) (m:=mO (Zk<|ve<|vs o) E2 (yY<|vs o) ix) (m':=mO (Zk<|ve (vs o)++ve (vs p)) E2 (yY<|vs o) ix) rfl rfl fun S hq=>N6 hq;have HY:∀m,m*B1<=140737488355328->m<=9223372036854775807:=fun m hm=>by
     have hc:0<B1:=hc;have:=xcb m hc;lia
    have he:(iy.map (xaI xss+ ·)).length=iy.length:=xaP _;refine(J2 (e:=Zk<|ve (vs o)++ve (vs p)) (ys:=iy.map (xaI xss+ ·)) 0 (vn hT ht) hE rfl xec rfl hG hH (fun S w hM ha=> ?_) (HY _<|by rw[he];exact hb) (by rw[he];exact hb) w hO).mono ?_
    ·have hm:(mO (Zk<|ve<|vs p) E2 (yY<|vs p) iy).p S w:=hM.2.1;have hw:(mO (Zk<|ve (vs o)++ve (vs p)) E2 (yY<|vs p) (iy.map (xaI xss+ ·))).p S w:=by
      obtain⟨cs,a1,a2⟩:=hm;refine⟨cs,by rw[he];exact a1,?_⟩;rw[<-hk];exact BQ a2
     rcases KG hw with⟨hv,hA⟩|⟨b,cap,hv,hP,hQ⟩
     ·rw[hv,hA];exact⟨none,0,rfl,xab _,xah _,.inl rfl⟩
     ·have h6:=E6 hw hv (l:=0) (n:=(iy.map (xaI xss+ ·)).length) (c:=cap) (by lia) hP hQ;rw[List.drop_zero,xcP]at h6;rw[hv];simpa using h6
    rintro v w' ⟨v',rfl,_,hs⟩;refine UU (vs:=vs) (mk:=.mw) (u:=KP v<|ve (vs o)++ve (vs p)) hB hd (sY hB) (fun _=>rfl) (fun S w=>by simp only[vv,vC];rfl) ?_;rw[moU,hz,hi];have h7:St fr.we fr.Se (mO (Zk<|ve (vs o)++ve (vs p)) E2 v (ix++iy.map (xaI xss+ ·))::mO (Zk<|ve<|vs p) E2 (yY<|vs p) iy::(wo s1.rep F1 (ve<|vs o) xss++wo s1.rep F1 (ve<|vs p) yss++OS vs fr cx (yD (yD σ.ob o) p))) (GS P vs env fr cx σ) w':=hs;have h8:=St.drop (i:=1) h7;refine GI (u:=KP v<|ve (vs o)++ve (vs p)) (by show(ve (vs o)++ve (vs p)).length=(xss++yss).length;simp[hk,hK]) ?_;show St _ _ ((mO (Zk<|ve (vs o)++ve (vs p)) E2 v _::wo s1.rep F1 (ve (vs o)++ve (vs p)) (xss++yss))++_) _ _;rw[BR hk];exact h8
   ·cases h6
  ·cases h
 ·cases h
theorem Sj(hX:Aa P cf){s:th}{f:Operand}{ags:Array Operand}{ts:Array TypeId}{k:Sg->Option R}(hd:wu cx d=true)(hf:xX cx σ f=some (.fn s.f []))(hs:s∈cf.ms)(h:sK cx σ d s ags.toList k=some r):
 ou P cx ⟨d,.call ⟨.value f,ags,ts⟩,ty,pos,aft,g⟩ σ k r:=by
 obtain⟨hb,hq⟩:=hX.ms s hs;unfold sK at h;split at h
 ·next _ x a p y hF=>
  obtain rfl:ags= #[x,a,p,y]:=by cases ags;simp_all
  split at h
  ·next o r0 av pv o' lo n hx ha hp hy=>
   obtain⟨hr,h6⟩:=yh h;obtain rfl:=z8 hr;clear h;split at h6
   ·next s1 E E1 xss ix ho=>
    obtain⟨hg,h1⟩:=yh h6;rw[xao]at hg;have hE:=z8 hg.1;have hi:=z8 hg.2;obtain⟨ht,h2⟩:=yi h1;cases ht;obtain⟨zss,hz,h3⟩:=rM h2;refine⟨_,h3,xcd _,fun fr vs env w hR=> ?_⟩;obtain⟨hB,hj⟩:=hR;obtain⟨S0,_,hΓ⟩:=hj.ex;have hw:(ve<|vs o)[r0]? =some (ev env x):=zk hx<|zY hΓ x;have hk:=xW ha<|zY hΓ a;have hl:=xW hp<|zY hΓ p;have hA:Fw (yY<|vs o) lo n (ev env y):=zk hy<|zY hΓ y;obtain⟨cvs,hv,hC,hG⟩:=zk hf<|zY hΓ f;obtain rfl:cvs=[]:=xbF.1 hC;have hm:=ZS ho hj;rw[hE,hi]at hm;have hc:=hq xss ix r0 av pv lo n zss hz (vs o) (ev env x) (ev env y) hw hA hk.2 hl.2 fr.we fr.Se _ _ w hm;have hn:(execOp (ev env) ⟨d,.call ⟨.value f,#[x,a,p,y],ts⟩,ty,pos,aft,g⟩).run P w=.ok (.enter s.f #[ev env x,.int .i64 av,.int .i64 pv,ev env y]) w:=by simp[execOp,resolve,hv,xdJ,invoke,kP hb,hk.1,hl.1]
    unfold kv;rw[hn];refine hc.mono ?_;rintro e w' ⟨v,u',rfl,hu,hD⟩;refine⟨v,rfl,Fm (o:=o) (u:=u') hB hd (fun e he=>hB.o1 e<|ue e he) (Gf<|by rw[vC,uB<|E3 hB ho];exact hu) ?_⟩;rw[moU];show St _ _ (lZ s.t.rep E E1 u' zss ix::_) _ _;rw[hE,hi];exact hD
   ·cases h6
  ·cases h
 ·cases h
theorem sG{o n:Nat}:∀{rg:List (Nat×Nat×Dv)},∀e∈Ic o n rg,e∈rg\/∃e'∈rg,∃p,e'.2.2=.yd p/\e=(e'.1,e'.2.1,bif xap p o then .yd n else .yd p)
 |[],e,he=>absurd he IR
 |(t,i,v)::rg,e,he=>by
  have ih:∀e∈Ic o n rg,e∈(t,i,v)::rg\/∃e'∈(t,i,v)::rg,∃p,e'.2.2=.yd p/\e=(e'.1,e'.2.1,bif xap p o then .yd n else .yd p):=fun e he=>by
   rcases sG e he with h|⟨e',h1,p,h2,h3⟩
   ·exact .inl<|UV _ h
   ·exact .inr ⟨e',UV _ h1,p,h2,h3⟩
  cases v with
  |yd p=>
   rcases xac.1 (show e∈(t,i,bif xap p o then Dv.yd n else .yd p)::Ic o n rg from he)with rfl|he
   ·exact .inr ⟨_,FS,p,rfl,rfl⟩
   ·exact ih e he
  |_=>
   rcases xac.1 he with rfl|he
   ·exact .inl<|FS
   ·exact ih e he
theorem zcW(hX:Aa P cf){o:Nat}{f:Operand}{ags:Array Operand}{ts:Array TypeId}{k:Sg->Option R}(hd:wu cx d=true)(hf:xX cx σ f=some (.yd o))(h:CC cx σ d o ags.toList k=some r):
 ou P cx ⟨d,.call ⟨.value f,ags,ts⟩,ty,pos,aft,g⟩ σ k r:=by
 unfold CC at h;split at h
 ·next _ x hC=>
  obtain rfl:ags= #[x]:=by cases ags;simp_all
  split at h
  ·next p hx=>
   obtain⟨hi,h⟩:=yh h;rw[xdn]at hi;split at h
   ·next t E X Y mX mY gg z s E2 ys ho hp=>
    obtain⟨hE,h1⟩:=yh h;have hE:=z8 hE;subst hE;obtain⟨hm,h2⟩:=yi h1;cases hm;obtain⟨q,hq,h3⟩:=rM h2
    have main:∀(fr:Fr) (vs:Nat->Value) (env:yN) (w:World),aR P fr cx σ vs env w->kv P ⟨d,.call ⟨.value f,#[x],ts⟩,ty,pos,aft,g⟩ env w fun v w'=>v=.bool q.2.isLeft/\Bd cx σ/\GA P (lOf<|yY<|vs o) t.rep E2 mX mY gg/\
     ∃u',St fr.we fr.Se (xfw (fun x=>mX x u') (fun y=>mY y u') q.2::mO t.rep E2 (vs p) q.1::OS vs fr cx (yD (yD σ.ob o) p)) (GS P vs env fr cx σ) w':=by
     intro fr vs env w hR;obtain⟨hB,hj⟩:=hR;obtain⟨S0,_,hΓ⟩:=hj.ex;have hn:ev env x=vs p:=zk hx<|zY hΓ x;have ht:ev env f=.func (.yield<|lOf<|yY<|vs o) #[] #[]:=zk hf<|zY hΓ f;have hv:=eK hi ho hp hj;obtain⟨hY,h4⟩:=St.unpr<|St.grp.1 hv;rw[<-hX.pp]at hY;have h4:St fr.we fr.Se (mX z ((ve<|vs o).headD undef)::mO t.rep E2 (vs p) ys::OS vs fr cx (yD (yD σ.ob o) p)) (GS P vs env fr cx σ) w:=h4;obtain⟨fn,tmps,as',bd',hy,hR⟩:=hY ys z q.1 q.2 hq (vs p) _ _ _ _ _ w h4;have hk:(execOp (ev env) ⟨d,.call ⟨.value f,#[x],ts⟩,ty,pos,aft,g⟩).run P w=.ok (.round (lOf<|yY<|vs o) fn tmps as' bd') w:=by
      rw[<-hn]at hy;simp[execOp,resolve,ht,xdJ,invoke,hy]
     unfold kv;rw[hk];exact hR.mono fun e w' ⟨h5,h6⟩=>⟨_,h5,rfl,hB,hY,h6⟩
    have fin:∀(X':Od) (b:Bool) (u':Value) (vs:Nat->Value) (fr:Fr) (env:yN) (w':World),Bd cx σ->St fr.we fr.Se (Qz (Y8 vs σ.nx<|KP (yY<|vs o) [u']) (σ.nx,X')::mO t.rep E2 (vs p) q.1::OS vs fr cx (yD (yD σ.ob o) p)) (GS P vs env fr cx σ) w'->
     cm P fr cx σ.nx vs ⟨σ.nx+1,Ic o σ.nx<|vi σ.rg d [(0,.kb b)],(σ.nx,X')::yD (kL σ.ob p (.own t E2 q.1)) o⟩ (put env d (.bool b)) w':=by
     intro X' b u' vs fr env w' hB hs;have hc:p≠o:=fun e=>by subst e;simp at hi
     have hw:=E3 hB ho;have hD:xO (yD σ.ob o) p=some (.own t E2 ys):=by rw[QT hc];exact hp
     have hz:St fr.we fr.Se (Qz (Y8 vs σ.nx<|KP (yY<|vs o) [u']) (σ.nx,X')::OS vs fr cx (yD (kL σ.ob p (.own t E2 q.1)) o)) (GS P vs env fr cx σ) w':=by
      have h7:=kT (vs:=vs) (fr:=fr) (cx:=cx) (ob:=yD (kL σ.ob p (.own t E2 q.1)) o) (o:=p) (X:=.own t E2 q.1) (by rw[QT hc];exact(Q4 hp).1);have h8:yD (yD (kL σ.ob p (.own t E2 q.1)) o) p=yD (yD σ.ob o) p:=by rw[gU<|fun e=>hc e.symm,(Q4 hp).2,gU<|fun e=>hc e]
      rw[h8]at h7;exact hs.perm<|h7.symm.cons _
     obtain⟨ha,hA⟩:aR P fr cx ⟨σ.nx+1,vi σ.rg d [(0,.kb b)],(σ.nx,X')::yD (kL σ.ob p (.own t E2 q.1)) o⟩ (Y8 vs σ.nx<|KP (yY<|vs o) [u']) (put env d (.bool b)) w':=by
      have hl:∀e∈yD (kL σ.ob p (.own t E2 q.1)) o,e.1<σ.nx:=fun e he=>by
       obtain⟨e1,g1,g2⟩:=KQ hp e<|ue e he;rw[<-g2];exact hB.o1 e1 g1
      refine CV (σ':=⟨σ.nx+1,vi σ.rg d [(0,.kb b)],(σ.nx,X')::yD (kL σ.ob p (.own t E2 q.1)) o⟩) (l:=[(0,.kb b)]) (vs:=vs) (Γl:=[]) hB hd rfl (xcd _) (fun o ho=>uB ho) (fun e he p hp=> ?_) (fun e he=> ?_) (fun S w _ e he=> ?_) ?_
      ·obtain rfl:=xai.1 he;cases hp
      ·rcases xac.1 he with rfl|he
       ·exact xbY _
       ·exact xfq<|hl e he
      ·obtain rfl:=xai.1 he;exact rfl
      ·show St _ _ (Qz (Y8 vs σ.nx _) (σ.nx,X')::OS (Y8 vs σ.nx _) fr cx (yD (kL σ.ob p (.own t E2 q.1)) o)) _ _;rw[Ei hB hl];exact hz
     refine⟨_,fun o ho=>uB ho,⟨ha.o1,ha.o2,fun e he r hr=> ?_,ha.r2⟩,hA.weak fun S w h=>zA.append (jK.2 fun f hf=> ?_)<|zA.right h⟩
     ·rcases sG e he with h|⟨e',h1,r',h2,rfl⟩
      ·exact ha.r1 e h r hr
      ·cases hb:xap r' o<;>simp only[hb,cond_true,cond_false]at hr
       ·exact ha.r1 e' h1 r<|by rw[h2];exact hr
       ·cases hr;exact xbY _
     ·obtain⟨e,he,rfl⟩:=xal.1 hf;rcases sG e he with h'|⟨e',h1,r',h2,rfl⟩
      ·exact JK (zA.left h) h'
      ·have h5:=JK (zA.left h) (t:=e'.1) (i:=e'.2.1) (d:=e'.2.2) h1;rw[h2]at h5;refine QM h5 fun u hu=> ?_;cases hb:xap r' o
       ·exact hu
       ·have hu:u=.func (.yield<|lOf<|yY<|Y8 vs σ.nx (KP (yY<|vs o) [u']) r') #[] #[]:=hu;rw[z8 hb,uB hw]at hu;show u=.func (.yield<|lOf<|yY<|Y8 vs σ.nx (KP (yY<|vs o) [u']) σ.nx) #[] #[];rw[vC];exact hu
    cases hg:q.2 with
    |inl z'=>
     rw[hg]at h3;refine⟨_,h3,xcd _,fun fr vs env w hR=>(main fr vs env w hR).mono ?_⟩;rintro v w' ⟨rfl,hB,hY,u',hs⟩;rw[hg]at hs⊢;refine fin _ true u' vs fr env w' hB ?_;rw[moU];refine St.grp.2 ?_;rw[<-hX.pp];exact St.pr hY hs
    |inr y'=>
     rw[hg]at h3;refine⟨_,h3,xcd _,fun fr vs env w hR=>(main fr vs env w hR).mono ?_⟩;rintro v w' ⟨rfl,hB,hY,u',hs⟩;rw[hg]at hs⊢;refine fin _ false u' vs fr env w' hB ?_;rw[moU];exact hs
   ·cases h
  ·cases h
 ·cases h
end
end
section
section
variable{P:Program}{cf:Cf}{fr:Fr}{cx σ:Sg}{vs vs':Nat->Value}{env:yN}{w:World}{R:Type}{r:R}
 {d:Option Tmp}{ty t yt:TypeId}{pos:String}{aft:Array Edge}{g:Option (Nat×Bool)}{x y:Operand}
theorem HA{o:Nat}{s:Ty}{E:TypeId}{xs:List s.D}{S:Nat->Prop}(hf:(fV (eS s.rep) xs<|vs o).p S w):∀{rg:List (Nat×Nat×Dv)},zA S (RS P vs env rg) w->zA S (RS P vs env<|C5 o (.own s E xs) rg) w
 |[],_=>trivial
 |(t,i,v)::rg,h=>by
  refine⟨?_,HA hf h.2⟩;have h1:(xK P vs v (env t) i).p S w:=h.1;show(xK P vs (rF o (.own s E xs) v) (env t) i).p S w;cases v<;>try exact h1
  rename_i o';unfold rF;cases hb:xap o' o<;>simp only[hb,cond_false,cond_true]
  ·exact h1
  ·have:=z8 hb;subst this;refine QM h1 fun u hu=> ?_;rw[show u=vs o' from hu];exact hf
theorem HT{o:Nat}{s:Ty}{E:TypeId}{z:s.D}{S:Nat->Prop}(hf:(fP s.rep z<|vs o).p S w):∀{rg:List (Nat×Nat×Dv)},zA S (RS P vs env rg) w->zA S (RS P vs env<|C5 o (.var s E z) rg) w
 |[],_=>trivial
 |(t,i,v)::rg,h=>by
  refine⟨?_,HT hf h.2⟩;have h1:(xK P vs v (env t) i).p S w:=h.1;show(xK P vs (rF o (.var s E z) v) (env t) i).p S w;cases v<;>try exact h1
  rename_i o' s';unfold rF;cases hb:xap o' o<;>simp only[hb,cond_false,cond_true]
  ·exact h1
  ·have:=z8 hb;subst this;refine QM h1 fun u hu=> ?_;rw[show u=vs o' from hu.1];exact hf
theorem Lb{o:Nat}{s:Ty}{E E1:TypeId}{xss:List (List s.D)}{ix:List Nat}{S:Nat->Prop}(hf:(fV (eS<|eS s.rep) (Sa xss ix)<|yY<|vs o).p S w):∀{rg:List (Nat×Nat×Dv)},zA S (RS P vs env rg) w->zA S (RS P vs env<|C5 o (.mat s E E1 xss ix) rg) w
 |[],_=>trivial
 |(t,i,v)::rg,h=>by
  refine⟨?_,Lb hf h.2⟩;have h1:(xK P vs v (env t) i).p S w:=h.1;show(xK P vs (rF o (.mat s E E1 xss ix) v) (env t) i).p S w;cases v<;>try exact h1
  rename_i o';unfold rF;cases hb:xap o' o<;>simp only[hb,cond_false,cond_true]
  ·exact h1
  ·have:=z8 hb;subst this;refine QM h1 fun u hu=> ?_;rw[show u=yY (vs o')from hu];exact hf
theorem Uz{o:Nat}{X:Od}(hX:∀v,rF o X v=v):∀{rg:List (Nat×Nat×Dv)},C5 o X rg=rg
 |[]=>rfl
 |(t,i,v)::rg=>by
  show(t,i,rF o X v)::C5 o X rg=_;rw[hX,Uz hX]
theorem zaS{o p:Nat}{X:Od}{v:Dv}(h:wj (rF o X v)=some p):wj v=some p:=by
 unfold rF at h;split at h
 ·next o' s E xs=>
  cases hb:xap o' o<;>rw[hb]at h
  ·exact h
  ·cases h
 ·next o' t' s E z=>
  cases hb:xap o' o<;>rw[hb]at h
  ·exact h
  ·cases h
 ·next o' s E E1 xss ix=>
  cases hb:xap o' o<;>rw[hb]at h
  ·exact h
  ·cases h
 ·exact h
theorem Gv{o:Nat}{X:Od}:∀{rg:List (Nat×Nat×Dv)},∀e∈C5 o X rg,∀p,wj e.2.2=some p->∃e'∈rg,wj e'.2.2=some p
 |[],e,he=>absurd he IR
 |(t,i,v)::rg,e,he=>by
  intro p hp;rcases xac.1 he with rfl|he
  ·refine⟨(t,i,v),FS,?_⟩;exact zaS hp
  ·obtain⟨e',h1,h2⟩:=Gv e he p hp;exact⟨e',UV _ h1,h2⟩
theorem BZ{o:Nat}(h:aR P fr cx σ vs env w):aR P fr cx (H6 σ o) vs env w:=by
 unfold H6;split
 ·next X ho=>
  obtain⟨hB,hb⟩:=h;obtain⟨i,hi,_,hc⟩:=wQ ho;have hd:Bd cx ⟨σ.nx,C5 o X σ.rg,yD σ.ob o⟩:=⟨fun e he=>hB.o1 e<|ue e he,hB.o2,fun e he p hp=>by obtain⟨e',h1,h2⟩:=Gv e he p hp;exact hB.r1 e' h1 p h2,hB.r2⟩;refine⟨hd,?_⟩
  cases X with
  |own s E xs=>
   have hm:(OS vs fr cx σ.ob)[i]? =some (mO s.rep E (vs o) xs):=Vd hi;have:=Dy i hb hm;rw[UC hi,<-hc]at this;exact this.weak fun S w ha=>zA.append (HA ha.1<|zA.left ha.2)<|zA.right ha.2
  |var s E z=>
   have hm:(OS vs fr cx σ.ob)[i]? =some (mP s.rep.c E (vs o) z):=Vd hi;obtain⟨b,hv,hs⟩:=hb.openP i hm;have:=zhk (e:=s.rep) i hs<|wy hm;rw[iR,UC hi,<-hc,<-hv]at this;exact this.weak fun S w ha=>zA.append (HT ha.1<|zA.left ha.2)<|zA.right ha.2
  |mat s E E1 xss ix=>
   have h1:=ZS ho hb;have h2:St fr.we fr.Se (SP s.rep E E1 (yY<|vs o) (ve<|vs o) xss ix::OS vs fr cx (yD σ.ob o)) (GS P vs env fr cx σ) w:=St.grp.2 (ab h1).2;exact(h2.mat_frz (ab h1).1).weak fun S w ha=>zA.append (Lb ha.1<|zA.left ha.2)<|zA.right ha.2
  |bo s E E0 xs=>
   rw[Uz<|fun v=>by cases v<;>rfl];exact St.drop (i:=0)<|ZS ho hb
  |ho E0=>
   rw[Uz<|fun v=>by cases v<;>rfl];exact St.drop (i:=0)<|ZS ho hb
  |hid t E X Y mX mY g x=>
   rw[Uz<|fun v=>by cases v<;>rfl];exact St.drop (i:=0)<|ZS ho hb
  |hiy Y mY y=>
   rw[Uz<|fun v=>by cases v<;>rfl];exact St.drop (i:=0)<|ZS ho hb
 ·exact h
theorem TJ(x:Operand)(h:aR P fr cx σ vs env w):aR P fr cx (frz cx σ x) vs env w:=by grind [frz,BZ]
theorem C4(x:Operand)(h:Zi P fr cx σ env w):Zi P fr cx (frz cx σ x) env w:=by
 obtain⟨hB,vs,ha⟩:=h;obtain⟨h1,h2⟩:=TJ x ⟨hB,ha⟩;exact⟨h1,vs,h2⟩
theorem oM:∀(l:List Operand) {σ:Sg},Zi P fr cx σ env w->Zi P fr cx (ze2 cx σ l) env w
 |[],_,h=>h
 |x::r,_,h=>oM r<|C4 x h
theorem zhg(hT:yZ P cf.tt)(hL:jN P cf.tt)(hC:∀s∈cf.cs,y6 P s)(hX:Aa P cf){op:Op}{k:Sg->Option R}(hd:wu cx d=true)(h:zgE cf cx σ d op k=some r):
 ou P cx ⟨d,op,ty,pos,aft,g⟩ σ k r:=by
 unfold zgE at h;split at h
 ·exact zeH hT hd h
 ·next E x=>
  cases hb:zii cf d<;>rw[hb]at h
  ·exact m_E hT hL hC hX hd h
  ·exact zkt hd h
 ·next t x y=>
  obtain⟨hn,h⟩:=yh h;have hn:d=none:=by simpa using hn
  subst hn;split at h
  ·next ti ha=>exact zeX hT ha h
  ·cases h
 ·exact zgp hT hd h
 ·exact zjp hT hL hd h
 ·next t x hi=>
  split at h
  ·next o hx=>exact zdY hT hL hd hx h
  ·exact m_E hT hL hC hX hd h
 ·exact ziS hT hd h
 ·exact zgC hT hL hd h
 ·next f ags ts=>
  split at h
  ·next f' cs hf=>
   split at h
   ·next s hs=>exact zg5 hC hd hf hs h
   ·exact m_E hT hL hC hX hd h
  ·exact m_E hT hL hC hX hd h
 ·exact m_E hT hL hC hX hd h
theorem zgm(hT:yZ P cf.tt)(hL:jN P cf.tt)(hC:∀s∈cf.cs,y6 P s)(hX:Aa P cf){op:Op}{k:Sg->Option R}(hd:wu cx d=true)(h:mOp cf cx σ d op k=some r):
 ou P cx ⟨d,op,ty,pos,aft,g⟩ σ k r:=by
 unfold mOp at h
 cases hc:coM cf cx σ d op with
 |no=>rw[hc]at h;exact zhg hT hL hC hX hd h
 |_=>
  rw[hc]at h;simp only[mCo]at h;unfold coM at hc;split at hc
  ·next t x y=>
   cases hb:P5 (xX cx σ x)<;>rw[hb]at hc<;>cases hc
   all_goals
    obtain⟨hn,h⟩:=yh h
    have hn:d=none:=by simpa using hn
    subst hn
    split at h
    ·next ti ha=>exact zbJ hT ha h
    ·cases h
  ·next t x y=>
   cases hb:MW cf d<;>rw[hb]at hc<;>cases hc;all_goals exact zed hT hd h
  ·next t n ps=>
   cases hb:MW cf d<;>rw[hb]at hc<;>cases hc;all_goals exact zh6 hT hL hd h
  ·next E=>
   cases hb:MW cf d<;>rw[hb]at hc<;>cases hc;all_goals exact Tj hT hd h
  ·next t x=>
   split at hc
   ·next o hx=>cases hc<;>exact zdQ hT hd hx h
   ·cases hc
  ·next ags ts=>
   cases hb:ags.toList.any (fun x=>SE<|xX cx σ x)<;>rw[hb]at hc<;>cases hc;all_goals exact zgW hT hd h
  ·next f ags ts=>
   split at hc
   ·next o hf=>cases hc<;>exact zcW hX hd hf h
   ·next f' hf=>
    split at hc
    ·next s hs=>
     obtain⟨h1,h2⟩:=SQ hs;subst h2;cases hc<;>exact Sj hX hd hf h1 h
    ·cases hc
   ·cases hc
  ·cases hc
theorem zcp{t:Tmp}:put env (some t) (env t)=env:=by grind [sn,cW]
theorem gA{t:Tmp}{b:Bool}(hn:Yd cx.rg t=true)(hv:env t=.bool b)(h:Zi P fr cx σ env w):Zi P fr cx (Dk σ t b) env w:=by
 obtain⟨hB,vs,ha⟩:=h
 have:=cm.rel<|Qq (P:=P) (fr:=fr) (cx:=cx) (σ:=σ) (vs:=vs) (vs':=vs) (env:=env) (w:=w) (d:=some t) (v:=env t) (σ':=Dk σ t b) (l:=[(0,.kb b)]) (Γl:=[]) hB hn rfl (xab _) (fun _ _=>rfl)
  (fun e he o ho=>by obtain rfl:=xai.1 he;cases ho) hB.o1 (fun S w _ e he=>by obtain rfl:=xai.1 he;exact hv) ha
 rwa[zcp]at this
theorem gG{t:Tmp}{x:Bool}{S:Nat->Prop}(h:get cx σ t 0=some (.d .b x))(hl:Lk P vs env S w cx σ t):env t=.bool x:=eR<|hl 0 _ h
theorem Ih{b:Bool}{a c:Option R}(h:ifB b a c=some r):(b=true/\a=some r)\/(b=false/\c=some r):=by
 cases b
 ·exact .inr ⟨rfl,h⟩
 ·exact .inl ⟨rfl,h⟩
theorem zeZ{all:List Oper}{o:Oper}{k:Sg->Bool->Option R}(h:cr cx all o σ k=some r)(hR:Zi P fr cx σ env w):∃σ' b,k σ' b=some r/\Zi P fr cx σ' env w/\yF all.toArray env o=b:=by
 have ha:=hR;obtain⟨hB,vs,hd⟩:=hR;obtain⟨S,_,hΓ⟩:=hd.ex;unfold cr at h;split at h
 ·next hg=>exact⟨σ,true,h,ha,by unfold yF;rw[hg]⟩
 ·next j want hg=>
  split at h
  ·next o' he=>
   split at h
   ·next t ht=>
    have hc:∀{v},env t=v->gd all.toArray env j=(match v with|.bool b=>some b|_=>none):=by
     rintro v rfl;unfold gd;simp only[List.getElem?_toArray,he,Option.bind_some,ht];rfl
    have hw:yF all.toArray env o=(gd all.toArray env j==some want):=by unfold yF;rw[hg]
    split at h
    ·next b hb=>
     have hv:env t=.bool b:=Yh hΓ t 0 _ hb;refine⟨σ,_,h,ha,?_⟩;rw[hw,hc hv];cases b<;>cases want<;>rfl
    ·next hb=>
     have hv:env t=undef:=Yh hΓ t 0 _ hb;refine⟨σ,_,h,ha,?_⟩;rw[hw,hc hv];rfl
    ·next x hb=>
     obtain⟨hn,h⟩:=yh h;have hv:env t=.bool x:=gG hb<|Yh hΓ t;rcases Ih h with⟨hx,h⟩|⟨hx,h⟩
     ·exact⟨_,_,h,gA hn (hv.trans<|congrArg xer hx) ha,by rw[hw,hc<|hv.trans<|congrArg xer hx];cases want<;>rfl⟩
     ·exact⟨_,_,h,gA hn (hv.trans<|congrArg xer hx) ha,by rw[hw,hc<|hv.trans<|congrArg xer hx];cases want<;>rfl⟩
    ·cases h
   ·cases h
  ·cases h
theorem zgF{o:Oper}{k:Sg->Option R}(h:sV cx o σ k=some r)(hR:Zi P fr cx σ env w):∃σ',k σ'=some r/\Zi P fr cx σ' env w:=by
 have ha:=hR;obtain⟨hB,vs,hc⟩:=hR;obtain⟨S,_,hΓ⟩:=hc.ex;unfold sV at h;split at h
 ·next t _ _ _=>
  split at h
  ·next x hb=>
   obtain⟨hn,h⟩:=yh h;have hv:env t=.bool x:=gG hb<|Yh hΓ t;rcases Ih h with⟨hx,h⟩|⟨hx,h⟩
   ·exact⟨_,h,gA hn (hv.trans<|congrArg xer hx) ha⟩
   ·exact⟨_,h,gA hn (hv.trans<|congrArg xer hx) ha⟩
  ·exact⟨σ,h,ha⟩
 ·exact⟨σ,h,ha⟩
theorem zhS{N:Nd}{ops:Array Oper}{o:Oper}{rest:List Oper}{Q:Qs}(hw:yF ops env o=true)(hd:qw N.n o.dst=true)(h:kv P o env w (fun v w'=>WpL P N ops rest Q (put env o.dst v) w')):WpL P N ops (o::rest) Q env w:=by
 intro a h1 h2 h3;subst h3;unfold wpListIn;rw[iq<|by rw[WX];exact hw];refine h.wp fun v w' hk=> ?_;exact hk _ (by rw[QQ];exact h1) (by rw[YC];exact h2)<|Yu<|by rw[h1];exact QO hd
theorem zeU{N:Nd}{ops:Array Oper}{o:Oper}{rest:List Oper}{Q:Qs}(hw:yF ops env o=false)(hd:qw N.n o.dst=true)(h:WpL P N ops rest Q (put env o.dst undef) w):WpL P N ops (o::rest) Q env w:=by
 intro a h1 h2 h3;subst h3;unfold wpListIn;rw[ir<|by rw[WX,hw];exact Bool.false_ne_true];exact⟨fun _ _=>trivial,h _ (by rw[QQ];exact h1) (by rw[YC];exact h2)<|Yu<|by rw[h1];exact QO hd⟩
theorem zib(hd:wu cx d=true)(h:Zi P fr cx σ env w):Zi P fr cx (σ.put d [(0,.un)]) (put env d undef) w:=by
 obtain⟨hB,vs,ha⟩:=h;exact(Qq (σ':=σ.put d [(0,.un)]) (l:=[(0,.un)]) (v:=undef) (vs:=vs) (vs':=vs) (Γl:=[]) hB hd rfl (xab _) (fun _ _=>rfl) (fun e he o ho=>by obtain rfl:=xai.1 he;cases ho) hB.o1 (fun S w _ e he=>by obtain rfl:=xai.1 he;exact rfl) ha).rel
def dF(cx:Sg)(a b:yN):Prop:=∀e∈cx.rg,b e.1=a e.1
theorem dF.refl{a:yN}:dF cx a a:=fun _ _=>rfl
theorem dF.trans{a b c:yN}(h:dF cx a b)(k:dF cx b c):dF cx a c:=fun e he=>(k e he).trans<|h e he
theorem dF.put{a b:yN}{v:Value}(hd:wu cx d=true)(h:dF cx a b):dF cx a (put b d v):=fun e he=>by
 rw[cW fun ht=> ?_]
 ·exact h e he
 ·subst ht;simp only[wu,Yd,xaR]at hd;have:=hd e he;simp at this
theorem tz(hT:yZ P cf.tt)(hL:jN P cf.tt)(hC:∀s∈cf.cs,y6 P s)(hX:Aa P cf){N:Nd}{all:List Oper}{Q:Qs}{k:Sg->Option R}{env0:yN}
 (hK:∀σ',k σ'=some r->∀env w,dF cx env0 env->Zi P fr cx σ' env w->Q .normal env w):∀{l:List Oper}{σ:Sg}{env:yN}{w:World},dF cx env0 env->(l.all fun o=>qw N.n o.dst)=true->M2 cf cx all l σ k=some r->Zi P fr cx σ env w->WpL P N all.toArray l Q env w
 |[],σ,env,w,hS,_,h,hR=>fun a h1 h2 h3=>wpListIn_nil ⟨h1,h2,h3▸hK σ h env w hS hR⟩
 |o::l,σ,env,w,hS,hN,h,hR=>by
  simp only[List.all_cons,xao]at hN;unfold M2 at h;obtain⟨hd,h⟩:=yh h;obtain⟨σ1,b,h,hR,hw⟩:=zeZ h hR;cases b
  ·exact zeU hw hN.1<|tz hT hL hC hX hK (hS.put hd) hN.2 h<|zib hd hR
  ·obtain⟨σ2,h,hR⟩:=zgF h hR;have hR:=oM (zgG cf cx σ2 o.dst o.op) hR;obtain⟨σ',h',_,hm⟩:=zgm (P:=P) (d:=o.dst) (ty:=o.type) (pos:=o.pos) (aft:=o.after) (g:=o.guard) hT hL hC hX hd h;obtain⟨hB,vs,ha⟩:=hR;exact zhS hw hN.1<|(hm fr vs env w ⟨hB,ha⟩).mono fun v w' hb=>tz hT hL hC hX hK (hS.put hd) hN.2 h' hb.rel
end
end
section
section
variable{P:Program}{cf:Cf}{fr:Fr}{cx σ σ0:Sg}{vs vs':Nat->Value}{env env0:yN}{w:World}{R:Type}{r:R}
 {d:Option Tmp}{ty t yt:TypeId}{pos:String}{aft:Array Edge}{g:Option (Nat×Bool)}{x y:Operand}
theorem GV:∀{a b:List (Nat×Nat×Dv)}{t i:Nat},(∀e∈a,e.1≠t)->cZ (a++b) t i=cZ b t i
 |[],_,_,_,_=>rfl
 |(t',i',d)::a,b,t,i,h=>by
  show(bif xap t' t && xap i' i then some d else cZ (a++b) t i)=_;rw[uX<|h (t',i',d)<|FS];simp only[Bool.false_and,cond_false];exact GV fun e he=>h e<|UV _ he
theorem Tf{rg:List (Nat×Nat×Dv)}{t t' i:Nat}(h:t'≠t):cZ (zdK rg t) t' i=cZ rg t' i:=by
 induction rg with
 |nil=>rfl
 |cons e rg ih=>
  obtain⟨s,j,d⟩:=e;unfold zdK at ih⊢;rw[xdk];cases hb:xap s t
  ·simp only[hb,Bool.not_false,if_true];unfold cZ;rw[ih]
  ·simp only[hb,xdM,xak,if_false];rw[ih];have:=z8 hb;subst this;conv=>rhs;unfold cZ
   rw[uX<|fun e=>h e.symm];rfl
theorem LJ{rg:List (Nat×Nat×Dv)}{t t' i:Nat}{l:List (Nat×Dv)}(h:t'≠t):cZ (vi rg (some t) l) t' i=cZ rg t' i:=by grind [vi,GV,Tf]
theorem zeJ{t t' i:Nat}{l:List (Nat×Dv)}{n:Nat}{ob:List (Nat×Od)}{dv:Dv}(hn:Yd cx.rg t=true)(h:get cx ⟨n,vi σ.rg (some t) l,ob⟩ t' i=some dv):(t'=t/\(i,dv)∈l)\/(t'≠t/\get cx σ t' i=some dv):=by
 by_cases ht:t'=t
 ·subst ht;left;refine⟨rfl,?_⟩;rcases ET h with hm|hm
  ·have hm:(t',i,dv)∈l.map (fun e=>(t',e.1,e.2))++zdK σ.rg t':=hm;rcases Nm.1 hm with hm|hm
   ·obtain⟨e,he,ha⟩:=xal.1 hm;cases ha;exact he
   ·have:=(xcj.1 hm).2;simp at this
  ·simp only[Yd,xaR]at hn;have:=hn _ hm;simp at this
 ·right;refine⟨ht,?_⟩;unfold get at h⊢;rw[show cZ (vi σ.rg (some t) l) t' i=cZ σ.rg t' i from LJ ht]at h;exact h
theorem zaW{t:Nat}{l:List (Nat×Dv)}{n:Nat}{ob:List (Nat×Od)}{S:Nat->Prop}(hn:Yd cx.rg t=true){t':Nat}(h1:t'=t->∀e∈l,(xK P vs e.2 (env t) e.1).p S w)(h2:t'≠t->Lk P vs env S w cx σ t'):Lk P vs env S w cx ⟨n,vi σ.rg (some t) l,ob⟩ t':=by
 intro i dv hd;rcases zeJ hn hd with⟨rfl,hm⟩|⟨ha,hg⟩
 ·exact h1 rfl _ hm
 ·exact h2 ha i dv hg
theorem iY{l:List (Nat×Dv)}(hB:Bd cx σ)(hl:∀e∈l,∀o,wj e.2=some o->o<σ.nx):Bd cx (σ.put d l):=by
 refine⟨hB.o1,hB.o2,fun e he o ho=> ?_,hB.r2⟩;have he:e∈vi σ.rg d l:=he;unfold vi at he
 cases d with
 |none=>exact hB.r1 e he o ho
 |some t=>
  rcases Nm.1 he with he|he
  ·obtain⟨e',ha,rfl⟩:=xal.1 he;exact hl e' ha o ho
  ·exact hB.r1 e (xcj.1 he).1 o ho
theorem oz{t t':Nat}{x b:Bool}{S:Nat->Prop}(hn:Yd cx.rg t=true)(hb:get cx σ t 0=some (.d .b x))(hx:x=b)(h:Lk P vs env S w cx σ t'):Lk P vs env S w cx (Dk σ t b) t':=by
 refine zaW hn (fun e e' he=> ?_)<|fun _=>h;subst e;obtain rfl:=xai.1 he;exact(gG hb h).trans<|congrArg xer hx
theorem GX{all:List Oper}{o:Oper}{k:Sg->Bool->Option R}(h:cr cx all o σ k=some r)(hB:Bd cx σ):∃σ' b,k σ' b=some r/\σ'.ob=σ.ob/\σ'.nx=σ.nx/\Bd cx σ'/\
 (∀(P:Program) vs env S w t,Lk P vs env S w cx σ t->Lk P vs env S w cx σ' t)/\(∀(P:Program) vs env S w,(∀t∈xbC all.toArray o,Lk P vs env S w cx σ t)->yF all.toArray env o=b):=by
 unfold cr at h;split at h
 ·next hg=>exact⟨σ,true,h,rfl,rfl,hB,fun _ _ _ _ _ _ h=>h,fun P vs env S w _=>by unfold yF;rw[hg]⟩
 ·next j want hg=>
  split at h
  ·next o' hd=>
   split at h
   ·next t ht=>
    have ha:t∈xbC all.toArray o:=by
     unfold xbC;rw[hg];simp[hd,ht]
    have hc:∀{env:yN}{v},env t=v->gd all.toArray env j=(match v with|.bool b=>some b|_=>none):=by
     rintro env v rfl;unfold gd;simp only[List.getElem?_toArray,hd,Option.bind_some,ht];rfl
    have hw:∀env,yF all.toArray env o=(gd all.toArray env j==some want):=fun env=>by unfold yF;rw[hg]
    split at h
    ·next b hb=>
     refine⟨σ,_,h,rfl,rfl,hB,fun _ _ _ _ _ _ h=>h,fun P vs env S w hl=> ?_⟩;have hv:env t=.bool b:=hl t ha 0 _ hb;rw[hw,hc hv];cases b<;>cases want<;>rfl
    ·next hb=>
     refine⟨σ,_,h,rfl,rfl,hB,fun _ _ _ _ _ _ h=>h,fun P vs env S w hl=> ?_⟩;have hv:env t=undef:=hl t ha 0 _ hb;rw[hw,hc hv];rfl
    ·next x hb=>
     obtain⟨hn,h⟩:=yh h;have hf:∀b,Bd cx (Dk σ t b):=fun b=>iY (d:=some t) hB fun e he o ho=>by obtain rfl:=xai.1 he;cases ho
     rcases Ih h with⟨hx,h⟩|⟨hx,h⟩
     ·refine⟨_,_,h,rfl,rfl,hf _,fun P vs env S w t' hl=>oz hn hb hx hl,fun P vs env S w hl=> ?_⟩;have hv:=(gG hb<|hl t ha).trans<|congrArg xer hx;rw[hw,hc hv];cases want<;>rfl
     ·refine⟨_,_,h,rfl,rfl,hf _,fun P vs env S w t' hl=>oz hn hb hx hl,fun P vs env S w hl=> ?_⟩;have hv:=(gG hb<|hl t ha).trans<|congrArg xer hx;rw[hw,hc hv];cases want<;>rfl
    ·cases h
   ·cases h
  ·cases h
theorem OY{o:Oper}{k:Sg->Option R}(h:sV cx o σ k=some r)(hB:Bd cx σ):∃σ',k σ'=some r/\σ'.ob=σ.ob/\σ'.nx=σ.nx/\Bd cx σ'/\(∀(P:Program) vs env S w t,Lk P vs env S w cx σ t->Lk P vs env S w cx σ' t):=by
 unfold sV at h;split at h
 ·next t _ _ _=>
  split at h
  ·next x hb=>
   obtain⟨hn,h⟩:=yh h;have ha:∀b,Bd cx (Dk σ t b):=fun b=>iY (d:=some t) hB fun e he o ho=>by obtain rfl:=xai.1 he;cases ho
   rcases Ih h with⟨hx,h⟩|⟨hx,h⟩
   ·exact⟨_,h,rfl,rfl,ha _,fun P vs env S w t' hl=>oz hn hb hx hl⟩
   ·exact⟨_,h,rfl,rfl,ha _,fun P vs env S w t' hl=>oz hn hb hx hl⟩
  ·exact⟨σ,h,rfl,rfl,hB,fun _ _ _ _ _ _ h=>h⟩
 ·exact⟨σ,h,rfl,rfl,hB,fun _ _ _ _ _ _ h=>h⟩
def prL(P:Program)(vs:Nat->Value)(l:List (Nat×Dv)):Pr where
 p S v w:=∀e∈l,(xK P vs e.2 v e.1).p S w
 keepS h k:=fun e he=>(xK P vs e.2 _ e.1).keep (h e he) k
 sub h k:=fun e he=>(xK P vs e.2 _ e.1).sub (h e he) k
def LX(P:Program)(vs:Nat->Value)(Γ:List FF)(env0:yN)(cx σ:Sg)(K:List (Tmp×Pr)):Prop:=∀(env:yN) (S:Nat->Prop) (w:World),zA S Γ w->∀t,Ze K env0 env S w t->Lk P vs env S w cx σ t
def zfe(cx:Sg)(K:List (Tmp×Pr)):Prop:=∀e∈K,Yd cx.rg e.1=true
theorem Yy{K:List (Tmp×Pr)}{S:Nat->Prop}:∀{ts:List Tmp},X6 K env0 env S w ts->∀t∈ts,Ze K env0 env S w t
 |[],_,_,h=>absurd h IR
 |_::_,h,t,ht=>by
  rcases xac.1 ht with rfl|ht
  ·exact h.1
  ·exact Yy h.2 t ht
theorem tG{Γ:List FF}{K:List (Tmp×Pr)}{Φ:Pr}{l:List (Nat×Dv)}{o:Oper}(hd:wu cx o.dst=true)(h:LX P vs Γ env0 cx σ K)(hΦ:∀S v w,Φ.p S v w->∀e∈l,(xK P vs e.2 v e.1).p S w):LX P vs Γ env0 cx (σ.put o.dst l) (aJ o.dst Φ K):=by
 intro env S w hΓ t ht
 cases ha:o.dst with
 |none=>
  rw[ha]at ht;exact h env S w hΓ t ht
 |some s=>
  rw[ha]at ht hd;refine zaW hd (fun e=> ?_)<|fun hb=> ?_
  ·subst e;refine hΦ S _ w ?_;unfold Ze aJ at ht;simpa using ht
  ·refine h env S w hΓ t ?_;unfold Ze aJ at ht;rw[List.find?_cons,uX<|fun e=>hb e.symm]at ht;exact ht
theorem HQ{K:List (Tmp×Pr)}{Φ:Pr}{d:Option Tmp}(hd:wu cx d=true)(h:zfe cx K):zfe cx (aJ d Φ K):=by
 cases d with
 |none=>exact h
 |some s=>
  intro e he;rcases xac.1 he with rfl|he
  ·exact hd
  ·exact h e he
theorem Mf(hT:yZ P cf.tt)(hL:jN P cf.tt)(hC:∀s∈cf.cs,y6 P s)(hX:Aa P cf){all:List Oper}{k:Sg->Option R}{Γ:List FF}:∀{os:List Oper}{σ:Sg}{K:List (Tmp×Pr)},zbd cf cx all os σ k=some r->
 LX P vs Γ env0 cx σ K->zfe cx K->σ.ob=σ0.ob->Bd cx σ->∃(Φs:List Pr) (σ':Sg),Φs.length=os.length/\Obs P all.toArray (OS vs fr cx σ0.ob) Γ env0 (os.zip Φs) K/\k σ'=some r/\LX P vs Γ env0 cx σ' (IX (os.zip Φs) K)/\zfe cx (IX (os.zip Φs) K)/\σ'.ob=σ0.ob/\Bd cx σ'
 |[],σ,K,h,hi,hn,ho,hB=>⟨[],σ,rfl,trivial,h,hi,hn,ho,hB⟩
 |o::os,σ,K,h,hi,hn,ho,hB=>by
  unfold zbd at h;obtain⟨hd,h⟩:=yh h;obtain⟨σ1,b,h,hf,hx,hg,ha,hq⟩:=GX h hB;have hw:∀{env:yN}{S:Nat->Prop}{w:World},zA S Γ w->X6 K env0 env S w (o.looksAt all.toArray)->yF all.toArray env o=b:=fun{env S w} hΓ hh=>hq P vs env S w fun t ht=>hi env S w hΓ t<|Yy hh t ht;cases b
  ·have hb:LX P vs Γ env0 cx (σ1.put o.dst [(0,.un)]) (aJ o.dst (prV undef) K):=tG hd (fun env S w hΓ t ht=>ha P vs env S w t<|hi env S w hΓ t ht) fun S v w hv e he=>by obtain rfl:=xai.1 he;exact hv
   obtain⟨Φs,σ',h1,h2,h3,h4,h5,h6,h7⟩:=Mf hT hL hC hX (os:=os) h hb (HQ hd hn) (hf.trans ho) (iY hg fun e he p hp=>by obtain rfl:=xai.1 he;cases hp);refine⟨prV undef::Φs,σ',by simp[h1],⟨fun S w env hS hM hΓ hh=>⟨fun hc=> ?_,fun _=>rfl⟩,h2⟩,h3,h4,h5,h6,h7⟩;rw[hw hΓ hh]at hc;cases hc
  ·obtain⟨σ2,h,hr,hy,hs,hj⟩:=OY h hg;obtain⟨l,h,hu⟩:=zcL (P:=P) (d:=o.dst) (ty:=o.type) (pos:=o.pos) (aft:=o.after) (g:=o.guard) (F:=fr.F) hT hL hC hX h;obtain⟨hl,h⟩:=yh h;have hk:∀env S w t,Lk P vs env S w cx σ t->Lk P vs env S w cx σ2 t:=fun env S w t ht=>hj P vs env S w t<|ha P vs env S w t ht;have hb:LX P vs Γ env0 cx (σ2.put o.dst l) (aJ o.dst (prL P vs l) K):=tG hd (fun env S w hΓ t ht=>hk env S w t<|hi env S w hΓ t ht) fun S v w hv=>hv;have hm:σ2.ob=σ0.ob:=hr.trans<|hf.trans ho;obtain⟨Φs,σ',h1,h2,h3,h4,h5,h6,h7⟩:=Mf hT hL hC hX (os:=os) h hb (HQ hd hn) hm<|iY hs<|BW hl;refine⟨prL P vs l::Φs,σ',by simp[h1],⟨fun S w env hS hM hΓ hh=>⟨fun hc=> ?_,fun hc=> ?_⟩,h2⟩,h3,h4,h5,h6,h7⟩
   ·refine hu env w S vs hS (by rw[hm];exact hM) fun t ht=>hk env S w t<|hi env S w hΓ t<|Yy hh t ?_;exact Nm.2 (.inl ht)
   ·rw[hw hΓ hh]at hc;cases hc
end
end
theorem Ez{l:List Oper}{D:Nat->Bool}(hd:∀j,D j=true->∀e∈(zS l j).after,xcs .any e=true->D e.on=true):∀(f j i:Nat),D j=true->vG l f j i=true->D i=true
 |0,j,i,hj,h=>by
  obtain⟨e,he,hb,rfl⟩:=jF h;exact hd j hj e he hb
 |f+1,j,i,hj,h=>by
  unfold vG at h;rw[xdY]at h;rcases h with h|h
  ·obtain⟨e,he,hb,rfl⟩:=jF h;exact hd j hj e he hb
  ·rw[xeP]at h;obtain⟨e,he,hb⟩:=h;rw[xao]at hb;exact Ez hd f e.on i (hd j hj e (xdi.1 he) hb.1) hb.2
section
def dU(al:Rb->Bool)(rs:List Rb):List (Nat×Od):=rs.filterMap fun r=>if al r=true then some (r.o,r.x)else none
def Ae(i:Nat)(rs:List Rb):List (Nat×Od):=rs.filterMap fun r=>if r.c=some i then some (r.o,r.x)else none
def sC(i:Nat)(rs:List Rb):List (Nat×Od):=rs.filterMap fun r=>if r.a=some i then some (r.o,r.x)else none
def cP(i:Nat)(rs:List Rb):List (Nat×Od):=rs.filterMap fun r=>if i∈r.rd then some (r.o,r.x)else none
theorem H5{al al':Rb->Bool}{i:Nat}:∀{rs:List Rb},(∀r∈rs,(r.c=some i/\i∉r.rd/\r.a≠some i/\al r=true/\al' r=false)\/(r.a=some i/\r.c≠some i/\i∉r.rd/\al r=false/\al' r=true)\/
 (i∈r.rd/\r.c≠some i/\r.a≠some i/\al r=true/\al' r=true)\/(r.c≠some i/\r.a≠some i/\i∉r.rd/\al r=al' r))->
 ∃rest,(∀e∈rest,∃r∈rs,e=(r.o,r.x)/\al r=true/\al' r=true)/\(dU al rs).Perm (Ae i rs++(cP i rs++rest))/\(dU al' rs).Perm (sC i rs++(cP i rs++rest))
 |[],_=>⟨[],fun e he=>absurd he IR,xdE _,xdE _⟩
 |r::rs,h=>by
  obtain⟨rest,h1,h2,h3⟩:=H5 (rs:=rs) fun q hq=>h q<|UV _ hq;have ha:∀e∈rest,∃q∈r::rs,e=(q.o,q.x)/\al q=true/\al' q=true:=fun e he=>by
   obtain⟨q,hq,h⟩:=h1 e he;exact⟨q,UV _ hq,h⟩
  rcases h r (FS)with⟨a1,a2,a3,a4,a5⟩|⟨a1,a2,a3,a4,a5⟩|⟨a1,a2,a3,a4,a5⟩|⟨a1,a2,a3,a4⟩
  ·refine⟨rest,ha,?_,?_⟩
   ·simp only[dU,Ae,cP,xaO,a1,a2,a4,if_true,if_false,reduceIte]at h2⊢;exact h2.cons _
   ·simp only[dU,sC,cP,xaO,a3,a2,a5,if_false,reduceIte,xak]at h3⊢;exact h3
  ·refine⟨rest,ha,?_,?_⟩
   ·simp only[dU,Ae,cP,xaO,a2,a3,a4,if_false,reduceIte,xak]at h2⊢;exact h2
   ·simp only[dU,sC,cP,xaO,a1,a3,a5,if_true,if_false,reduceIte]at h3⊢;exact h3.cons _
  ·refine⟨rest,ha,?_,?_⟩
   ·simp only[dU,Ae,cP,xaO,a1,a2,a4,if_true,if_false,reduceIte]at h2⊢;exact(h2.cons _).trans xct.symm
   ·simp only[dU,sC,cP,xaO,a1,a3,a5,if_true,if_false,reduceIte]at h3⊢;exact(h3.cons _).trans xct.symm
  ·cases hb:al r with
   |false=>
    rw[hb]at a4;refine⟨rest,ha,?_,?_⟩
    ·simp only[dU,Ae,cP,xaO,a1,a3,hb,if_false,reduceIte,xak]at h2⊢;exact h2
    ·simp only[dU,sC,cP,xaO,a2,a3,<-a4,if_false,reduceIte,xak]at h3⊢;exact h3
   |true=>
    rw[hb]at a4;refine⟨(r.o,r.x)::rest,fun e he=> ?_,?_,?_⟩
    ·rcases xac.1 he with rfl|he
     ·exact⟨r,FS,rfl,hb,a4.symm⟩
     ·exact ha e he
    ·simp only[dU,Ae,cP,xaO,a1,a3,hb,if_true,if_false,reduceIte]at h2⊢;rw[<-xaj]at h2⊢;exact(h2.cons _).trans xct.symm
    ·simp only[dU,sC,cP,xaO,a2,a3,<-a4,if_true,if_false,reduceIte]at h3⊢;rw[<-xaj]at h3⊢;exact(h3.cons _).trans xct.symm
def KV(P:Program)(vs:Nat->Value)(KL:List (Tmp×List (Nat×Dv))):List (Tmp×Pr):=KL.map fun e=>(e.1,prL P vs e.2)
def Eg(d:Option Tmp)(l:List (Nat×Dv))(KL:List (Tmp×List (Nat×Dv))):List (Tmp×List (Nat×Dv)):=match d with
 |some t=>(t,l)::KL
 |none=>KL
def mq:List (Oper×List (Nat×Dv))->List (Tmp×List (Nat×Dv))->List (Tmp×List (Nat×Dv))
 |[],K=>K
 |(o,l)::r,K=>mq r<|Eg o.dst l K
def OL(P:Program)(vs:Nat->Value)(L:List (Oper×List (Nat×Dv))):List (Oper×Pr):=L.map fun e=>(e.1,prL P vs e.2)
section
variable{P:Program}{vs:Nat->Value}
theorem zcc{d:Option Tmp}{l:List (Nat×Dv)}{KL:List (Tmp×List (Nat×Dv))}:KV P vs (Eg d l KL)=aJ d (prL P vs l) (KV P vs KL):=by cases d<;>rfl
theorem Tu:∀(L:List (Oper×List (Nat×Dv))) (KL:List (Tmp×List (Nat×Dv))),KV P vs (mq L KL)=IX (OL P vs L) (KV P vs KL)
 |[],KL=>rfl
 |(o,l)::r,KL=>by
  show KV P vs (mq r<|Eg o.dst l KL)=IX (OL P vs r) (aJ o.dst (prL P vs l)<|KV P vs KL);rw[Tu r,zcc]
end
def ObB(P:Program)(ops:Array Oper)(we:World)(Se:Nat->Prop)(mE:List MF)(Γ:List FF)(env0:yN)(vs:Nat->Value)(n0:Nat)(rs:List Rb)(KL:List (Tmp×List (Nat×Dv)))(i:Nat)(o:Oper)(L:List (Nat×Dv))(I:Oi):Prop:=
 n0<=I.lo/\I.lo<=I.hi/\(∀e∈L,∀p,wj e.2=some p->p<I.hi/\p∈I.refs)/\(∀e∈sC i rs,e.1<I.hi)/\
 ∀vs',(∀p,p<n0->vs' p=vs p)->∀(env:yN) (F:List MF) (G:List FF) (w:World),St we Se (MS vs' (Ae i rs++cP i rs)++(mE++F)) (SZ (KV P vs' KL) env0 env (o.looksAt ops)::(Γ++G)) w->
  (yF ops env o=true->kv P o env w (fun v w'=>∃vs2,(∀p,p<I.lo->vs2 p=vs' p)/\St we Se (MS vs2 (sC i rs)++(MS vs' (cP i rs)++(mE++F))) (zdG P vs2 v L++(Γ++G)) w'))/\
  (yF ops env o=false->Ae i rs=[]/\sC i rs=[]/\∀S w,zA S (zdG P vs' undef L) w)
def zen(P:Program)(ops:Array Oper)(we:World)(Se:Nat->Prop)(mE:List MF)(Γ:List FF)(env0:yN)(vs:Nat->Value)(n0:Nat)(rs:List Rb):List ((Oper×List (Nat×Dv))×Oi)->Nat->List (Tmp×List (Nat×Dv))->Prop
 |[],_,_=>True
 |((o,L),I)::r,i,KL=>ObB P ops we Se mE Γ env0 vs n0 rs KL i o L I/\zen P ops we Se mE Γ env0 vs n0 rs r (i+1) (Eg o.dst L KL)
theorem pC{P:Program}{ops:Array Oper}{we:World}{Se:Nat->Prop}{mE:List MF}{Γ:List FF}{env0:yN}{vs:Nat->Value}{n0:Nat}{rs:List Rb}:∀(r:List (Oper×List (Nat×Dv))) (is:List Oi) (n:Nat) (KL:List (Tmp×List (Nat×Dv))) (i:Nat) (x:Oper×List (Nat×Dv)) (I:Oi),
 zen P ops we Se mE Γ env0 vs n0 rs (r.zip is) n KL->r[i]? =some x->is[i]? =some I->ObB P ops we Se mE Γ env0 vs n0 rs (mq (r.take i) KL) (n+i) x.1 x.2 I
 |[],_,_,_,_,_,_,h,hx,_=>by simp at hx
 |_::_,[],_,_,_,_,_,_,_,h=>by simp at h
 |(o,L)::r,I0::is,n,KL,0,x,I,h,hx,hc=>by simp at hx hc;subst hx;subst hc;exact h.1
 |(o,L)::r,I0::is,n,KL,i+1,x,I,h,hx,hc=>by
  have:=pC r is (n+1) (Eg o.dst L KL) i x I h.2 (by simpa using hx) (by simpa using hc);rw[show n+1+i=n+(i+1)by lia]at this;simpa[mq]using this
structure zk8(l:List Oper)(m:Nat)(rs:List Rb)(is:List Oi):Prop where
 a:∀r∈rs,∀j,r.a=some j->j<m/\∀i∈r.rd,vG l 16 i j=true
 c:∀r∈rs,∀k,r.c=some k->k<m/\(∀j,r.a=some j->vG l 16 k j=true)/\∀i∈r.rd,vG l 16 k i=true
 n:∀i I,is[i]? =some I->∀r∈rs,I.lo<=r.o->r.o<I.hi->∃j,r.a=some j/\(j=i\/vG l 16 j i=true)
 f:∀i I j J,is[i]? =some I->is[j]? =some J->∀p∈J.refs,I.lo<=p->p<I.hi->j=i\/vG l 16 j i=true
 uniq:∀i j t,i<m->j<m->i≠j->(zS l i).dst=some t->(zS l j).dst≠some t
theorem Rv{l:List Oper}{m:Nat}{rs:List Rb}{is:List Oi}(h:zeu l m rs is=true):zk8 l m rs is:=by
 unfold zeu at h;rw[xao,xao]at h;obtain⟨⟨hr,hn⟩,hu⟩:=h;have hb:∀i I,is[i]? =some I->zfd l i I rs is.zipIdx=true:=fun i I hi=>xaR.1 hn (I,i)<|List.mem_zipIdx_iff_getElem?.2 hi;have inb:∀(I:Oi) (p:Nat),I.lo<=p->p<I.hi->inB I p=true:=fun I p h1 h2=>by
  unfold inB;rw[Nat.ble_eq_true_of_le h1,Bool.true_and];exact Nat.ble_eq_true_of_le h2
 refine⟨fun r ha j hj=> ?_,fun r ha k hk=> ?_,fun i I hi r ha h1 h2=> ?_,fun i I j J hi hj p hp h1 h2=> ?_,fun i j t hi hj hc hd he=> ?_⟩
 ·have:=xaR.1 hr r ha;rw[xao]at this;have:=this.1;rw[hj]at this;simp only[xao,xaR]at this;exact⟨by have:=xbM this.1;lia,this.2⟩
 ·have:=xaR.1 hr r ha;rw[xao]at this;have:=this.2;rw[hk]at this;simp only[xao,xaR]at this;refine⟨by have:=xbM this.1.1;lia,fun j hj=> ?_,this.2⟩;have:=this.1.2;rw[hj]at this;exact this
 ·have:=hb i I hi;unfold zfd at this;rw[xao]at this;have:=xaR.1 this.1 r ha;rw[inb I _ h1 h2,xdM,xej]at this;split at this
  ·next j hj=>
   rw[xdY]at this;exact⟨j,hj,this.imp z8 id⟩
  ·cases this
 ·have:=hb i I hi;unfold zfd at this;rw[xao]at this;have:=xaR.1 this.2 (J,j)<|List.mem_zipIdx_iff_getElem?.2 hj;have:=xaR.1 this p hp;rw[inb I _ h1 h2,xdM,xej,xdY]at this;exact this.imp z8 id
 ·have:=xaR.1 (xaR.1 hu i<|xbf.2 hi) j<|xbf.2 hj;rw[uX hc,xej,hd]at this;simp[he]at this
end
section
section
variable{P:Program}{N:Nd}{we:World}{Se:Nat->Prop}{ms:List MF}{Γ:List FF}{Q:Qs}{env0:yN}{l:List Oper}{m:Nat}
theorem PT{Lp:List (Oper×Pr)}(hc:∀i,i<m->∃Φ,Lp[i]? =some (zS l i,Φ))(ha:∀(i:Nat) (x:Oper×Pr),Lp[i]? =some x->i<m/\x.1=zS l i){D:Nat->Bool}{env:yN}{S:Nat->Prop}{w:World}{i:Nat}{t:Tmp}
 (hd:∀t,(∀i,i<m->D i=true->(zS l i).dst≠some t)->env t=env0 t) (hf:(Lg Lp D env).p S w) (hk:i<=m) (ht:∀j,j<m->(zS l j).dst=some t->(D j=true↔j<i)):Ze (IX (Lp.take i) []) env0 env S w t:=by
 unfold Ze;rcases gy t (Lp.take i) []with⟨j,y,g1,g2,g3,g4⟩|⟨g1,g2⟩
 ·rw[g4];rw[xcp]at g1;split at g1
  ·next hb=>
   obtain⟨hg,hy⟩:=ha j y g1;exact hf j y t ((ht j hg<|hy▸g2).2 hb) g1 g2
  ·cases g1
 ·rw[g2];simp only[List.find?_nil];refine hd t fun j hj hi he=> ?_;have hb:=(ht j hj he).1 hi;obtain⟨Φ,hΦ⟩:=hc j hj;exact g1 j (zS l j,Φ) (by rw[xcp,iq hb];exact hΦ) he
theorem zbM(hc:YH l m=true){Lp:List (Oper×Pr)}(hm:∀i,i<m->∃Φ,Lp[i]? =some (zS l i,Φ))(hd:∀(i:Nat) (x:Oper×Pr),Lp[i]? =some x->i<m/\x.1=zS l i){D:Nat->Bool}{env:yN}{S:Nat->Prop}{w:World}{i:Nat}
 (hp:i<m) (hn:D i=false) (hf:∀e∈(zS l i).after,xcs .any e=true->D e.on=true) (hg:∀j,D j=true->∀e∈(zS l j).after,xcs .any e=true->D e.on=true)
 (ho:∀t,(∀i,i<m->D i=true->(zS l i).dst≠some t)->env t=env0 t) (hq:(Lg Lp D env).p S w):X6 (IX (Lp.take i) []) env0 env S w (xbC l.toArray<|zS l i):=by
 obtain⟨h0,h1,h2,h3,hu⟩:=jV hc;have hv:i<l.length:=by lia
 have hi:∀t,t∈xbC l.toArray (zS l i)->∀j,j<m->(zS l j).dst=some t->j≠i->(D j=true↔j<i):=by
  intro t ht j hj hk hr;have h7:=h2 i j t hp hj hr hk (.inl ht);constructor
  ·intro hs;rcases xce j i with h|h
   ·exact h
   ·exfalso;obtain⟨e,he,hb,hl⟩:=jF (h7.2<|by lia);have h8:=hg j hs e he hb;rw[hl,hn]at h8;cases h8
  ·intro ha;obtain⟨e,he,hb,hl⟩:=jF<|h7.1 ha;have h8:=hf e he hb;rwa[hl]at h8
 exact Q5 _ fun t ht=>PT hm hd ho hq (by lia) fun j hj hk=>by
  by_cases ha:j=i
  ·subst ha;rw[hn];simp
  ·exact hi t ht j hj hk ha
def fE(D:Nat->Bool)(r:Rb):Bool:=(match r.a with
 |none=>true
 |some j=>D j) && !(match r.c with
 |none=>false
 |some k=>D k)
theorem MN{D:Nat->Bool}{i:Nat}(ha:∀e∈(zS l i).after,xcs .any e=true->D e.on=true)(hc:∀j,D j=true->∀e∈(zS l j).after,xcs .any e=true->D e.on=true):∀(f j:Nat),vG l f i j=true->D j=true
 |0,j,h=>by
  obtain⟨e,he,hb,rfl⟩:=jF h;exact ha e he hb
 |f+1,j,h=>by
  unfold vG at h;rw[xdY]at h;rcases h with h|h
  ·obtain⟨e,he,hb,rfl⟩:=jF h;exact ha e he hb
  ·rw[xeP]at h;obtain⟨e,he,hb⟩:=h;rw[xao]at hb;exact Ez hc f e.on j (ha e (xdi.1 he) hb.1) hb.2
theorem Bn{al al':Rb->Bool}:∀{rs:List Rb},(∀r∈rs,al r=al' r)->dU al rs=dU al' rs
 |[],_=>rfl
 |r::rs,h=>by
  have ih:=Bn (rs:=rs) fun q hq=>h q<|UV _ hq;unfold dU at ih⊢;rw[xaO,xaO,h r<|FS,ih]
theorem zhp{id:Nat}{mE:List MF}(m:Nat)(Ls:List (List<|Nat×Dv))(is:List Oi)(rs:List Rb)(ts:List Tmp)(vs:Nat->Value)(n0:Nat)(hm:P.follows .mixedOrders=true)(hc:YH l m=true)(hl:Ls.length=m)(h9:is.length=m)(hx:zeu l m rs is=true)
 (hms:MS vs (dU (fun r=>r.a.isNone) rs)++mE=ms) (hd:(l.all fun o=>qw N.n o.dst)=true) (hF:zen P l.toArray we Se mE Γ env0 vs n0 rs (((l.take m).zip Ls).zip is) 0 [])
 (fin:∀(env:yN) (w:World) (vs':Nat->Value),(∀p,p<n0->vs' p=vs p)->St we Se (MS vs' (dU (fun r=>r.c.isNone) rs)++mE) (SZ (KV P vs'<|mq ((l.take m).zip Ls) []) env0 env ts::Γ) w->WpL P N l.toArray (l.drop m) Q env w):
 T P N we Se ms Γ (.region id l.toArray true) Q env0:=by
 obtain⟨h0,h1,h2,h3,h3'⟩:=jV hc;have hp:=Rv hx;obtain⟨L,hL⟩:∃L,L=(l.take m).zip Ls:=⟨_,rfl⟩;rw[<-hL]at hF fin;have hLl:L.length=m:=by rw[hL];simp;lia
 have hG:∀i,i<m->∃x,L[i]? =some (zS l i,x):=fun i hi=>by
  have h9:i<l.length:=xan hi h0;have h':i<Ls.length:=hl.symm▸hi;refine⟨Ls[i]'(h'),?_⟩;rw[hL,List.getElem?_zip_eq_some];refine⟨?_,by simp⟩;rw[xcp,iq hi];simp[zS,h9]
 have hH:∀i x,L[i]? =some x->i<m/\x.1=zS l i:=fun i x hx=>by
  have hi:i<m:=by have:=(xat.1 hx).1;lia
  obtain⟨Φ,h⟩:=hG i hi;rw[h]at hx;cases hx;exact⟨hi,rfl⟩
 have opre:∀vs' i,i<m->∃Φ,(OL P vs' L)[i]? =some (zS l i,Φ):=fun vs' i hi=>by
  obtain⟨x,h⟩:=hG i hi;exact⟨_,by rw[OL,xaT,h];rfl⟩
 have opre':∀vs' (i:Nat) (x:Oper×Pr),(OL P vs' L)[i]? =some x->i<m/\x.1=zS l i:=fun vs' i x hx=>by
  rw[OL,xaT]at hx
  cases hy:L[i]? with
  |none=>rw[hy]at hx;cases hx
  |some y=>rw[hy]at hx;cases hx;exact hH i y hy
 refine ziT m (fun D env w=>(∀t,(∀i,i<m->D i=true->(zS l i).dst≠some t)->env t=env0 t)/\∃vs',(∀p,p<n0->vs' p=vs p)/\St we Se (MS vs' (dU (fE D) rs)++mE) (Γ++[Lg (OL P vs' L) D env]) w) hm hc hd ?_ ?_ ?_
 ·intro w hw;refine⟨fun t _=>rfl,vs,fun _ _=>rfl,?_⟩;have:fE (fun _=>false)=fun r=>r.a.isNone:=by
   funext r;unfold fE;cases r.a<;>cases r.c<;>rfl
  rw[this,hms];exact hw.weak fun S w h=>zA.append h ⟨fun i x t hi=>(by cases hi),trivial⟩
 ·rintro D i env w hR hE hlow hK hv ⟨hD,vs',hS,hT⟩;have hil':i<l.length:=by lia
  obtain⟨x,hxi⟩:=hG i hR;obtain⟨I,hI⟩:∃I,is[i]? =some I:=⟨_,xaa<|by lia⟩;obtain⟨o1,o2,o3,o4,hM⟩:=pC L is 0 [] i _ I hF hxi hI;rw[xaN]at hM o4;have hn:∀j,vG l 16 i j=true->D j=true:=fun j hj=>MN hK hv 16 j hj;have hU:∀k,D k=true->vG l 16 k i≠true:=fun k hk hr=>by
   have:=Ez hv 16 k i hk hr;rw[hE]at this;cases this
  have hW:∀r∈rs,(r.c=some i/\i∉r.rd/\r.a≠some i/\fE D r=true/\fE (Ai D i) r=false)\/(r.a=some i/\r.c≠some i/\i∉r.rd/\fE D r=false/\fE (Ai D i) r=true)\/
   (i∈r.rd/\r.c≠some i/\r.a≠some i/\fE D r=true/\fE (Ai D i) r=true)\/(r.c≠some i/\r.a≠some i/\i∉r.rd/\fE D r=fE (Ai D i) r):=by
   intro r hr;have hA:vG l 16 i i≠true:=fun h=>by have:=hn i h;rw[hE]at this;cases this
   have hq:∀j,j≠i->Ai D i j=D j:=fun j hj=>ML hj;by_cases hf:r.c=some i
   ·obtain⟨c1,c2,c3⟩:=hp.c r hr i hf;have hu:i∉r.rd:=fun h=>hA<|c3 i h;have hb:r.a≠some i:=fun h=>hA<|c2 i h;refine .inl ⟨hf,hu,hb,?_,?_⟩
    ·unfold fE;rw[hf];simp only[hE,Bool.not_false,Bool.and_true]
     cases ha:r.a with
     |none=>rfl
     |some j=>exact hn j<|c2 j ha
    ·unfold fE;rw[hf];simp only[dW,xdM,Bool.and_false]
   ·by_cases hb:r.a=some i
    ·obtain⟨a1,a2⟩:=hp.a r hr i hb;have hu:i∉r.rd:=fun h=>hA<|a2 i h;refine .inr (.inl ⟨hb,hf,hu,?_,?_⟩)
     ·unfold fE;rw[hb];simp only[hE,Bool.false_and]
     ·unfold fE;rw[hb];simp only[dW,Bool.true_and]
      cases hg:r.c with
      |none=>rfl
      |some k=>
       simp only;rw[hq k<|fun e=>hf<|by rw[hg,e]]
       cases hY:D k with
       |false=>rfl
       |true=>exact absurd ((hp.c r hr k hg).2.1 i hb)<|hU k hY
    ·have hZ:∀k,r.c=some k->i∈r.rd->D k=false:=fun k hk hi=>by
      cases hY:D k with
      |false=>rfl
      |true=>exact absurd ((hp.c r hr k hk).2.2 i hi)<|hU k hY
     have hN:fE (Ai D i) r=fE D r:=by
      unfold fE
      cases ha:r.a with
      |none=>
       cases hg:r.c with
       |none=>rfl
       |some k=>simp only;rw[hq k<|fun e=>hf<|by rw[hg,e]]
      |some j=>
       cases hg:r.c with
       |none=>simp only;rw[hq j<|fun e=>hb<|by rw[ha,e]]
       |some k=>simp only;rw[hq j (fun e=>hb<|by rw[ha,e]),hq k<|fun e=>hf<|by rw[hg,e]]
     by_cases hu:i∈r.rd
     ·have:fE D r=true:=by
       unfold fE;have e1:(match r.c with|none=>false|some k=>D k)=false:=by
        cases hg:r.c with
        |none=>rfl
        |some k=>exact hZ k hg hu
       rw[e1];simp only[Bool.not_false,Bool.and_true]
       cases ha:r.a with
       |none=>rfl
       |some j=>exact hn j<|(hp.a r hr j ha).2 i hu
      exact .inr (.inr (.inl ⟨hu,hf,hb,this,hN.trans this⟩))
     ·exact .inr (.inr (.inr ⟨hf,hb,hu,hN.symm⟩))
  obtain⟨rest,h4,p1,p2⟩:=H5 hW;have hV:∀S:Nat->Prop,∀w:World,(Lg (OL P vs' L) D env).p S w->X6 (KV P vs'<|mq (L.take i) []) env0 env S w (xbC l.toArray<|zS l i):=fun S w h5=>by
   rw[Tu];have:=zbM hc (opre vs') (opre' vs') hR hE hK hv hD h5;rw[show OL P vs' (L.take i)=(OL P vs' L).take i by unfold OL;rw[List.map_take]];exact this
  have hO:St we Se (MS vs' (Ae i rs++cP i rs)++(mE++MS vs' rest)) (SZ (KV P vs'<|mq (L.take i) []) env0 env (xbC l.toArray<|zS l i)::(Γ++[Lg (OL P vs' L) D env])) w:=by
   refine St.weak (hT.perm ?_) fun S w h=>⟨hV S w (zA.right (Γ:=Γ) h).1,h⟩;have e1:(MS vs'<|dU (fE D) rs).Perm (MS vs' (Ae i rs++cP i rs)++MS vs' rest):=by
    unfold MS;rw[<-xbg,xaj];exact p1.map _
   refine(xfl mE e1).trans ?_;rw[xaj];exact xcf _ List.perm_append_comm
  have hM:=hM vs' hS env (MS vs' rest) [Lg (OL P vs' L) D env] w hO;have hX:∀(v:Value) (t:Tmp),(∀i',i'<m->Ai D i i'=true->(zS l i').dst≠some t)->put env (zS l i).dst v t=env0 t:=fun v t ht=>by
   rw[cW<|ht i hR<|dW D i];exact hD t fun j hj hDj=>ht j hj<|zeo hDj
  have close:∀(v:Value) (w':World) (vs2:Nat->Value),(∀p,p<I.lo->vs2 p=vs' p)->St we Se (MS vs2 (sC i rs)++(MS vs' (cP i rs)++(mE++MS vs' rest))) (zdG P vs2 v x++(Γ++[Lg (OL P vs' L) D env])) w'->
   ∃vs3,(∀p,p<n0->vs3 p=vs p)/\St we Se (MS vs3 (dU (fE<|Ai D i) rs)++mE) (Γ++[Lg (OL P vs3 L) (Ai D i)<|put env (zS l i).dst v]) w':=by
   intro v w' vs2 h6 hs;have e3:∃vs3:Nat->Value,vs3=fun p=>if I.lo<=p/\p<I.hi then vs2 p else vs' p:=⟨_,rfl⟩;obtain⟨vs3,e3⟩:=e3;have hP:∀p,p<I.hi->vs3 p=vs2 p:=fun p hp=>by
    rw[e3];simp only;split
    ·rfl
    ·next hc=>exact(h6 p<|by lia).symm
   have hB:∀p,¬(I.lo<=p/\p<I.hi)->vs3 p=vs' p:=fun p hp=>by
    rw[e3];exact ir hp
   refine⟨vs3,fun p hp=>(hB p<|by lia).trans<|hS p hp,?_⟩;have hC:∀r∈rs,fE D r=true->vs3 r.o=vs' r.o:=fun r hr hC=>hB r.o fun⟨g1,g2⟩=>by
    obtain⟨j,hj,hji⟩:=hp.n i I hI r hr g1 g2;unfold fE at hC;rw[hj,xao]at hC;rcases hji with rfl|hji
    ·have:=hC.1;simp only at this;rw[hE]at this;cases this
    ·exact hU j hC.1 hji
   have m1:MS vs3 (sC i rs)=MS vs2 (sC i rs):=wa fun e he=>hP e.1<|o4 e he;have m2:MS vs3 (cP i rs)=MS vs' (cP i rs):=wa fun e he=>by
    obtain⟨r,hr,h7⟩:=xff.1 he;split at h7
    ·next hi=>
     cases h7;rcases hW r hr with⟨a1,a2,_⟩|⟨a1,a2,a3,_⟩|⟨a1,a2,a3,a4,_⟩|⟨a1,a2,a3,_⟩
     ·exact absurd hi a2
     ·exact absurd hi a3
     ·exact hC r hr a4
     ·exact absurd hi a3
    ·cases h7
   have m3:MS vs3 rest=MS vs' rest:=wa fun e he=>by
    obtain⟨r,hr,rfl,h1,_⟩:=h4 e he;exact hC r hr h1
   have hpm:(MS vs3 (dU (fE<|Ai D i) rs)++mE).Perm (MS vs2 (sC i rs)++(MS vs' (cP i rs)++(mE++MS vs' rest))):=by
    rw[<-m1,<-m2,<-m3];have e1:(MS vs3<|dU (fE<|Ai D i) rs).Perm (MS vs3 (sC i rs)++(MS vs3 (cP i rs)++MS vs3 rest)):=by
     unfold MS;rw[<-xbg,<-xbg];exact p2.map _
    refine(xfl mE e1).trans ?_;rw[xaj,xaj];exact xcf _<|xcf _ List.perm_append_comm
   refine St.weak (hs.perm hpm.symm) fun S w2 h=> ?_;have hΓ:=zA.right h;refine zA.append (zA.left hΓ) ⟨?_,trivial⟩;have h5:=(zA.right hΓ).1;intro j y t hj hy ht;rw[OL,xaT]at hy
   cases hz:L[j]? with
   |none=>rw[hz]at hy;cases hy
   |some z=>
    rw[hz]at hy;cases hy;obtain⟨hjm,hzo⟩:=hH j z hz;by_cases hji:j=i
    ·subst hji;rw[hxi]at hz;cases hz;have ht':(zS l j).dst=some t:=ht;show(prL P vs3 x).p S (put env (zS l j).dst v t) w2;rw[ht',sn];intro e he;have:=jK.1 (zA.left h) _<|xal.2 ⟨e,he,rfl⟩;have h8:xK P vs3 e.2 v e.1=xK P vs2 e.2 v e.1:=by
      unfold xK;simp only[dN (P:=P) (vs':=vs3) (vs:=vs2) (d:=e.2) fun o ho=>hP o (o3 e he o ho).1]
     rw[h8];exact this
    ·rw[ML hji]at hj;have hne:(zS l i).dst≠some t:=hp.uniq j i t hjm hR hji<|hzo▸ht;show(prL P vs3 z.2).p S (put env (zS l i).dst v t) w2;rw[cW hne];intro e he;have:=h5 j (z.1,prL P vs' z.2) t hj (by rw[OL,xaT,hz];rfl) ht;have:=this e he;obtain⟨J,hJ⟩:∃J,is[j]? =some J:=⟨_,xaa<|by lia⟩;obtain⟨_,_,q3,_,_⟩:=pC L is 0 [] j _ J hF hz hJ;have h8:xK P vs3 e.2 (env t) e.1=xK P vs' e.2 (env t) e.1:=by
      unfold xK;simp only[dN (P:=P) (vs':=vs3) (vs:=vs') (d:=e.2) fun o ho=>hB o fun⟨g1,g2⟩=>by
       rcases hp.f i I j J hI hJ o (q3 e he o ho).2 g1 g2 with h|h
       ·exact hji h
       ·exact hU j hj h]
     rw[h8];exact this
  refine⟨fun hw=>(hM.1 hw).mono fun v w' ⟨vs2,h6,hs⟩=>⟨hX v,close v w' vs2 h6 hs⟩,fun hw=>⟨hX undef,?_⟩⟩;obtain⟨g1,g2,g3⟩:=hM.2 hw;refine close undef w vs' (fun _ _=>rfl) ?_;rw[g1,xbA]at hO;rw[g2];refine St.weak (show St we Se (MS vs' []++(MS vs' (cP i rs)++(mE++MS vs' rest))) _ w from hO) fun S w h=>zA.append (g3 S w) h.2
 ·rintro D env w hQ hlow ⟨hD,vs',hS,hT⟩;refine fin env w vs' hS ?_;have hav:dU (fE D) rs=dU (fun r=>r.c.isNone) rs:=by
   refine Bn fun r hr=> ?_;have:fE D r=r.c.isNone:=by
    unfold fE;have e1:(match r.a with|none=>true|some j=>D j)=true:=by
     cases ha:r.a with
     |none=>rfl
     |some j=>exact hQ j (hp.a r hr j ha).1
    rw[e1]
    cases hg:r.c with
    |none=>rfl
    |some k=>simp only[hQ k (hp.c r hr k hg).1];rfl
   exact this
  rw[hav]at hT;refine hT.weak fun S w h=>⟨?_,zA.left h⟩;refine Q5 ts fun t _=> ?_;have:=PT (i:=m) (t:=t) (opre vs') (opre' vs') hD (zA.right (Γ:=Γ) h).1 (xab m) fun j hj _=>⟨fun _=>hj,fun _=>hQ j hj⟩;rw[Tu];rwa[xaQ<|by unfold OL;rw[xaP];lia]at this
end
end
section
section
variable{P:Program}{cf:Cf}{fr:Fr}{cx σ σ0:Sg}{vs vs':Nat->Value}{env env0:yN}{w:World}{R:Type}{r:R}
theorem Uy:∀{rg:List (Nat×Nat×Dv)}{e:Nat×Nat×Dv},e∈dd rg->e∈rg
 |a::r,e,h=>by
  rcases xac.1 h with rfl|h
  ·exact FS
  ·exact UV _<|Uy (xcj.1 h).1
theorem EN:∀{rg:List (Nat×Nat×Dv)}{e:Nat×Nat×Dv},e∈dd rg->cZ rg e.1 e.2.1=some e.2.2
 |(t,i,d)::r,e,h=>by
  rcases xac.1 h with rfl|h
  ·unfold cZ;simp
  ·obtain⟨h1,h2⟩:=xcj.1 h;unfold cZ;simp only[xdn]at h2;rw[h2];exact EN h1
theorem rE:∀(ts:List Nat),VW env (ts.map fun t=>(t,env t))
 |[]=>rfl
 |t::ts=>p9 rfl<|rE ts
theorem Dq{rest:yN}:∀{ts:List Nat}{t:Nat},t∈ts->L (ts.map fun t=>(t,env t)) rest t=env t
 |s::ts,t,h=>by
  simp only[xbX,L];cases hb:xap t s
  ·simp only[cond_false];rcases xac.1 h with rfl|h
   ·simp at hb
   ·exact Dq h
  ·rw[z8 hb];rfl
theorem Hb:∀(l:List Oper) (al:List (Nat×Operand)) {σ:Sg},Zi P fr cx σ env w->Zi P fr cx (zdF cf cx l al σ) env w
 |[],_,_,h=>h
 |o::r,al,σ,h=>Hb r _<|oM _ h
theorem PK{N:Nat}{l:List Oper}(h:(l.all fun o=>qw N o.dst)=true)(m:Nat):((l.drop m).all fun o=>qw N o.dst)=true:=by grind [xaR,xeL]
theorem cj:∀(l:List Nat) {σ:Sg},aR P fr cx σ vs env w->aR P fr cx (rf σ l) vs env w
 |[],_,h=>h
 |o::r,_,h=>cj r<|BZ h
theorem Lf:∀(l:List Nat) (σ:Sg),(rf σ l).nx=σ.nx
 |[],_=>rfl
 |o::r,σ=>by
  show(rf (H6 σ o) r).nx=_;rw[Lf r];unfold H6;split<;>rfl
structure RX1(i:Nat)(r r':Rb):Prop where
 a:r'.a=r.a
 o:r'.o=r.o
 x:r'.x=r.x
 c1:∀k,r.c=some k->r'.c=some k
 c2:r.c=none->∀k,r'.c=some k->i<=k
 d1:∀j∈r.rd,j∈r'.rd
 d2:∀j∈r'.rd,j∈r.rd\/i<=j
def RX(i:Nat):List Rb->List Rb->Prop
 |[],rs'=>∀r∈rs',(∃j,r.a=some j/\i<=j)/\(∀k,r.c=some k->i<=k)/\∀j∈r.rd,i<=j
 |_::_,[]=>False
 |r::rs,r'::rs'=>RX1 i r r'/\RX i rs rs'
def nS(i:Nat)(rs:List Rb):Prop:=∀r∈rs,(∀j,r.a=some j->j<i)/\(∀k,r.c=some k->k<i)/\∀j∈r.rd,j<i
theorem RX.refl(i:Nat):∀rs:List Rb,RX i rs rs
 |[]=>fun r hr=>absurd hr IR
 |r::rs=>⟨⟨rfl,rfl,rfl,fun _ h=>h,fun h k hk=>(by rw[h]at hk;cases hk),fun _ h=>h,fun _ h=> .inl h⟩,RX.refl i rs⟩
theorem LU{i:Nat}{rs':List Rb}(h:RX (i+1) [] rs'):RX i [] rs'/\Ae i rs'=[]/\sC i rs'=[]/\cP i rs'=[]:=by
 refine⟨fun r hr=> ?_,?_,?_,?_⟩
 ·obtain⟨⟨j,h1,h2⟩,h3,h4⟩:=h r hr;exact⟨⟨j,h1,by lia⟩,fun k hk=>by have:=h3 k hk;lia,fun j hj=>by have:=h4 j hj;lia⟩
 ·refine xdT.2 fun r hr=>ir fun e=> ?_;have:=(h r hr).2.1 i e;lia
 ·refine xdT.2 fun r hr=>ir fun e=> ?_;obtain⟨j,h1,h2⟩:=(h r hr).1;rw[e]at h1;cases h1;lia
 ·refine xdT.2 fun r hr=>ir fun e=> ?_;have:=(h r hr).2.2 i e;lia
theorem RX1.step{i:Nat}{r r1 r':Rb}(h:RX1 (i+1) r1 r')(ha:r1.a=r.a)(ho:r1.o=r.o)(hx:r1.x=r.x)(hc:∀k,r.c=some k->r1.c=some k)(hb:r.c=none->∀k,r1.c=some k->k=i)(hd:∀j∈r.rd,j∈r1.rd)(he:∀j∈r1.rd,j∈r.rd\/j=i):RX1 i r r':=
{
 a:=h.a.trans ha
 o:=h.o.trans ho
 x:=h.x.trans hx
 c1:=fun k hk=>h.c1 k<|hc k hk
 c2:=fun hn k hk=>by
  cases h1:r1.c with
  |none=>have:=h.c2 h1 k hk;lia
  |some q=>
   have:=h.c1 q h1;rw[hk]at this;cases this;have:=hb hn k h1;lia
 d1:=fun j hj=>h.d1 j<|hd j hj
 d2:=fun j hj=>by
  rcases h.d2 j hj with h1|h1
  ·rcases he j h1 with h2|h2
   ·exact .inl h2
   ·exact .inr<|by lia
  ·exact .inr<|by lia}
theorem NM{i:Nat}:∀{rs rs':List Rb},nS i rs->RX (i+1) rs rs'->RX i rs rs'/\Ae i rs'=[]/\sC i rs'=[]/\cP i rs'=[]
 |[],rs',_,h=>LU h
 |r::rs,[],_,h=>h.elim
 |r::rs,r'::rs',ho,⟨h1,h2⟩=>by
  obtain⟨g1,g2,g3,g4⟩:=NM (rs:=rs) (fun q hq=>ho q<|UV _ hq) h2;obtain⟨q1,q2,q3⟩:=ho r<|FS;have e1:r'.c≠some i:=fun e=>by
   cases hc:r.c with
   |none=>have:=h1.c2 hc i e;lia
   |some k=>have:=h1.c1 k hc;rw[e]at this;cases this;have:=q2 i hc;lia
  have e2:r'.a≠some i:=fun e=>by rw[h1.a]at e;have:=q1 i e;lia
  have e3:i∉r'.rd:=fun e=>by
   rcases h1.d2 i e with h|h
   ·have:=q3 i h;lia
   ·lia
  refine⟨⟨h1.step rfl rfl rfl (fun _ h=>h) (fun hn k hk=>(by rw[hn]at hk;cases hk)) (fun _ h=>h)<|fun _ h=> .inl h,g1⟩,?_,?_,?_⟩
  ·unfold Ae at g2⊢;rw[xaO,ir e1];exact g2
  ·unfold sC at g3⊢;rw[xaO,ir e2];exact g3
  ·unfold cP at g4⊢;rw[xaO,ir e3];exact g4
theorem zc0{i:Nat}{os:List Nat}:∀{rs rs':List Rb},nS i rs->RX (i+1) (MB i os rs) rs'->RX i rs rs'/\Ae i rs'=[]/\sC i rs'=[]/\∀e∈aN os rs,e∈cP i rs'
 |[],rs',_,h=>by
  obtain⟨g1,g2,g3,_⟩:=LU h;exact⟨g1,g2,g3,fun e he=>absurd he IR⟩
 |r::rs,[],_,h=>h.elim
 |r::rs,r'::rs',ho,⟨h1,h2⟩=>by
  obtain⟨g1,g2,g3,g4⟩:=zc0 (rs:=rs) (fun q hq=>ho q<|UV _ hq) h2;obtain⟨q1,q2,q3⟩:=ho r<|FS;obtain⟨r1,ha⟩:∃r1,r1=(match r.c,b5 os r.o with|none,true=>(⟨r.a,none,i::r.rd,r.o,r.x⟩:Rb)|_,_=>r):=⟨_,rfl⟩;have h1:RX1 (i+1) r1 r':=by rw[ha];exact h1
  have k1:r1.a=r.a/\r1.o=r.o/\r1.x=r.x/\r1.c=r.c/\(∀j∈r.rd,j∈r1.rd)/\(∀j∈r1.rd,j∈r.rd\/j=i):=by
   rw[ha];split
   ·next hc _=>exact⟨rfl,rfl,rfl,hc.symm,fun j hj=>UV _ hj,fun j hj=>(xac.1 hj).symm⟩
   ·exact⟨rfl,rfl,rfl,rfl,fun _ h=>h,fun _ h=> .inl h⟩
  obtain⟨ka,ko,kx,kc,kd,kd2⟩:=k1;have e1:r'.c≠some i:=fun e=>by
   cases hc:r.c with
   |none=>have:=h1.c2 (kc.trans hc) i e;lia
   |some k=>have:=h1.c1 k<|kc.trans hc;rw[e]at this;cases this;have:=q2 i hc;lia
  have e2:r'.a≠some i:=fun e=>by rw[h1.a,ka]at e;have:=q1 i e;lia
  refine⟨⟨h1.step ka ko kx (fun k hk=>kc.trans hk) (fun hn k hk=>by rw[kc,hn]at hk;cases hk) kd kd2,g1⟩,?_,?_,?_⟩
  ·unfold Ae at g2⊢;rw[xaO,ir e1];exact g2
  ·unfold sC at g3⊢;rw[xaO,ir e2];exact g3
  ·intro e he;unfold aN at he;unfold cP at g4⊢;rw[xaO];split at he
   ·next hc hh=>
    have hi:i∈r'.rd:=h1.d1 i (by rw[ha,hc,hh];exact FS);rw[iq hi];rcases xac.1 he with rfl|he
    ·rw[h1.o,h1.x,ko,kx];exact FS
    ·exact UV _<|g4 e he
   ·split
    ·exact g4 e he
    ·exact UV _<|g4 e he
theorem zaU{i:Nat}:∀{ob:List (Nat×Od)}{rs':List Rb},RX (i+1) (zej i ob) rs'->RX i [] rs'/\Ae i rs'=[]/\sC i rs'=ob/\cP i rs'=[]
 |[],rs',h=>LU h
 |e::ob,[],h=>h.elim
 |e::ob,r'::rs',⟨h1,h2⟩=>by
  obtain⟨g1,g2,g3,g4⟩:=zaU (ob:=ob) h2;have e1:r'.c≠some i:=fun e=>by have:=h1.c2 rfl i e;lia
  have e2:r'.a=some i:=h1.a;have e3:i∉r'.rd:=fun e=>by
   rcases h1.d2 i e with h|h
   ·cases h
   ·lia
  refine⟨fun r hr=> ?_,?_,?_,?_⟩
  ·rcases xac.1 hr with rfl|hr
   ·exact⟨⟨i,e2,xab _⟩,fun k hk=>by have:=h1.c2 rfl k hk;lia,fun j hj=>by
     rcases h1.d2 j hj with h|h
     ·cases h
     ·lia⟩
   ·exact g1 r hr
  ·unfold Ae at g2⊢;rw[xaO,ir e1];exact g2
  ·unfold sC at g3⊢;rw[xaO,iq e2,g3,h1.o,h1.x]
  ·unfold cP at g4⊢;rw[xaO,ir e3];exact g4
theorem zde{i:Nat}{os:List Nat}{ob:List (Nat×Od)}:∀{rs rs':List Rb},nS i rs->RX (i+1) (MY i os rs++zej i ob) rs'->RX i rs rs'/\Ae i rs'=aN os rs/\sC i rs'=ob/\cP i rs'=[]
 |[],rs',_,h=>zaU h
 |r::rs,[],_,h=>h.elim
 |r::rs,r'::rs',ho,⟨h1,h2⟩=>by
  obtain⟨g1,g2,g3,g4⟩:=zde (rs:=rs) (fun q hq=>ho q<|UV _ hq) h2;obtain⟨q1,q2,q3⟩:=ho r<|FS;obtain⟨r1,ha⟩:∃r1,r1=(match r.c,b5 os r.o with|none,true=>(⟨r.a,some i,r.rd,r.o,r.x⟩:Rb)|_,_=>r):=⟨_,rfl⟩;have h1:RX1 (i+1) r1 r':=by rw[ha];exact h1
  have k1:r1.a=r.a/\r1.o=r.o/\r1.x=r.x/\r1.rd=r.rd/\(∀k,r.c=some k->r1.c=some k)/\(r.c=none->∀k,r1.c=some k->k=i):=by
   rw[ha];split
   ·next hc _=>exact⟨rfl,rfl,rfl,rfl,fun k hk=>(by rw[hc]at hk;cases hk),fun _ k hk=>(by cases hk;rfl)⟩
   ·exact⟨rfl,rfl,rfl,rfl,fun _ h=>h,fun hn k hk=>(by rw[hn]at hk;cases hk)⟩
  obtain⟨ka,ko,kx,kd,kc,kc2⟩:=k1;have e2:r'.a≠some i:=fun e=>by rw[h1.a,ka]at e;have:=q1 i e;lia
  have e3:i∉r'.rd:=fun e=>by
   rcases h1.d2 i e with h|h
   ·rw[kd]at h;have:=q3 i h;lia
   ·lia
  refine⟨⟨h1.step ka ko kx kc kc2 (fun j hj=>by rw[kd];exact hj) (fun j hj=>by rw[kd]at hj;exact .inl hj),g1⟩,?_,?_,?_⟩
  ·have no:r1=r->r'.c≠some i:=fun hb e=>by
    rw[hb]at h1
    cases hc:r.c with
    |none=>have:=h1.c2 hc i e;lia
    |some k=>have:=h1.c1 k hc;rw[e]at this;cases this;have:=q2 i hc;lia
   have hv:aN os (r::rs)=(match r.c,b5 os r.o with|none,true=>(r.o,r.x)::aN os rs|_,_=>aN os rs):=rfl;have hd:Ae i (r'::rs')=if r'.c=some i then(r'.o,r'.x)::Ae i rs' else Ae i rs':=by
    unfold Ae;rw[xaO];split<;>next h=>split at h<;>simp_all
   rw[hd,hv,g2]
   cases hc:r.c with
   |some k=>
    rw[ir<|no<|by rw[ha,hc]]
   |none=>
    cases hh:b5 os r.o with
    |false=>rw[ir<|no<|by rw[ha,hc,hh]]
    |true=>
     have:r'.c=some i:=h1.c1 i (by rw[ha,hc,hh]);rw[iq this,h1.o,h1.x,ko,kx]
  ·unfold sC at g3⊢;rw[xaO,ir e2];exact g3
  ·unfold cP at g4⊢;rw[xaO,ir e3];exact g4
theorem zaA{i:Nat}:∀{ob:List (Nat×Od)}{rs':List Rb},RX i (zjc ob) rs'->dU (fun r=>r.a.isNone) rs'=ob
 |[],rs',h=>xdT.2 fun r hr=>by
  obtain⟨⟨j,h1,_⟩,_⟩:=h r hr;simp[h1]
 |e::ob,[],h=>h.elim
 |e::ob,r'::rs',⟨h1,h2⟩=>by
  have ih:=zaA (ob:=ob) h2;unfold dU at ih⊢;have:r'.a=none:=h1.a;simp only[xaO,this,Option.isNone_none,if_true];rw[ih,h1.o,h1.x]
theorem zd7{i:Nat}{os:List Nat}{rs:List Rb}(h:nS i rs):nS (i+1) (MB i os rs):=by
 induction rs with
 |nil=>exact fun r hr=>absurd hr IR
 |cons r rs ih=>
  intro q hq;unfold MB at hq;rcases xac.1 hq with rfl|hq
  ·obtain⟨q1,q2,q3⟩:=h r<|FS;split
   ·exact⟨fun j hj=>(by have:=q1 j hj;lia),fun k hk=>(by cases hk),fun j hj=>by
     rcases xac.1 hj with rfl|hj
     ·lia
     ·have:=q3 j hj;lia⟩
   ·exact⟨fun j hj=>by have:=q1 j hj;lia,fun k hk=>by have:=q2 k hk;lia,fun j hj=>by have:=q3 j hj;lia⟩
  ·exact ih (fun q hq=>h q<|UV _ hq) q hq
theorem zeR{i:Nat}{os:List Nat}{rs:List Rb}(h:nS i rs):nS (i+1) (MY i os rs):=by
 induction rs with
 |nil=>exact fun r hr=>absurd hr IR
 |cons r rs ih=>
  intro q hq;unfold MY at hq;rcases xac.1 hq with rfl|hq
  ·obtain⟨q1,q2,q3⟩:=h r<|FS;split
   ·exact⟨fun j hj=>by have:=q1 j hj;lia,fun k hk=>by cases hk;lia,fun j hj=>by have:=q3 j hj;lia⟩
   ·exact⟨fun j hj=>by have:=q1 j hj;lia,fun k hk=>by have:=q2 k hk;lia,fun j hj=>by have:=q3 j hj;lia⟩
  ·exact ih (fun q hq=>h q<|UV _ hq) q hq
theorem zeq{i:Nat}{ob:List (Nat×Od)}{rs:List Rb}(h:nS (i+1) rs):nS (i+1) (rs++zej i ob):=fun q hq=>by
 rcases Nm.1 hq with hq|hq
 ·exact h q hq
 ·obtain⟨e,_,rfl⟩:=xal.1 hq;exact⟨fun j hj=>by cases hj;lia,fun k hk=>(by cases hk),fun j hj=>absurd hj IR⟩
theorem zhN{i:Nat}{rs:List Rb}(h:nS i rs):nS (i+1) rs:=fun r hr=>by
 obtain⟨q1,q2,q3⟩:=h r hr;exact⟨fun j hj=>by have:=q1 j hj;lia,fun k hk=>by have:=q2 k hk;lia,fun j hj=>by have:=q3 j hj;lia⟩
theorem zkq{i n:Nat}{os:List Nat}{rs:List Rb}(h:∀r∈rs,r.o<n):∀r∈MB i os rs,r.o<n:=by
 induction rs with
 |nil=>exact fun r hr=>absurd hr IR
 |cons r rs ih=>
  intro q hq;unfold MB at hq;rcases xac.1 hq with rfl|hq
  ·have:=h r<|FS;split<;>exact this
  ·exact ih (fun q hq=>h q<|UV _ hq) q hq
theorem ziH{i n:Nat}{os:List Nat}{rs:List Rb}(h:∀r∈rs,r.o<n):∀r∈MY i os rs,r.o<n:=by
 induction rs with
 |nil=>exact fun r hr=>absurd hr IR
 |cons r rs ih=>
  intro q hq;unfold MY at hq;rcases xac.1 hq with rfl|hq
  ·have:=h r<|FS;split<;>exact this
  ·exact ih (fun q hq=>h q<|UV _ hq) q hq
theorem zc3{n:Nat}{os:List Nat}:∀{rs:List Rb},(∀r∈rs,r.o<n)->∀e∈aN os rs,e.1<n
 |[],_,e,he=>absurd he IR
 |r::rs,h,e,he=>by
  have ih:=zc3 (os:=os) (rs:=rs) fun q hq=>h q<|UV _ hq;unfold aN at he;split at he
  ·rcases xac.1 he with rfl|he
   ·exact h r<|FS
   ·exact ih e he
  ·exact ih e he
theorem PC:∀(rs:List Rb),HN rs=dU (fun r=>r.c.isNone) rs
 |[]=>rfl
 |r::rs=>by
  have ih:=PC rs;unfold dU at ih⊢;unfold HN
  cases hc:r.c with
  |none=>simp only[xaO,hc,Option.isNone_none,if_true];rw[ih]
  |some k=>simp only[xaO,hc,Option.isNone_some,xak,if_false];exact ih
theorem Jv{ts:List Tmp}:∀{rg:List (Nat×Nat×Dv)}{e:Nat×Nat×Dv},e∈JM ts rg->e∈rg/\b5 ts e.1=true
 |(t,i,v)::r,e,h=>by
  unfold JM at h;split at h
  ·next hh=>
   rcases xac.1 h with rfl|h
   ·exact⟨FS,hh⟩
   ·obtain⟨h1,h2⟩:=Jv h;exact⟨UV _ h1,h2⟩
  ·obtain⟨h1,h2⟩:=Jv h;exact⟨UV _ h1,h2⟩
theorem dc{ts:List Tmp}{t i:Nat}(ht:b5 ts t=true):∀{rg:List (Nat×Nat×Dv)},cZ (JM ts rg) t i=cZ rg t i
 |[]=>rfl
 |(t',i',v)::r=>by
  unfold JM;split
  ·unfold cZ;rw[dc ht]
  ·next hh=>
   rw[dc ht];conv=>rhs;unfold cZ
   rw[uX<|fun e=>by rw[e,ht]at hh;cases hh];rfl
theorem Oe{t i:Nat}:∀{a b:List (Nat×Nat×Dv)},cZ (a++b) t i=match cZ a t i with|some d=>some d|none=>cZ b t i
 |[],b=>rfl
 |(t',i',v)::a,b=>by
  show(bif xap t' t && xap i' i then some v else cZ (a++b) t i)=(match(bif xap t' t && xap i' i then some v else cZ a t i)with|some d=>some d|none=>cZ b t i);cases hb:xap t' t && xap i' i
  ·simp only[cond_false];exact Oe
  ·simp only[cond_true]
theorem ze8{l:List Nat}{t:Nat}(h:b5 l t=true):t∈l:=by grind [b5,z8,xeP]
theorem iZ:∀{l:List (Nat×Dv)}{e:Nat×Dv}{p:Nat},e∈l->wj e.2=some p->p∈gm l
 |(i,v)::r,e,p,h,hp=>by
  unfold gm;rcases xac.1 h with rfl|h
  ·have hp:wj v=some p:=hp;rw[hp];exact FS
  ·have:=iZ h hp;split
   ·exact UV _ this
   ·exact this
theorem zbU{d:Option Tmp}{rg:List (Nat×Nat×Dv)}{e:Nat×Dv}(h:e∈nJ d rg):∃t,d=some t/\(t,e.1,e.2)∈rg:=by
 unfold nJ at h;split at h
 ·next t=>
  obtain⟨q,hq,he⟩:=xff.1 h;split at he
  ·next hb=>
   cases he;rw[<-z8 hb];exact⟨_,rfl,hq⟩
  ·cases he
 ·cases h
def Mj(P:Program)(vs:Nat->Value)(n0:Nat)(Γ:List FF)(env0:yN)(cx σ:Sg)(KL:List (Tmp×List (Nat×Dv))):Prop:=∀vs',(∀p,p<n0->vs' p=vs p)->LX P vs' Γ env0 cx σ (KV P vs' KL)
def Ot(cx:Sg)(KL:List (Tmp×List (Nat×Dv))):Prop:=∀e∈KL,Yd cx.rg e.1=true
theorem lD{KL:List (Tmp×List (Nat×Dv))}{l:List (Nat×Dv)}{d:Option Tmp}(hd:wu cx d=true)(h:Ot cx KL):Ot cx (Eg d l KL):=by
 cases d with
 |none=>exact h
 |some s=>
  intro e he;rcases xac.1 he with rfl|he
  ·exact hd
  ·exact h e he
theorem sO{n0:Nat}{Γ:List FF}{KL:List (Tmp×List (Nat×Dv))}{l:List (Nat×Dv)}{o:Oper}(hd:wu cx o.dst=true)(h:Mj P vs n0 Γ env0 cx σ KL):Mj P vs n0 Γ env0 cx (σ.put o.dst l) (Eg o.dst l KL):=fun vs' hv=>by
 rw[zcc];exact tG hd (h vs' hv) fun S v w hv=>hv
theorem Et(hT:yZ P cf.tt)(hL:jN P cf.tt)(hC:∀s∈cf.cs,y6 P s)(hX:Aa P cf){all:List Oper}{fz:List Nat}{k:Sg->List Rb->List Oi->Option R}{Γ:List FF}{n0:Nat}(hu:∀e∈cx.ob,e.1<n0):∀{os:List Oper}{i:Nat}{σ:Sg}{rs:List Rb}{is:List Oi}{KL:List (Tmp×List (Nat×Dv))},
 PX cf cx all fz os i σ rs is k=some r->Mj P vs n0 Γ env0 cx σ KL->Ot cx KL->σ.ob=[]->Bd cx σ->(∀r∈rs,r.o<σ.nx)->nS i rs->n0<=σ.nx->
 ∃(Ls:List (List<|Nat×Dv)) (is':List Oi) (σ':Sg) (rs':List Rb),Ls.length=os.length/\is'.length=os.length/\k σ' rs' (is++is')=some r/\RX i rs rs'/\
  zen P all.toArray fr.we fr.Se (MS vs cx.ob++fr.F) Γ env0 vs n0 rs' ((os.zip Ls).zip is') i KL/\Mj P vs n0 Γ env0 cx σ' (mq (os.zip Ls) KL)/\Ot cx (mq (os.zip Ls) KL)/\σ'.ob=[]/\Bd cx σ'/\(∀r∈rs',r.o<σ'.nx)/\n0<=σ'.nx
 |[],i,σ,rs,is,KL,h,hi,hn,ho,hB,hr,hO,h0=>⟨[],[],σ,rs,rfl,rfl,by rw[xbR];exact h,RX.refl _ _,trivial,hi,hn,ho,hB,hr,h0⟩
 |o::os,i,σ,rs,is,KL,h,hi,hn,ho,hB,hr,hO,h0=>by
  unfold PX at h;obtain⟨hd,h⟩:=yh h;obtain⟨σ1,b,h,hN,hD,hP,hH,hQ⟩:=GX h hB;have hc:∀{vs' env S w},(∀p,p<n0->vs' p=vs p)->zA S Γ w->X6 (KV P vs' KL) env0 env S w (xbC all.toArray o)->∀t∈xbC all.toArray o,Lk P vs' env S w cx σ t:=fun{vs' env S w} hv hΓ hh t ht=>hi vs' hv env S w hΓ t<|Yy hh t ht;cases b
  ·have h':Mj P vs n0 Γ env0 cx (σ1.put o.dst [(0,.un)]) (Eg o.dst [(0,.un)] KL):=sO hd fun vs' hv env S w hΓ t ht=>hH P vs' env S w t<|hi vs' hv env S w hΓ t ht;obtain⟨Ls,is',σ',rs',h1,h2,h3,h4,h5,h6,h7,h8,h9,hy,hz⟩:=Et hT hL hC hX hu (os:=os) h h' (lD hd hn) (hN.trans ho) (iY hP fun e he p hp=>by obtain rfl:=xai.1 he;cases hp) (fun r hs=>by show r.o<σ1.nx;rw[hD];exact hr r hs) (zhN hO) (by show n0<=σ1.nx;rw[hD];exact h0);obtain⟨g1,g2,g3,g4⟩:=NM hO h4;refine⟨[(0,.un)]::Ls,⟨σ1.nx,σ1.nx,[]⟩::is',σ',rs',by simp[h1],by simp[h2],by rw[<-h3];simp,g1,⟨⟨(by show n0<=σ1.nx;rw[hD];exact h0),xab _,fun e he p hp=>(by obtain rfl:=xai.1 he;cases hp),fun e he=>(by rw[g3]at he;cases he),fun vs' hv env F G w hb=>⟨fun hw=> ?_,fun _=>⟨g2,g3,fun S w=>⟨rfl,trivial⟩⟩⟩⟩,h5⟩,h6,h7,h8,h9,hy,hz⟩;exfalso;obtain⟨S,_,hΓ⟩:=hb.ex;have:=hQ P vs' env S w fun t ht=>hc hv (zA.left hΓ.2) hΓ.1 t ht;rw[hw]at this;cases this
  ·obtain⟨σ2,h,ho2,hx2,hg,hR⟩:=OY h hP;have hI:∀vs' env S w t,Lk P vs' env S w cx σ t->Lk P vs' env S w cx σ2 t:=fun vs' env S w t ht=>hR P vs' env S w t<|hH P vs' env S w t ht;have hS:Mj P vs n0 Γ env0 cx σ2 KL:=fun vs' hv env S w hΓ t ht=>hI vs' env S w t<|hi vs' hv env S w hΓ t ht;have hj:σ2.nx=σ.nx:=hx2.trans hD;have hJ:∀{vs' env S w},(∀p,p<n0->vs' p=vs p)->zA S Γ w->X6 (KV P vs' KL) env0 env S w (xbC all.toArray o)->yF all.toArray env o=true:=fun{vs' env S w} hv hΓ hh=>hQ P vs' env S w fun t ht=>hc hv hΓ hh t ht;generalize hA:xbC all.toArray o=ts at h hc hJ;generalize hos:K8 ts σ2.rg=osn at h;generalize hbz:fzB fz o.dst=bz at h;cases hM:zfF cf cx ⟨σ2.nx,σ2.rg,aN osn rs⟩ bz o.dst o.op<;>rw[hM]at h
   ·simp only[Na]at h;obtain⟨l,h,hes⟩:=zcL (P:=P) (d:=o.dst) (ty:=o.type) (pos:=o.pos) (aft:=o.after) (g:=o.guard) (F:=[]) hT hL hC hX h;obtain⟨hl,h⟩:=yh h;obtain⟨Ls,is',σ',rs',h1,h2,h3,h4,h5,h6,h7,h8,h9,hy,hz⟩:=Et hT hL hC hX hu (os:=os) h (sO hd hS) (lD hd hn) (ho2.trans<|hN.trans ho) (iY hg<|BW hl) (zkq fun r hs=>by show r.o<σ2.nx;rw[hj];exact hr r hs) (zd7 hO) (by show n0<=σ2.nx;rw[hj];exact h0);obtain⟨g1,g2,g3,g4⟩:=zc0 hO h4;refine⟨l::Ls,⟨σ2.nx,σ2.nx,gm l⟩::is',σ',rs',by simp[h1],by simp[h2],by rw[<-h3];simp,g1,⟨⟨(by show n0<=σ2.nx;rw[hj];exact h0),xab _,fun e he p hp=>⟨BW hl e he p hp,iZ he hp⟩,fun e he=>(by rw[g3]at he;cases he),fun vs' hv env F G w hb=>⟨fun _=> ?_,fun hw=> ?_⟩⟩,h5⟩,h6,h7,h8,h9,hy,hz⟩
    ·rw[g2]at hb;rw[g3];obtain⟨k1,k2,k3,S,k4,k5,k6,k7,k8⟩:=hb;have hE:MS vs' cx.ob=MS vs cx.ob:=wa fun e he=>hv _<|hu e he;refine(hes env w S vs' k5 (uc.2 fun mf hmf=> ?_) fun t ht=> ?_).mono ?_
     ·rcases Nm.1 hmf with hmf|hmf
      ·obtain⟨e,he,rfl⟩:=xal.1 hmf;exact uc.1 k7 _<|Nm.2 (.inl<|xal.2 ⟨e,g4 e he,rfl⟩)
      ·rw[xbR]at hmf;have hmf:mf∈MS vs' cx.ob:=hmf;rw[hE]at hmf;exact uc.1 k7 _<|Nm.2 (.inr<|Nm.2 (.inl<|Nm.2 (.inl hmf)))
     ·have hh:X6 (KV P vs' KL) env0 env S w (xbC all.toArray o):=k8.1;exact hI vs' env S w t<|hc hv (zA.left k8.2) (hA▸hh) t<|hA▸Nm.2 (.inl ht)
     ·rintro v w' ⟨hx,hf⟩;refine⟨vs',fun _ _=>rfl,k1.trans hx,k2,k3,S,k4,fun k hk=>k5 k<|xam hx.size hk,k6,yw.keep hx.to (fun m hm i hi=>hx.block i (yw.lt k7 m hm i hi) trivial) k7,zA.append (jK.2 fun f hf'=> ?_)<|zA.keep hx.to k8.2⟩;obtain⟨e,he,rfl⟩:=xal.1 hf';exact hf e he
    ·exfalso;obtain⟨S,_,hΓ⟩:=hb.ex;have hh:X6 (KV P vs' KL) env0 env S w (xbC all.toArray o):=hΓ.1;have:=hJ hv (zA.left hΓ.2)<|hA▸hh;rw[hw]at this;cases this
   ·simp only[Na]at h;obtain⟨τ,h,hle,hm⟩:=zgm (P:=P) (cx:=⟨0,[],cx.ob⟩) (d:=o.dst) (ty:=o.type) (pos:=o.pos) (aft:=o.after) (g:=o.guard) hT hL hC hX (by cases o.dst<;>rfl) h;obtain⟨τ2,hτ⟩:∃τ2,τ2=ziF bz o.dst τ:=⟨_,rfl⟩;simp only at h;rw[<-hτ]at h;have hU:τ2.nx=τ.nx:=by rw[hτ];cases bz<;>first|rfl|exact Lf _ _
    have hK:∀{frm:Fr}{vs2:Nat->Value}{env w},aR P frm ⟨0,[],cx.ob⟩ τ vs2 env w->aR P frm ⟨0,[],cx.ob⟩ τ2 vs2 env w:=fun{frm vs2 env w} hq=>by rw[hτ];cases bz<;>first|exact hq|exact cj _ hq
    unfold zgh at h;obtain⟨hl,h⟩:=yh h;rw[xao]at hl;obtain⟨hl,hF⟩:=hl;have hF:∀e∈τ2.ob,e.1<τ2.nx:=fun e he=>by
     have:=xaR.1 hF e he;have:=xbM this;lia
    have ha:σ2.nx<=τ2.nx:=by rw[hU];exact hle
    have hi3:Mj P vs n0 Γ env0 cx ⟨τ2.nx,vi σ2.rg o.dst<|nJ o.dst τ2.rg,[]⟩ (Eg o.dst (nJ o.dst τ2.rg) KL):=fun vs' hv=>sO (l:=nJ o.dst τ2.rg) hd hS vs' hv;have hB3:Bd cx ⟨τ2.nx,vi σ2.rg o.dst<|nJ o.dst τ2.rg,[]⟩:=by
     refine⟨fun e he=>absurd he IR,fun e he=>xan (hg.o2 e he) ha,fun e he p hp=> ?_,fun e he p hp=>xan (hg.r2 e he p hp) ha⟩;have he:e∈vi σ2.rg o.dst (nJ o.dst τ2.rg):=he;unfold vi at he;split at he
     ·rcases Nm.1 he with he|he
      ·obtain⟨e',he',rfl⟩:=xal.1 he;exact BW hl e' he' p hp
      ·exact xan (hg.r1 e (xcj.1 he).1 p hp) ha
     ·exact xan (hg.r1 e he p hp) ha
    obtain⟨Ls,is',σ',rs',h1,h2,h3,h4,h5,h6,h7,h8,h9,hy,hz⟩:=Et hT hL hC hX hu (os:=os) h hi3 (lD hd hn) rfl hB3 (fun q hq=>by
     rcases Nm.1 hq with hq|hq
     ·exact xan (ziH (n:=σ2.nx) (fun r hs=>by rw[hj];exact hr r hs) q hq) ha
     ·obtain⟨e,he,rfl⟩:=xal.1 hq;exact hF e he) (zeq (zeR hO)) (xam (by rw[hj];exact h0) ha)
    obtain⟨g1,g2,g3,g4⟩:=zde hO h4;refine⟨nJ o.dst τ2.rg::Ls,⟨σ2.nx,τ2.nx,gm<|nJ o.dst τ2.rg⟩::is',σ',rs',by simp[h1],by simp[h2],by rw[<-h3];simp,g1,⟨⟨(by show n0<=σ2.nx;rw[hj];exact h0),ha,fun e he p hp=>⟨BW hl e he p hp,iZ he hp⟩,fun e he=>hF e (by rw[g3]at he;exact he),fun vs' hv env F G w hb=>⟨fun _=> ?_,fun hw=> ?_⟩⟩,h5⟩,h6,h7,h8,h9,hy,hz⟩
    ·rw[g2,g4,xbR]at hb;rw[g3,g4];have hE:∀{vs2:Nat->Value},(∀p,p<n0->vs2 p=vs p)->MS vs2 cx.ob=MS vs cx.ob:=fun hv=>wa fun e he=>hv _<|hu e he;have hV:aR P ⟨fr.we,fr.Se,fr.F++F,Γ++G⟩ ⟨0,[],cx.ob⟩ ⟨σ2.nx,dd<|JM ts<|σ2.rg++cx.rg,aN osn rs⟩ vs' env w:=by
      refine⟨⟨fun e he=>zc3 (fun r hs=>by rw[hj];exact hr r hs) e he,hg.o2,fun e he p hp=> ?_,fun e he=>absurd he IR⟩,?_⟩
      ·have:=(Jv<|Uy he).1;rcases Nm.1 this with h|h
       ·exact hg.r1 e h p hp
       ·exact hg.r2 e h p hp
      ·show St fr.we fr.Se (MS vs' (aN osn rs)++(MS vs' cx.ob++(fr.F++F))) (RS P vs' env (dd<|JM ts<|σ2.rg++cx.rg)++([]++(Γ++G))) w;rw[hE hv,<-xaj<|MS vs cx.ob];refine hb.weak fun S w hΓ=>zA.append (jK.2 fun f hf=> ?_) hΓ.2;obtain⟨e,he,rfl⟩:=xal.1 hf;have hh:X6 (KV P vs' KL) env0 env S w (xbC all.toArray o):=hΓ.1;have hW:=(Jv<|Uy he).2;have hY:=EN he;rw[dc hW,Oe]at hY;exact hI vs' env S w e.1 (hc hv (zA.left hΓ.2) (hA▸hh) e.1<|ze8 hW) e.2.1 e.2.2 hY
     refine(hm _ vs' env w hV).mono ?_;rintro v w' ⟨vs2,hZ,hrv⟩;obtain⟨_,hG⟩:=hK hrv;refine⟨vs2,hZ,?_⟩;have hG:St fr.we fr.Se (MS vs2 τ2.ob++(MS vs2 cx.ob++(fr.F++F))) (RS P vs2 (put env o.dst v) τ2.rg++([]++(Γ++G))) w':=hG;rw[hE (vs2:=vs2)<|fun p hp=>(hZ p<|xan hp (by show n0<=σ2.nx;rw[hj];exact h0)).trans<|hv p hp,<-xaj<|MS vs cx.ob]at hG;refine St.weak (show St fr.we fr.Se (MS vs2 τ2.ob++(MS vs' []++(MS vs cx.ob++fr.F++F))) _ w' from hG) fun S w hΓ=>zA.append (jK.2 fun f hf=> ?_)<|zA.right hΓ;obtain⟨e,he,rfl⟩:=xal.1 hf;obtain⟨t,ht,hm'⟩:=zbU he;have:=JK (zA.left hΓ) hm';rw[ht,sn]at this;exact this
    ·exfalso;obtain⟨S,_,hΓ⟩:=hb.ex;have hh:X6 (KV P vs' KL) env0 env S w (xbC all.toArray o):=hΓ.1;have:=hJ hv (zA.left hΓ.2)<|hA▸hh;rw[hw]at this;cases this
theorem zie(hm:P.follows .mixedOrders=true)(hT:yZ P cf.tt)(hL:jN P cf.tt)(hC:∀s∈cf.cs,y6 P s)(hX:Aa P cf){N:Nd}{id m:Nat}{l:List Oper}{Q:Qs}{k:Sg->Option R}
 (hK:∀σ',k σ'=some r->∀env' w,dF cx env env'->Zi P fr cx σ' env' w->Q .normal env' w) (hN:(l.all fun o=>qw N.n o.dst)=true) (hc:YH l m=true) (h:zih cf cx id l m σ k=some r) (hR:Zi P fr cx σ env w):Wp P N (.region id l.toArray true) Q env w:=by
 unfold zih at h;simp only at h;obtain⟨hA,vs,hs⟩:=hR;obtain⟨ha,hu⟩:=cj (K8 (zgt cf id) σ.rg) ⟨hA,hs⟩;generalize rf σ (K8 (zgt cf id) σ.rg)=σ0 at h ha hu;have hM:m<=l.length:=(jV hc).1
 obtain⟨Ls,is,σ',rs,h1,h2,h3,h4,h5,hw,hy,hO,hp,hB,hP⟩:=Et (P:=P) (fr:=fr) (vs:=vs) (env0:=env) (Γ:=GS P vs env fr cx σ0) (n0:=σ0.nx) (KL:=[]) hT hL hC hX ha.o2 h
  (fun vs' hv env' S w' hΓ t ht i dv hd=>by
   have ht:env' t=env t:=ht;rw[ht];have hg:get cx σ0 t i=some dv:=hd;have:=Yh hΓ t i dv hg;have hD:xK P vs' dv (env t) i=xK P vs dv (env t) i:=by
    unfold xK;simp only[dN (P:=P) (vs':=vs') (vs:=vs) (d:=dv) fun o ho=>hv o (by
     rcases ET hg with hm|hm
     ·exact ha.r1 _ hm o ho
     ·exact ha.r2 _ hm o ho)]
   rw[hD];exact this) (fun _ he=>absurd he IR) rfl ⟨fun _ he=>absurd he IR,ha.o2,ha.r1,ha.r2⟩ (fun q hq=>by
    obtain⟨e,he,rfl⟩:=xal.1 hq;exact ha.o1 e he) (fun q hq=>by
    obtain⟨e,he,rfl⟩:=xal.1 hq;exact⟨fun j hj=>(by cases hj),fun j hj=>(by cases hj),fun j hj=>absurd hj IR⟩) (xab _)
 simp only[xbA]at h3;obtain⟨hx,h3⟩:=yh h3;have hE:=zaA h4;refine zhp (we:=fr.we) (Se:=fr.Se) (ms:=OS vs fr cx σ0.ob) (mE:=MS vs cx.ob++fr.F) m Ls is rs (σ'.rg.map (·.1)++cx.rg.map (·.1)) vs σ0.nx hm hc (by rw[h1,xav];lia) (by rw[h2,xav];lia) hx (by rw[hE]) hN h5 ?_ w hu;intro env1 w1 vs' hr hl;have hn:HN rs=dU (fun r=>r.c.isNone) rs:=PC rs;have hz:∀e∈HN rs,e.1<σ'.nx:=fun e he=>by
  rw[hn]at he;obtain⟨q,hq,he⟩:=xff.1 he;split at he
  ·cases he;exact hB q hq
  ·cases he
 obtain⟨S1,_,hF⟩:=hl.ex;have hG:dF cx env env1:=fun e0 hi=>by
  have h1:=Yy hF.1 e0.1<|Nm.2 (.inr<|xal.2 ⟨e0,hi,rfl⟩);unfold Ze at h1;have hf:(KV P vs'<|mq ((l.take m).zip Ls) []).find? (fun x=>xap x.1 e0.1)=none:=by
   rw[List.find?_eq_none];intro e he hb;obtain⟨e1,hH,rfl⟩:=xal.1 he;have:=hy e1 hH;simp only[Yd,xaR]at this;have:=this e0 hi;rw[z8 hb]at this;simp at this
  rw[hf]at h1;exact h1
 refine tz (P:=P) (fr:=fr) hT hL hC hX hK hG (PK hN m) h3 ⟨⟨hz,hp.o2,fun e he=>hp.r1 e<|Uy he,hp.r2⟩,vs',?_⟩;show St fr.we fr.Se (MS vs' (HN rs)++(MS vs' cx.ob++fr.F)) (RS P vs' env1 (dd σ'.rg)++(RS P vs' env1 cx.rg++fr.G)) w1;rw[hn,wa (ob:=cx.ob) fun e he=>hr _<|ha.o2 e he];refine hl.weak fun S w2 hΓ=> ?_;have hk:=Yy hΓ.1;have hI:∀t∈cx.rg.map (·.1),env1 t=env t:=fun t ht=>by
  have h1:=hk t<|Nm.2 (.inr ht);unfold Ze at h1;have hf:(KV P vs'<|mq ((l.take m).zip Ls) []).find? (fun x=>xap x.1 t)=none:=by
   rw[List.find?_eq_none];intro e he hb;obtain⟨e0,hi,rfl⟩:=xal.1 he;have:=hy e0 hi;obtain⟨e',hJ,rfl⟩:=xal.1 ht;simp only[Yd,xaR]at this;have:=this e' hJ;rw[z8 hb]at this;simp at this
  rw[hf]at h1;exact h1
 refine zA.append ?_<|zA.append ?_<|zA.right<|zA.right hΓ.2
 ·refine jK.2 fun f hf=> ?_;obtain⟨e,he,rfl⟩:=xal.1 hf;have hg:get cx σ' e.1 e.2.1=some e.2.2:=by unfold get;rw[EN he]
  exact hw vs' hr env1 S w2 hΓ.2 e.1 (hk e.1<|Nm.2 (.inl<|xal.2 ⟨e,Uy he,rfl⟩)) _ _ hg
 ·rw[qI (vs:=vs) (env:=env) (fun e he o ho=>hr o<|ha.r2 e he o ho) fun e he=>hI e.1<|xal.2 ⟨e,he,rfl⟩];exact zA.left<|zA.right hΓ.2
theorem zao(hm:P.follows .mixedOrders=true)(hT:yZ P cf.tt)(hL:jN P cf.tt)(hC:∀s∈cf.cs,y6 P s)(hX:Aa P cf){N:Nd}{id:Nat}{l:List Oper}{draw:Bool}{Q:Qs}{k:Sg->Option R}
 (hK:∀σ',k σ'=some r->∀env' w,dF cx env env'->Zi P fr cx σ' env' w->Q .normal env' w) (hN:(l.all fun o=>qw N.n o.dst)=true) (h:zhD cf cx id l draw σ k=some r) (hR:Zi P fr cx σ env w):Wp P N (.region id l.toArray draw) Q env w:=by
 unfold zhD at h;cases draw
 ·exact fun a h1 h2 h3=>wpIn_region_lit<|tz hT hL hC hX hK dF.refl hN h hR a h1 h2 h3
 ·simp only[Na]at h;obtain⟨hc,h⟩:=yh h;generalize LH l l.length l.length=m at hc h;cases hw:ziM cf id<;>rw[hw]at h
  case true=>exact zie hm hT hL hC hX hK hN hc h hR
  simp only at h;have hi:=Hb (cf:=cf) (l.take m) [] hR;generalize zdF cf cx (l.take m) [] σ=σ0 at h hi;obtain⟨hB,vs,hr⟩:=hi;have hy:m<=l.length:=(jV hc).1
  obtain⟨Φs,σ',hl,hj,h,hn,hs,hu,ha⟩:=Mf (P:=P) (fr:=fr) (vs:=vs) (env0:=env) (σ0:=σ0) (Γ:=GS P vs env fr cx σ0) (K:=[]) hT hL hC hX h
   (fun env' S w' hΓ t ht i dv hd=>by
    have ht:env' t=env t:=ht;rw[ht];exact Yh hΓ t i dv hd) (fun _ he=>absurd he IR) rfl hB
  refine MR (we:=fr.we) (Se:=fr.Se) (ms:=OS vs fr cx σ0.ob) (Γ:=GS P vs env fr cx σ0) m Φs (σ'.rg.map (·.1)++cx.rg.map (·.1)) hm hc (by rw[hl,xav];lia) hN hj ?_ w hr;intro S w1 env1 hS hΓ hh;have hk:=Yy hh;have ho:∀t∈cx.rg.map (·.1),env1 t=env t:=fun t ht=>by
   have h1:=hk t<|Nm.2 (.inr ht);unfold Ze at h1;have hf:(IX ((l.take m).zip Φs) []).find? (fun x=>xap x.1 t)=none:=by
    rw[List.find?_eq_none];intro e he hb;have:=hs e he;obtain⟨e',hv,rfl⟩:=xal.1 ht;simp only[Yd,xaR]at this;have:=this e' hv;rw[z8 hb]at this;simp at this
   rw[hf]at h1;exact h1
  have hd:zA S (RS P vs env1<|dd σ'.rg) w1:=jK.2 fun f hf=>by
   obtain⟨e,he,rfl⟩:=xal.1 hf;have hg:get cx σ' e.1 e.2.1=some e.2.2:=by unfold get;rw[EN he]
   exact hn env1 S w1 hΓ e.1 (hk e.1<|Nm.2 (.inl<|xal.2 ⟨e,Uy he,rfl⟩)) _ _ hg
  have hx:zA S (RS P vs env1 cx.rg) w1:=by
   rw[qI (env:=env) (fun _ _ _ _=>rfl) fun e he=>ho e.1<|xal.2 ⟨e,he,rfl⟩];exact zA.left<|zA.right hΓ
  refine⟨GS P vs env1 fr cx ⟨σ'.nx,dd σ'.rg,σ'.ob⟩,(σ'.rg.map (·.1)++cx.rg.map (·.1)).map fun t=>(t,env1 t),zA.append hd<|zA.append hx<|zA.right<|zA.right hΓ,rE _,fun rest w2 hp=> ?_⟩;refine tz (P:=P) (fr:=fr) hT hL hC hX hK (fun e0 hq=>(Dq<|Nm.2 (.inr<|xal.2 ⟨e0,hq,rfl⟩)).trans<|ho e0.1<|xal.2 ⟨e0,hq,rfl⟩) (PK hN m) h ⟨⟨ha.o1,ha.o2,fun e he=>ha.r1 e<|Uy he,ha.r2⟩,vs,?_⟩;have e1:RS P vs (L ((σ'.rg.map (·.1)++cx.rg.map (·.1)).map fun t=>(t,env1 t)) rest) (dd σ'.rg)=RS P vs env1 (dd σ'.rg):=qI (fun _ _ _ _=>rfl) fun e he=>Dq<|Nm.2 (.inl<|xal.2 ⟨e,Uy he,rfl⟩);have e2:RS P vs (L ((σ'.rg.map (·.1)++cx.rg.map (·.1)).map fun t=>(t,env1 t)) rest) cx.rg=RS P vs env1 cx.rg:=qI (fun _ _ _ _=>rfl) fun e he=>Dq<|Nm.2 (.inr<|xal.2 ⟨e,he,rfl⟩);show St _ _ (OS vs fr cx σ'.ob) (RS P vs _ (dd σ'.rg)++(RS P vs _ cx.rg++fr.G)) w2;rw[e1,e2,hu];exact hp
end
end
section
section
variable{P:Program}{cf:Cf}{fr:Fr}{cx kp σ:Sg}{vs vs':Nat->Value}{env env0:yN}{w:World}{R:Type}{r:R}
def zdJ(u:Value)(r:Nat):Option Value:=(ve u)[r]?
def tfF:(f:TF)->f.D->(Nat->Value)->Value->Value->FF
 |.d t,x,_,_,v=>fV t.rep x v
 |.q t,x,_,_,v=>fP t.rep x v
 |.own _ _,_,_,u,v=>rK<|v=u
 |.var _ _,_,_,u,v=>rK (v=u/\∃b,v=.pointer (some ⟨b,0,none⟩))
 |.mat _ _ _,_,_,u,v=>rK<|v=yY u
 |.matv _ _ _,x,_,u,v=>rK<|Fw (yY u) x.2.1 x.2.2 v
 |.row j,r,U,_,v=>rK<|zdJ (U j) r=some v
 |.view j,r,U,_,v=>rK<|Fw (yY<|U j) r.1 r.2 v
 |.bo _ _ _,_,_,u,v=>rK<|v=yY u
def Lo:(f:TF)->f.D->Value->List MF
 |.own t E,xs,u=>[mO t.rep E u xs]
 |.var t E,z,u=>[mP t.rep.c E u z]
 |.mat t E E1,x,u=>[lZ t.rep E E1 u x.1 x.2]
 |.matv t E E1,x,u=>[lZ t.rep E E1 u x.1.1 x.1.2]
 |.bo t E E0,xs,u=>[mBo t.rep E E0 u xs]
 |_,_,_=>[]
def dsF(U:Nat->Value)(env:yN):(l:List (Nat×TF))->WV l->Nat->List FF
 |[],_,_=>[]
 |[a],x,i=>[tfF a.2 x U (U i)<|env a.1]
 |a::b::r,x,i=>tfF a.2 x.1 U (U i) (env a.1)::dsF U env (b::r) x.2 (i+1)
def XE(U:Nat->Value):(l:List (Nat×TF))->WV l->Nat->List MF
 |[],_,_=>[]
 |[a],x,i=>Lo a.2 x<|U i
 |a::b::r,x,i=>Lo a.2 x.1 (U i)++XE U (b::r) x.2 (i+1)
def Xo(f:TF)(dv:Option Dv)(vs:Nat->Value)(v:Value):Value:=match f,dv with
 |.mat _ _ _,some .nil=>KP v []
 |.mat _ _ _,some (.mw o)=>vs o
 |.matv _ _ _,some (.mv o _ _)=>vs o
 |.bo _ _ _,some (.mw o)=>vs o
 |_,_=>v
def Q1(cx σ:Sg)(ds:List (Nat×TF))(vs:Nat->Value)(env:yN)(j:Nat):Value:=match ds[j]? with
 |some (t,f)=>Xo f (get cx σ t 0) vs<|env t
 |none=>undef
theorem St.mid{we:World}{Se:Nat->Prop}{A B:List MF}{m:MF}{Γ:List FF}{w:World}(h:St we Se (A++m::B) Γ w):St we Se (m::(A++B)) Γ w:=St.perm h xct
theorem DJ:∀{os l:List Nat},oV os l=true->∀o∈l,b5 os o=false
 |os,o::r,h,p,hp=>by
  simp only[oV,xao,xdn]at h;rcases xac.1 hp with rfl|hp
  ·exact h.1
  ·exact DJ h.2 p hp
theorem MC{ds:List (Nat×TF)}{t:Nat}{f:TF}{k:f.D->List Nat->Option R}(h:bZ cx σ ds t f k=some r):∃x os,k x os=some r/\(∀j,s9 f=some j->j<ds.length)/\
 (∀(P:Program) vs env S w,(∀t,Lk P vs env S w cx σ t)->(tfF f x (Q1 cx σ ds vs env) (Xo f (get cx σ t 0) vs<|env t)<|env t).p S w)/\
 (∀(P:Program) vs (fr:Fr) env (A:List MF) (Γ:List FF) w (os':List Nat),(∀S w,zA S Γ w->Lk P vs env S w cx σ t)->(∀o∈os,b5 os' o=false)->St fr.we fr.Se (A++OS vs fr cx (w8 σ.ob os')) Γ w->
  St fr.we fr.Se (Lo f x (Xo f (get cx σ t 0) vs<|env t)++(A++OS vs fr cx (w8 σ.ob<|os++os'))) Γ w):=by
 have nr:∀{f:TF},(∀j,s9 f≠some j)->∀j,s9 f=some j->j<ds.length:=fun h j e=>absurd e<|h j
 cases f with
 |d s=>
  obtain⟨y,h,hy⟩:=zaM h;refine⟨y,[],h,nr (fun j e=>by cases e),fun P vs env S w hl=> ?_,fun P vs fr env A Γ w os' _ _ h=>h⟩
  cases hg:get cx σ t 0 with
  |none=>rename_i h0;simp only[bZ]at h0;rw[hg]at h0;cases h0
  |some v=>exact hy P vs S w v _ hg<|hl t 0 v hg
 |q s=>
  simp only[bZ]at h;split at h
  ·next s' x hg=>
   obtain⟨e,h⟩:=yi h;subst e;exact⟨_,[],h,nr (fun j e=>by cases e),fun P vs env S w hl=>hl t 0 _ hg,fun P vs fr env A Γ w os' _ _ h=>h⟩
  ·cases h
 |own s E=>
  simp only[bZ]at h;split at h
  ·next o hg=>
   split at h
   ·next s' E' xs ho=>
    obtain⟨hE,h1⟩:=yh h;have hE:=z8 hE;subst hE;obtain⟨e,h2⟩:=yi h1;cases e;refine⟨_,[o],h2,nr (fun j e=>by cases e),fun _ _ _ _ _ _=>by simp only[hg,Xo];exact rfl,fun P vs fr env A Γ w os' hl hn ha=> ?_⟩;have hp:=kT (vs:=vs) (fr:=fr) (cx:=cx)<|(jW<|hn o<|FS).trans ho;have h3:=St.mid<|St.perm ha<|xcf _ hp;obtain⟨S,_,hΓ⟩:=ha.ex;have hv:env t=vs o:=hl S w hΓ 0 _ hg;simp only[hg,Xo];show St _ _ (mO s.rep E (env t) _::(A++_)) _ _;rw[hv];exact h3
   ·cases h
  ·next hg=>
   refine⟨_,[],h,nr (fun j e=>by cases e),fun _ _ _ _ _ _=>by simp only[hg,Xo];exact rfl,fun P vs fr env A Γ w os' hl hn ha=> ?_⟩;obtain⟨S,_,hΓ⟩:=ha.ex;have hv:env t=.slice none 0 0:=hl S w hΓ 0 _ hg;simp only[hg,Xo];show St _ _ (mO s.rep E (env t) _::(A++_)) _ _;rw[hv];exact ha.nilO
  ·cases h
 |var s E=>
  simp only[bZ]at h;split at h
  ·next o s0 hg=>
   split at h
   ·next s' E' z ho=>
    obtain⟨hE,h1⟩:=yh h;have hE:=z8 hE;subst hE;obtain⟨e,h2⟩:=yi h1;subst e;refine⟨_,[o],h2,nr (fun j e=>by cases e),fun P vs env S w hl=> ?_,fun P vs fr env A Γ w os' hl hn ha=> ?_⟩
    ·obtain⟨h3,b,h4⟩:=hl t 0 _ hg;simp only[hg,Xo];exact⟨rfl,b,h3.trans h4⟩
    ·have hp:=kT (vs:=vs) (fr:=fr) (cx:=cx)<|(jW<|hn o<|FS).trans ho;have h3:=St.mid<|St.perm ha<|xcf _ hp;obtain⟨S,_,hΓ⟩:=ha.ex;have hv:env t=vs o:=(hl S w hΓ 0 _ hg).1;simp only[hg,Xo];show St _ _ (mP s'.rep.c E (env t) _::(A++_)) _ _;rw[hv];exact h3
   ·cases h
  ·cases h
 |mat s E E1=>
  simp only[bZ]at h;split at h
  ·next o hg=>
   split at h
   ·next s' E' F' xss ix ho=>
    obtain⟨hE,h1⟩:=yh h;rw[xao]at hE;have hc:=z8 hE.1;have hd:=z8 hE.2;subst hc;subst hd;obtain⟨e,h2⟩:=yi h1;cases e;refine⟨_,[o],h2,nr (fun j e=>by cases e),fun P vs env S w hl=> ?_,fun P vs fr env A Γ w os' hl hn ha=> ?_⟩
    ·simp only[hg,Xo];exact hl t 0 _ hg
    ·have hp:=kT (vs:=vs) (fr:=fr) (cx:=cx)<|(jW<|hn o<|FS).trans ho;simp only[hg,Xo];have h3:=St.mid<|St.perm ha<|xcf _ hp;exact h3
   ·cases h
  ·next hg=>
   refine⟨_,[],h,nr (fun j e=>by cases e),fun P vs env S w hl=>by simp only[hg,Xo];exact rfl,fun P vs fr env A Γ w os' hl hn ha=> ?_⟩;obtain⟨S,_,hΓ⟩:=ha.ex;have hv:env t=.slice none 0 0:=hl S w hΓ 0 _ hg;simp only[hg,Xo];refine GI (u:=KP (env t) []) rfl ?_;show St _ _ (mO (Zk []) E (env t) []::(A++_)) _ _;rw[hv];exact ha.nilO
  ·cases h
 |matv s E E1=>
  simp only[bZ]at h;split at h
  ·next o lo n hg=>
   split at h
   ·next s' E' F' xss ix ho=>
    obtain⟨hE,h1⟩:=yh h;rw[xao]at hE;have hc:=z8 hE.1;have hd:=z8 hE.2;subst hc;subst hd;obtain⟨e,h2⟩:=yi h1;cases e;refine⟨_,[o],h2,nr (fun j e=>by cases e),fun P vs env S w hl=> ?_,fun P vs fr env A Γ w os' hl hn ha=> ?_⟩
    ·simp only[hg,Xo];exact hl t 0 _ hg
    ·have hp:=kT (vs:=vs) (fr:=fr) (cx:=cx)<|(jW<|hn o<|FS).trans ho;simp only[hg,Xo];have h3:=St.mid<|St.perm ha<|xcf _ hp;exact h3
   ·cases h
  ·cases h
 |row j=>
  simp only[bZ]at h
  have fin:∀(o o' p:Nat),j<ds.length->get cx σ t 0=some (.rw o p)->xap o o'=true->k p []=some r->(∀vs env,Q1 cx σ ds vs env j=vs o')->∃(x:Nat) (os:List Nat),k x os=some r/\(∀i,s9 (TF.row j)=some i->i<ds.length)/\
   (∀(P:Program) vs env S w,(∀t,Lk P vs env S w cx σ t)->(tfF (.row j) x (Q1 cx σ ds vs env) (Xo (.row j) (get cx σ t 0) vs<|env t)<|env t).p S w)/\
   (∀(P:Program) vs (fr:Fr) env (A:List MF) (Γ:List FF) w (os':List Nat),(∀S w,zA S Γ w->Lk P vs env S w cx σ t)->(∀o∈os,b5 os' o=false)->St fr.we fr.Se (A++OS vs fr cx (w8 σ.ob os')) Γ w->
    St fr.we fr.Se (Lo (.row j) x (Xo (.row j) (get cx σ t 0) vs<|env t)++(A++OS vs fr cx (w8 σ.ob<|os++os'))) Γ w):=by
   intro o o' p he hg h2 h3 h4;refine⟨p,[],h3,fun i e=>by cases e;exact he,fun P vs env S w hl=> ?_,fun P vs fr env A Γ w os' _ _ h=>h⟩;have h5:(ve<|vs o)[p]? =some (env t):=hl t 0 _ hg;rw[z8 h2]at h5;show zdJ (Q1 cx σ ds vs env j) p=some (env t);rw[h4];exact h5
  split at h
  ·next o p s _ _ _ hg hj=>
   split at h
   ·next o' hs=>
    obtain⟨hb,h⟩:=yh h;exact fin o o' p (xat.1 hj).1 hg hb h fun vs env=>by unfold Q1;rw[hj];simp only[hs,Xo]
   ·cases h
  ·next o p s _ _ _ hg hj=>
   split at h
   ·next o' lo n hs=>
    obtain⟨hb,h⟩:=yh h;exact fin o o' p (xat.1 hj).1 hg hb h fun vs env=>by unfold Q1;rw[hj];simp only[hs,Xo]
   ·cases h
  ·cases h
 |view j=>
  simp only[bZ]at h
  have fin:∀(o o' p q:Nat),j<ds.length->get cx σ t 0=some (.mv o p q)->xap o o'=true->k (p,q) []=some r->(∀vs env,Q1 cx σ ds vs env j=vs o')->∃(x:Nat×Nat) (os:List Nat),k x os=some r/\(∀i,s9 (TF.view j)=some i->i<ds.length)/\
   (∀(P:Program) vs env S w,(∀t,Lk P vs env S w cx σ t)->(tfF (.view j) x (Q1 cx σ ds vs env) (Xo (.view j) (get cx σ t 0) vs<|env t)<|env t).p S w)/\
   (∀(P:Program) vs (fr:Fr) env (A:List MF) (Γ:List FF) w (os':List Nat),(∀S w,zA S Γ w->Lk P vs env S w cx σ t)->(∀o∈os,b5 os' o=false)->St fr.we fr.Se (A++OS vs fr cx (w8 σ.ob os')) Γ w->
    St fr.we fr.Se (Lo (.view j) x (Xo (.view j) (get cx σ t 0) vs<|env t)++(A++OS vs fr cx (w8 σ.ob<|os++os'))) Γ w):=by
   intro o o' p q he hg h2 h3 h4;refine⟨(p,q),[],h3,fun i e=>by cases e;exact he,fun P vs env S w hl=> ?_,fun P vs fr env A Γ w os' _ _ h=>h⟩;have h5:Fw (yY<|vs o) p q (env t):=hl t 0 _ hg;rw[z8 h2]at h5;show Fw (yY<|Q1 cx σ ds vs env j) p q (env t);rw[h4];exact h5
  split at h
  ·next o p q s _ _ _ hg hj=>
   split at h
   ·next o' hs=>
    obtain⟨hb,h⟩:=yh h;exact fin o o' p q (xat.1 hj).1 hg hb h fun vs env=>by unfold Q1;rw[hj];simp only[hs,Xo]
   ·cases h
  ·next o p q s _ _ _ hg hj=>
   split at h
   ·next o' lo n hs=>
    obtain⟨hb,h⟩:=yh h;exact fin o o' p q (xat.1 hj).1 hg hb h fun vs env=>by unfold Q1;rw[hj];simp only[hs,Xo]
   ·cases h
  ·cases h
 |bo s E E0=>
  simp only[bZ]at h;split at h
  ·next o hg=>
   split at h
   ·next s' E' F' xs ho=>
    obtain⟨hE,h1⟩:=yh h;rw[xao]at hE;have hc:=z8 hE.1;have hd:=z8 hE.2;subst hc;subst hd;obtain⟨e,h2⟩:=yi h1;cases e;refine⟨_,[o],h2,nr (fun j e=>by cases e),fun P vs env S w hl=> ?_,fun P vs fr env A Γ w os' hl hn ha=> ?_⟩
    ·simp only[hg,Xo];exact hl t 0 _ hg
    ·have hp:=kT (vs:=vs) (fr:=fr) (cx:=cx)<|(jW<|hn o<|FS).trans ho;simp only[hg,Xo];have h3:=St.mid<|St.perm ha<|xcf _ hp;exact h3
   ·cases h
  ·cases h
theorem oe{ds:List (Nat×TF)}{i:Nat}{t:Nat}{f:TF}{env:yN}(h:ds[i]? =some (t,f)):Q1 cx σ ds vs env i=Xo f (get cx σ t 0) vs (env t):=by unfold Q1;rw[h]
theorem zga{ds:List (Nat×TF)}:∀{l:List (Nat×TF)}{i:Nat}{k:WV l->List Nat->Option R},(∀j a,l[j]? =some a->ds[i+j]? =some a)->gat cx σ ds l k=some r->∃x os,k x os=some r/\(∀a∈l,∀j,s9 a.2=some j->j<ds.length)/\
 (∀(P:Program) vs env S w,(∀t,Lk P vs env S w cx σ t)->zA S (dsF (Q1 cx σ ds vs env) env l x i) w)/\
 (∀(P:Program) vs (fr:Fr) env (Γ:List FF) w,(∀S w,zA S Γ w->∀t,Lk P vs env S w cx σ t)->St fr.we fr.Se (OS vs fr cx σ.ob) Γ w->St fr.we fr.Se (XE (Q1 cx σ ds vs env) l x i++OS vs fr cx (w8 σ.ob os)) Γ w)
 |[],i,k,_,h=>⟨(),[],h,fun _ h=>absurd h IR,fun _ _ _ _ _ _=>trivial,fun _ _ _ _ _ _ _ h=>h⟩
 |[a],i,k,hd,h=>by
  obtain⟨x,os,h1,h0,h2,h3⟩:=MC (h:bZ cx σ ds a.1 a.2 k=some r);have ha:ds[i]? =some (a.1,a.2):=hd 0 a rfl;refine⟨x,os,h1,fun b hb j e=> ?_,fun P vs env S w hl=>⟨?_,trivial⟩,fun P vs fr env Γ w hl he=> ?_⟩
  ·obtain rfl:=xai.1 hb;exact h0 j e
  ·rw[oe ha];exact h2 P vs env S w hl
  ·have:=h3 P vs fr env [] Γ w [] (fun S w hΓ=>hl S w hΓ a.1) (fun _ _=>rfl) he;rw[xbR]at this;show St _ _ (Lo a.2 x (Q1 cx σ ds vs env i)++_) _ _;rw[oe ha];exact this
 |a::b::l,i,k,hd,h=>by
  obtain⟨x,o,h1,h0,h2,h3⟩:=MC (h:bZ cx σ ds a.1 a.2 _=some r);obtain⟨y,os,h4,hf,h5,h6⟩:=zga (l:=b::l) (i:=i+1) (fun j c hj=>by
   have:=hd (j+1) c (by simpa using hj);rw[show i+1+j=i+(j+1)by lia];exact this) h1
  obtain⟨hn,h4⟩:=yh h4;have ha:ds[i]? =some (a.1,a.2):=hd 0 a rfl;refine⟨(x,y),o++os,h4,fun c hc j e=> ?_,fun P vs env S w hl=>⟨?_,h5 P vs env S w hl⟩,fun P vs fr env Γ w hl he=> ?_⟩
  ·rcases xac.1 hc with rfl|hc
   ·exact h0 j e
   ·exact hf c hc j e
  ·rw[oe ha];exact h2 P vs env S w hl
  ·have:=h3 P vs fr env (XE (Q1 cx σ ds vs env) (b::l) y<|i+1) Γ w os (fun S w hΓ=>hl S w hΓ a.1) (DJ hn)<|h6 P vs fr env Γ w hl he;show St _ _ ((Lo a.2 x (Q1 cx σ ds vs env i)++XE (Q1 cx σ ds vs env) (b::l) y (i+1))++_) _ _;rw[oe ha,xaj];exact this
def nvs(vs:Nat->Value)(U:Nat->Value)(n:Nat):Nat->Value:=fun k=>if k<n then vs k else U (k-n)
theorem MI{n0:Nat}:∀{l:List (Nat×TF)}{x:WV l}{o:Nat},∀e∈(bg n0 l x o).2,o<=e.1/\e.1<o+l.length
 |[],_,_,e,he=>absurd he IR
 |[(t,f)],x,o,e,he=>by
  cases f<;>simp only[bg,mx]at he<;>first|exact absurd he IR|(obtain rfl:=xai.1 he;exact⟨xab _,xbY _⟩)
 |(t,f)::b::l,x,o,e,he=>by
  have ih:∀e∈(bg n0 (b::l) x.2<|o+1).2,o<=e.1/\e.1<o+((t,f)::b::l).length:=fun e he=>by
   have:=MI e he;simp only[xaq]at this⊢;lia
  cases f<;>simp only[bg,mx]at he<;>first
   |exact ih e he
   |exact(xac.1 he).elim (fun he=>by subst he;exact⟨xab _,by simp only[xaq];lia⟩)<|fun he=>ih e he
theorem GP{n0 o p n:Nat}{f:TF}{x:f.D}(hn:∀j,s9 f=some j->j<n)(h:wj (mx n0 o f x).1=some p):p=o\/p<n0+n:=by
 cases f<;>simp only[mx,wj,xaz,reduceCtorEq]at h
 ·exact .inl h.symm
 ·exact .inl h.symm
 ·exact .inl h.symm
 ·exact .inl h.symm
 ·next j=>have:=hn j rfl;exact .inr<|by lia
 ·next j=>have:=hn j rfl;exact .inr<|by lia
 ·exact .inl h.symm
theorem EJ{n0 n:Nat}:∀{l:List (Nat×TF)}{x:WV l}{o:Nat},(∀a∈l,∀j,s9 a.2=some j->j<n)->∀e∈(bg n0 l x o).1,∀p,wj e.2.2=some p->p<o+l.length\/p<n0+n
 |[],_,_,_,e,he=>absurd he IR
 |[(t,f)],x,o,hn,e,he=>by
  intro p hp;obtain rfl:=xai.1 (show e∈[(t,0,(mx n0 o f x).1)]from he);rcases GP (hn _<|FS) hp with rfl|h
  ·exact .inl<|xbY _
  ·exact .inr h
 |(t,f)::b::l,x,o,hn,e,he=>by
  intro p hp;have he:e=(t,0,(mx n0 o f x.1).1)\/e∈(bg n0 (b::l) x.2<|o+1).1:=xac.1 he;rcases he with rfl|he
  ·rcases GP (hn _<|FS) hp with rfl|h
   ·exact .inl<|by simp only[xaq];lia
   ·exact .inr h
  ·rcases EJ (fun a ha=>hn a<|UV _ ha) e he p hp with h|h
   ·simp only[xaq]at h⊢;exact .inl<|by lia
   ·exact .inr h
theorem DK{U:Nat->Value}{n0:Nat}:∀{l:List (Nat×TF)}{x:WV l}{o i:Nat},(∀j,j<l.length->vs (o+j)=U (i+j))->MS vs (bg n0 l x o).2=XE U l x i
 |[],_,_,_,_=>rfl
 |[(t,f)],x,o,i,h=>by
  have h0:vs o=U i:=h 0 (by simp);cases f<;>simp only[bg,mx,MS,xbX,xex,Qz,XE,Lo,h0]
 |(t,f)::b::l,x,o,i,h=>by
  have h0:vs o=U i:=h 0 (by simp);have ih:MS vs (bg n0 (b::l) x.2<|o+1).2=XE U (b::l) x.2 (i+1):=DK fun j hj=>by
   have:=h (j+1) (by simpa using hj);rw[show o+1+j=o+(j+1)by lia,show i+1+j=i+(j+1)by lia];exact this
  unfold MS at ih;cases f<;>simp only[bg,mx,MS,xbX,Qz,XE,Lo,h0,ih,xbA,xfy]
theorem BC{U:Nat->Value}{n0 n:Nat}{f:TF}{x:f.D}{o t:Nat}{u:Value}{S:Nat->Prop}(hv:vs o=u)(hn:∀j,s9 f=some j->j<n)(hU:∀j,j<n->vs (n0+j)=U j)(h:(tfF f x U u<|env t).p S w):(xK P vs (mx n0 o f x).1 (env t) 0).p S w:=by
 subst hv;cases f
 ·exact h
 ·exact h
 ·exact h
 ·obtain⟨h1,b,h2⟩:=h;exact⟨h1,b,h1.symm.trans h2⟩
 ·exact h
 ·exact h
 ·next j=>
  have h:zdJ (U j) x=some (env t):=h;show zdJ (vs<|n0+j) x=some (env t);rw[hU j<|hn j rfl];exact h
 ·next j=>
  have h:Fw (yY<|U j) x.1 x.2 (env t):=h;show Fw (yY<|vs<|n0+j) x.1 x.2 (env t);rw[hU j<|hn j rfl];exact h
 ·exact h
theorem Mi{U:Nat->Value}{n0 n:Nat}(hU:∀j,j<n->vs (n0+j)=U j):∀{l:List (Nat×TF)}{x:WV l}{o i:Nat}{S:Nat->Prop},(∀a∈l,∀j,s9 a.2=some j->j<n)->(∀j,j<l.length->vs (o+j)=U (i+j))->zA S (dsF U env l x i) w->zA S (RS P vs env (bg n0 l x o).1) w
 |[],_,_,_,_,_,_,_=>trivial
 |[(t,f)],x,o,i,S,hn,h,hf=>⟨BC (h 0<|by simp) (hn _<|FS) hU hf.1,trivial⟩
 |(t,f)::b::l,x,o,i,S,hn,h,hf=>⟨BC (h 0<|by simp) (hn _<|FS) hU hf.1,Mi hU (fun a ha=>hn a<|UV _ ha) (fun j hj=>by
  have:=h (j+1) (by simpa using hj);rw[show o+1+j=o+(j+1)by lia,show i+1+j=i+(j+1)by lia];exact this) hf.2⟩
theorem zaB:∀{ns:List (Nat×NF)},zeQ cx σ ns=true->∀t f,(t,f)∈ns->(match f,get cx σ t 0 with
 |.kb b,some (.kb c)=>b==c
 |.nil,some .nil=>true
 |.ci x,some (.d .i y)=>eqI x y
 |.cu x,some (.d .u y)=>eqU x y
 |.al s,some (.ow o)=>(match get cx σ s 0 with
  |some (.ow o')=>xap o o'
  |_=>false)
 |.al s,some (.vs o _)=>(match get cx σ s 0 with
  |some (.vs o' _)=>xap o o'
  |_=>false)
 |.al s,some (.mw o)=>(match get cx σ s 0 with
  |some (.mw o')=>xap o o'
  |_=>false)
 |_,_=>false)=true
 |(t',f')::r,h,t,f,hm=>by
  unfold zeQ at h;rw[xao]at h;rcases xac.1 hm with ha|hm
  ·cases ha;exact h.1
  ·exact zaB h.2 t f hm
theorem Ou{rg:List (Nat×Nat×Dv)}{S:Nat->Prop}(hr:zA S (RS P vs env rg) w):∀{ns:List (Nat×NF)},(∀t f,(t,f)∈ns->match f with
 |.kb b=>env t=.bool b
 |.nil=>env t=.slice none 0 0
 |.ci x=>(fV eI x<|env t).p S w
 |.cu x=>(fV eU x<|env t).p S w
 |.al s=>env t=env s)->zA S (RS P vs env (C8 rg ns)) w
 |[],_=>hr
 |(t,f)::r,h=>by
  have ih:=Ou hr (ns:=r) fun t f hm=>h t f<|UV _ hm;have h0:=h t f<|FS;unfold C8;show zA S (RS P vs env<|_++_) w;rw[show RS P vs env (_++C8 rg r)=RS P vs env _++RS P vs env (C8 rg r)from xbg];refine zA.append ?_ ih;cases f
  ·exact⟨h0,trivial⟩
  ·exact⟨h0,trivial⟩
  ·exact⟨h0,trivial⟩
  ·exact⟨h0,trivial⟩
  ·next s=>
   simp only;split
   ·next v hv=>
    have:=JK hr<|n8 hv;have h0:env t=env s:=h0;refine⟨?_,trivial⟩;show(xK P vs v (env t) 0).p S w;rw[h0];exact this
   ·trivial
theorem HF{rg:List (Nat×Nat×Dv)}{n:Nat}(hr:∀e∈rg,∀p,wj e.2.2=some p->p<n):∀{ns:List (Nat×NF)},∀e∈C8 rg ns,∀p,wj e.2.2=some p->p<n
 |[],e,he=>hr e he
 |(t,f)::r,e,he=>by
  intro p hp;unfold C8 at he;rcases Nm.1 he with he|he
  ·cases f
   ·obtain rfl:=xai.1 he;cases hp
   ·obtain rfl:=xai.1 he;cases hp
   ·obtain rfl:=xai.1 he;cases hp
   ·obtain rfl:=xai.1 he;cases hp
   ·simp only at he;split at he
    ·next v hv=>
     obtain rfl:=xai.1 he;exact hr _ (n8 hv) p hp
    ·exact absurd he IR
  ·exact HF hr e he p hp
theorem uh:∀(l:List (Nat×TF)) {σ:Sg},Zi P fr cx σ env w->Zi P fr cx (zby cx σ l) env w
 |[],_,h=>h
 |(t,.d _)::r,_,h=>uh r<|C4 _ h
 |(t,.q _)::r,_,h=>uh r h
 |(t,.own _ _)::r,_,h=>uh r h
 |(t,.var _ _)::r,_,h=>uh r h
 |(t,.mat _ _ _)::r,_,h=>uh r h
 |(t,.matv _ _ _)::r,_,h=>uh r h
 |(t,.row _)::r,_,h=>uh r h
 |(t,.view _)::r,_,h=>uh r h
 |(t,.bo _ _ _)::r,_,h=>uh r h
theorem St.dropM{we:World}{Se:Nat->Prop}{Γ:List FF}{w:World}:∀{A B C:List MF},St we Se (A++(B++C)) Γ w->St we Se (A++C) Γ w
 |A,[],C,h=>h
 |A,b::B,C,h=>St.dropM (B:=B)<|St.drop (i:=0)<|St.mid h
end
end
section
section
variable{P:Program}{cf:Cf}{fr:Fr}{cx kp σ:Sg}{vs vs':Nat->Value}{env env0:yN}{w:World}{R:Type}{r:R}{N:Nd}{Q:Qs}
theorem Uh{a b:List (Nat×Nat×Dv)}:RS P vs env (a++b)=RS P vs env a++RS P vs env b:=xbg
theorem lX{sh:Sh}{k:WV sh.ds->Option R}(h:iV (jz cx kp) sh σ k=some r)(hK:Bd cx kp):∃x,k x=some r/\∀(fr:Fr) env w,Zi P fr (jz cx kp) σ env w->Zi P fr cx (Qv sh x kp) env w:=by
 unfold iV at h;simp only at h;obtain⟨hr,h⟩:=yh h;obtain⟨x,os,h1,h0,h2,h3⟩:=zga (ds:=sh.ds) (i:=0) (fun j a hj=>by rw[xaN];exact hj) h;refine⟨x,h1,fun fr env w hR=> ?_⟩;have hs:=uh sh.ds hR;generalize zby (jz cx kp) σ sh.ds=σ1 at*
 obtain⟨hB,vs,ht⟩:=hs;have hf:=h3 P vs fr env (GS P vs env fr (jz cx kp) σ1) w (fun S w hΓ=>Yh hΓ) ht;have hi:=St.dropM hf;generalize hu:Q1 (jz cx kp) σ1 sh.ds vs env=U at*
 have hc:∀o,o<kp.nx->nvs vs U kp.nx o=vs o:=fun o ho=>iq ho;have hd:∀j,j<sh.ds.length->nvs vs U kp.nx (kp.nx+j)=U (0+j):=fun j hj=>by
  unfold nvs;rw[zy,show kp.nx+j-kp.nx=j by lia,xaN]
 have hv:=fun e he=>MI (n0:=kp.nx) (l:=sh.ds) (x:=x) (o:=kp.nx) e he;have hk:∀e∈(bg kp.nx sh.ds x kp.nx).1,∀p,wj e.2.2=some p->p<kp.nx+sh.ds.length:=fun e he p hp=>by
  rcases EJ (n0:=kp.nx) (n:=sh.ds.length) (l:=sh.ds) (x:=x) (o:=kp.nx) h0 e he p hp with h|h<;>exact h
 refine⟨⟨fun e he=> ?_,fun e he=> ?_,fun e he p hp=> ?_,fun e he p hp=> ?_⟩,nvs vs U kp.nx,?_⟩
 ·rcases Nm.1 he with he|he
  ·exact(hv e he).2
  ·exact xan (hK.o1 e he)<|xbP _ _
 ·exact xan (hK.o2 e he)<|xbP _ _
 ·rcases Nm.1 he with he|he
  ·rcases Nm.1 he with he|he
   ·exact HF (fun e he p hp=>hk e he p hp) e he p hp
   ·exact hk e he p hp
  ·exact xan (hK.r1 e he p hp)<|xbP _ _
 ·exact xan (hK.r2 e he p hp)<|xbP _ _
 ·have e1:OS (nvs vs U kp.nx) fr cx ((bg kp.nx sh.ds x kp.nx).2++kp.ob)=XE U sh.ds x 0++(MS vs (kp.ob++cx.ob)++fr.F):=by
   show MS _ (_++kp.ob)++(MS _ cx.ob++_)=_
   rw[show MS (nvs vs U kp.nx) ((bg kp.nx sh.ds x kp.nx).2++kp.ob)=MS _ _++MS _ _ from xbg,DK hd,wa fun e he=>hc _<|hK.o1 e he,wa (ob:=cx.ob) fun e he=>hc _<|hK.o2 e he,
    show MS vs (kp.ob++cx.ob)=MS _ _++MS _ _ from xbg,xaj,xaj]
  show St _ _ (OS (nvs vs U kp.nx) fr cx<|(bg kp.nx sh.ds x kp.nx).2++kp.ob) _ _;rw[e1];refine hi.weak fun S w hΓ=> ?_;have hl:∀t,Lk P vs env S w (jz cx kp) σ1 t:=Yh hΓ;have hy:zA S (RS P (nvs vs U kp.nx) env (bg kp.nx sh.ds x kp.nx).1) w:=Mi (U:=U) (n:=sh.ds.length) (fun j hj=>by rw[hd j hj,xaN]) h0 hd (by rw[<-hu];exact h2 P vs env S w hl);have hq:zA S (RS P vs env kp.rg++RS P vs env cx.rg) w:=by
   have:=zA.left<|zA.right hΓ;rwa[show RS P vs env (jz cx kp).rg=RS P vs env kp.rg++RS P vs env cx.rg from xbg]at this
  have hn:=Ou hy (ns:=sh.ns) fun t f hm=>by
   have hg:=zaB hr t f hm;cases f
   ·split at hg<;>simp_all
    next b c h3=>exact hl t 0 _ h3
   ·split at hg<;>simp_all
    next h3=>exact hl t 0 _ h3
   ·split at hg<;>simp_all
    next a b h3=>
    have:=hl t 0 _ h3;simp only[eqI,decide_eq_true_eq]at hg;rw[hg];exact this
   ·split at hg<;>simp_all
    next a b h3=>
    have:=hl t 0 _ h3;simp only[eqU,decide_eq_true_eq]at hg;rw[hg];exact this
   ·next s=>
    cases hb:get (jz cx kp) σ1 t 0 with
    |none=>rw[hb]at hg;cases hg
    |some v=>
     rw[hb]at hg;cases v<;>simp only[xak]at hg
     ·next o=>
      cases ha:get (jz cx kp) σ1 s 0 with
      |none=>rw[ha]at hg;cases hg
      |some v'=>
       rw[ha]at hg;cases v'<;>simp only[xak]at hg;have a1:env t=vs o:=hl t 0 _ hb;have a2:=hl s 0 _ ha;have:=z8 hg;subst this;exact a1.trans (show env s=_ from a2).symm
     ·next o _=>
      cases ha:get (jz cx kp) σ1 s 0 with
      |none=>rw[ha]at hg;cases hg
      |some v'=>
       rw[ha]at hg;cases v'<;>simp only[xak]at hg;have a1:env t=vs o:=(hl t 0 _ hb).1;have a2:=(hl s 0 _ ha).1;have:=z8 hg;subst this;exact a1.trans a2.symm
     ·next o=>
      cases ha:get (jz cx kp) σ1 s 0 with
      |none=>rw[ha]at hg;cases hg
      |some v'=>
       rw[ha]at hg;cases v'<;>simp only[xak]at hg;have a1:env t=yY (vs o):=hl t 0 _ hb;have a2:=hl s 0 _ ha;have:=z8 hg;subst this;exact a1.trans (show env s=_ from a2).symm
  show zA S (RS P _ env ((C8 (bg kp.nx sh.ds x kp.nx).1 sh.ns++(bg kp.nx sh.ds x kp.nx).1)++kp.rg)++(RS P _ env cx.rg++fr.G)) w;refine zA.append ?_<|zA.append ?_<|zA.right<|zA.right hΓ
  ·rw[Uh,Uh];refine zA.append (zA.append hn hy) ?_;rw[qI (fun e he p hp=>hc _<|hK.r1 e he p hp)<|fun _ _=>rfl];exact zA.left hq
  ·rw[qI (fun e he p hp=>hc _<|hK.r2 e he p hp)<|fun _ _=>rfl];exact zA.right hq
theorem PO{a t:Tg}(h:RF a t=true):a=t:=by
 cases a<;>cases t<;>first|rfl|cases h|skip
 rw[z8 (show xap _ _=true from h)]
theorem Oj{t:Tg}(hK:Bd cx kp):∀{l:List (Tg×Sh)}{k:SmD l->Option R},zc2 (jz cx kp) σ t l k=some r->∃(y:SmD l) (σt:Sg),k y=some r/\(∀{R':Type} (K:Tg->Sg->Option R'),FC kp K l y=K t σt)/\∀(fr:Fr) env w,Zi P fr (jz cx kp) σ env w->Zi P fr cx σt env w
 |[],k,h=>by cases h
 |[a],k,h=>by
  obtain⟨ht,h⟩:=yh h;obtain⟨x,h1,h2⟩:=lX (P:=P) h hK;have:=PO ht;subst this;exact⟨x,_,h1,fun K=>rfl,h2⟩
 |a::b::l,k,h=>by
  unfold zc2 at h;cases ht:RF a.1 t<;>rw[ht]at h
  ·obtain⟨y,σt,h1,h2,h3⟩:=Oj hK (l:=b::l) h;exact⟨.inr y,σt,h1,fun K=>h2 K,h3⟩
  ·obtain⟨x,h1,h2⟩:=lX (P:=P) h hK;have:=PO ht;subst this;exact⟨.inl x,_,h1,fun K=>rfl,h2⟩
abbrev Qd:=Exit->List Nat->yN->World->Prop
def wK(D:Nat):MF where
 blk k:=k=D
 p _ w:=w.heap[D]? =some (.deferred<|some [])
 keep h _ hb:=(hb D rfl).trans h
 sub h _:=h
 lt h k hk:=by subst hk;exact(xbj.1 h).1
def mkD(D:Nat):Deferred:={target:=.collected D,args:= #[]}
def Nd.wd(N:Nd)(Ds:List Nat):Nd:=⟨N.n,Ds.map mkD,N.rd⟩
def Fr.wd(fr:Fr)(Ds:List Nat):Fr:=⟨fr.we,fr.Se,Ds.map wK++fr.F,fr.G⟩
def zfz(N:Nd)(Q:Qd):Exit->Act->World->Prop:=fun e a w=>a.tmps.size=N.n/\∃Ds:List Nat,a.defers=Ds.map mkD/\Q e Ds (yr a) w
def DA(P:Program)(N:Nd)(c:Code)(Q:Qd)(Ds:List Nat)(env:yN)(w:World):Prop:=
 ∀a:Act,a.tmps.size=N.n->a.defers=Ds.map mkD->yr a=env->c.wpIn N.F 0 P (zfz N Q) a w
section
variable{N:Nd}{Q Q':Qd}{Ds:List Nat}
theorem zgr{c:Code}(h:Wp P (N.wd Ds) c (fun e env w=>Q e Ds env w) env w):DA P N c Q Ds env w:=fun a h1 h2 h3=>wpIn_mono (h a h1 h2 h3) fun e a' w' ⟨q1,q2,q3⟩=>⟨q1,Ds,q2,q3⟩
def zfM(K:List Nat->yN->World->Prop)(Q:Qd):Qd
 |.normal,Ds,env,w=>K Ds env w
 |e,Ds,env,w=>Q e Ds env w
def En(id:Nat)(Q:Qd):Qd
 |.exit id',Ds,env,w=>bif xap id' id then Q .normal Ds env w else Q (.exit id') Ds env w
 |e,Ds,env,w=>Q e Ds env w
def ziV(Q:Qd):Qd
 |.goto _,_,_,_=>False
 |e,Ds,env,w=>Q e Ds env w
theorem oc{x y:Code}(h:DA P N x (zfM (DA P N y Q) Q) Ds env w):DA P N (.seq x y) Q Ds env w:=by
 intro a h1 h2 h3;refine wpIn_seq<|wpIn_mono (h a h1 h2 h3) ?_;intro e a' w' ⟨q1,Ds',q2,q3⟩;cases e<;>first|exact q3 a' q1 q2 rfl|exact⟨q1,Ds',q2,q3⟩
theorem zaP{c:Code}(h:DA P N c Q Ds env w)(hq:∀e Ds env w,Q e Ds env w->Q' e Ds env w):DA P N c Q' Ds env w:=
 fun a h1 h2 h3=>wpIn_mono (h a h1 h2 h3) fun e a' w' ⟨q1,Ds',q2,q3⟩=>⟨q1,Ds',q2,hq e _ _ _ q3⟩
theorem Bu{id:Nat}{c:Code}(h:DA P N c (En id Q) Ds env w):DA P N (.block id c) Q Ds env w:=by
 intro a h1 h2 h3;refine wpIn_block<|wpIn_mono (h a h1 h2 h3) ?_;intro e a' w' ⟨q1,Ds',q2,q3⟩
 cases e with
 |exit i=>
  simp only[En]at q3;simp only[Exit.inBlock];cases hb:xap i id
  ·rw[hb]at q3;rw[ir<|fun e=>by subst e;simp at hb];exact⟨q1,Ds',q2,q3⟩
  ·rw[hb]at q3;rw[iq<|xcL hb];exact⟨q1,Ds',q2,q3⟩
 |_=>exact⟨q1,Ds',q2,q3⟩
theorem RN{c:Code}(h:DA P N c (ziV Q) Ds env w):DA P N (.scope c) Q Ds env w:=by
 intro a h1 h2 h3;refine NB<|wpIn_mono (h a h1 h2 h3) ?_;intro e a' w' ⟨q1,Ds',q2,q3⟩;cases e<;>first|exact⟨q1,Ds',q2,q3⟩|exact q3.elim
theorem HX{c:Code}{G:Type}(I:G->List Nat->yN->World->Prop)(μ:G->Nat)(g₀:G)(h₀:I g₀ Ds env w)(round:∀g Ds env w,I g Ds env w->DA P N c (zfM (fun Ds' env' w'=>∃g',I g' Ds' env' w'/\μ g'<μ g) Q) Ds env w):DA P N (.loop c) Q Ds env w:=by
 intro a h1 h2 h3;refine Ly (fun g a w=>a.tmps.size=N.n/\∃Ds:List Nat,a.defers=Ds.map mkD/\I g Ds (yr a) w) μ g₀ ⟨h1,Ds,h2,h3▸h₀⟩ ?_;intro g a w ⟨h1,Ds,h2,hI⟩;refine wpIn_mono (round g Ds (yr a) w hI a h1 h2 rfl) ?_;intro e a' w' ⟨q1,Ds',q2,q3⟩
 cases e with
 |normal=>obtain⟨g',o1,o2⟩:=q3;exact⟨g',⟨q1,Ds',q2,o1⟩,o2⟩
 |_=>exact⟨q1,Ds',q2,q3⟩
theorem rQ{c:Operand}{x y:Code}(hc:ev env c=.bool true)(h:DA P N x Q Ds env w):DA P N (.cond c x y) Q Ds env w:=
 fun a h1 h2 h3=>wpIn_cond_true (by rw[aE,h3];exact hc)<|h a h1 h2 h3
theorem rb{c:Operand}{x y:Code}(hc:ev env c=.bool false)(h:DA P N y Q Ds env w):DA P N (.cond c x y) Q Ds env w:=
 fun a h1 h2 h3=>wpIn_cond_false (by rw[aE,h3];exact hc)<|h a h1 h2 h3
end
theorem Bp{α:Type _}(p:α->Bool):∀l:List α,l.Perm ((l.filter fun a=> !p a)++l.filter p)
 |[]=>xdE _
 |a::l=>by
  have ih:=Bp p l;rw[xdk,xdk];cases hp:p a
  ·simpa using ih.cons a
  ·simp only[xdM,xak,if_false,if_true];exact(ih.cons a).trans xct.symm
theorem tK{ag ro:List Nat}(h:Zi P fr cx σ env w):Bd cx (keep σ ag ro)/\Zi P fr (jz cx<|keep σ ag ro) (rest σ ag ro) env w:=by
 obtain⟨hB,vs,ha⟩:=h;have hb:Bd cx (keep σ ag ro):=⟨fun e he=>hB.o1 e (xcj.1 he).1,hB.o2,fun e he=>hB.r1 e (xcj.1 he).1,hB.r2⟩;refine⟨hb,⟨fun e he=>hB.o1 e (xcj.1 he).1,fun e he=> ?_,fun e he=>hB.r1 e (xcj.1 he).1,fun e he=> ?_⟩,vs,?_⟩
 ·rcases Nm.1 he with he|he
  ·exact hb.o1 e he
  ·exact hb.o2 e he
 ·rcases Nm.1 he with he|he
  ·exact hb.r1 e he
  ·exact hb.r2 e he
 ·have hp:(OS vs fr cx σ.ob).Perm (OS vs fr (jz cx<|keep σ ag ro) (rest σ ag ro).ob):=by
   show List.Perm (MS vs σ.ob++(MS vs cx.ob++fr.F)) (MS vs (rest σ ag ro).ob++(MS vs ((keep σ ag ro).ob++cx.ob)++fr.F));have e:MS vs (rest σ ag ro).ob++(MS vs ((keep σ ag ro).ob++cx.ob)++fr.F)=(MS vs (rest σ ag ro).ob++MS vs (keep σ ag ro).ob)++(MS vs cx.ob++fr.F):=by
    rw[show MS vs ((keep σ ag ro).ob++cx.ob)=MS _ _++MS _ _ from xbg];simp only[xaj]
   rw[e];refine xfl _ ?_;have:=(Bp (fun e:Nat×Od=>b5 (Bj σ ro) e.1) σ.ob).map<|Qz vs;rw[xbg]at this;exact this
  refine(St.perm ha hp).sub' ?_;intro f hf;rcases Nm.1 hf with hf|hf
  ·obtain⟨e,he,rfl⟩:=xal.1 hf;exact Nm.2 (.inl<|xal.2 ⟨e,(xcj.1 he).1,rfl⟩)
  ·rcases Nm.1 hf with hf|hf
   ·obtain⟨e,he,rfl⟩:=xal.1 hf;rcases Nm.1 he with he|he
    ·exact Nm.2 (.inl<|xal.2 ⟨e,(xcj.1 he).1,rfl⟩)
    ·exact Nm.2 (.inr<|Nm.2 (.inl<|xal.2 ⟨e,he,rfl⟩))
   ·exact Nm.2 (.inr<|Nm.2 (.inr hf))
end
end
section
def Kt(l:Nat)(r:Loop):MF where
 blk k:=k=l
 p _ w:=w.heap[l]? =some (.loop r)
 keep h _ hb:=(hb l rfl).trans h
 sub h _:=h
 lt h k hk:=by subst hk;exact(xbj.1 h).1
def mFF(Γ:List FF):MF where
 blk _:=False
 p S w:=zA S Γ w
 keep h k _:=zA.keep k h
 sub h k:=zA.sub k h
 lt _ _ hk:=hk.elim
section
variable{we:World}{Se:Nat->Prop}{ms:List MF}{Γ Δ:List FF}{w:World}
theorem St.ffIn(h:St we Se ms (Δ++Γ) w):St we Se (mFF Δ::ms) Γ w:=by
 obtain⟨h1,h2,h3,S,h4,h5,h6,h7,h8⟩:=h;refine⟨h1,h2,⟨fun k hk=>hk.elim,h3⟩,S,h4,h5,fun m hm k hk=> ?_,⟨zA.left h8,h7⟩,zA.right h8⟩;rcases xac.1 hm with rfl|hm
 ·exact hk.elim
 ·exact h6 m hm k hk
theorem St.ffOut(h:St we Se (mFF Δ::ms) Γ w):St we Se ms (Δ++Γ) w:=by
 obtain⟨h1,h2,h3,S,h4,h5,h6,h7,h8⟩:=h;exact⟨h1,h2,h3.2,S,h4,h5,fun m hm=>h6 m<|UV _ hm,h7.2,zA.append h7.1 h8⟩
theorem St.putObj{l:Nat}{m m':MF}{o:Obj}(h:St we Se (m::ms) Γ w)(hb:∀k,m.blk k↔k=l)(he:∀k,m'.blk k->k=l)(hp:∀S w',w'.heap[l]? =some o->m'.p S w'):St we Se (m'::ms) Γ (w.putObj l o):=by
 obtain⟨h1,h2,h3,S,h4,h5,h6,h7,h8⟩:=h;have hl:=h6 m (FS) l<|(hb l).2 rfl;have hf:l<w.heap.size:=yw.lt h7 m (FS) l<|(hb l).2 rfl;have hd:(w.putObj l o).heap.size=w.heap.size:=World.putObj_size;have ha:∀k,k≠l->(w.putObj l o).heap[k]? =w.heap[k]? :=fun k hk=>World.putObj_heap_other hk;have hk:yq S w (w.putObj l o):=⟨rfl,rfl,rfl,Nat.le_of_eq hd.symm,fun k _ hS=>ha k fun e=>hl.1<|e▸hS⟩;have hx:QA we (w.putObj l o):=⟨h1.os,h1.tape,h1.output,xam h1.size<|Nat.le_of_eq hd.symm,fun k hk hS=>(ha k fun e=>by lia).trans<|h1.block k hk hS⟩;refine⟨hx,h2,⟨fun k hk m2 hm2=>h3.1 k ((hb k).2<|he k hk) m2 hm2,h3.2⟩,S,h4,fun k hk=>h5 k (by rw[hd]at hk;exact hk),fun m2 hm2 k hc=> ?_,⟨hp S _<|World.putObj_heap_same hf,yw.keep hk (fun m2 hm2 k hc=>ha k fun e=> ?_) h7.2⟩,zA.keep hk h8⟩
 ·rcases xac.1 hm2 with rfl|hm2
  ·exact h6 m (FS) k<|(hb k).2<|he k hc
  ·exact h6 m2 (UV _ hm2) k hc
 ·subst e;exact h3.1 k ((hb k).2 rfl) m2 hm2 hc
theorem St.allocObj{o:Obj}{m:MF}(h:St we Se ms Γ w)(hb:∀k,m.blk k->k=w.heap.size)(hp:∀S w',w'.heap[w.heap.size]? =some o->m.p S w'):St we Se (m::ms) Γ (w.alloc o):=by
 obtain⟨h1,h2,h3,S,h4,h5,h6,h7,h8⟩:=h;have he:(w.alloc o).heap.size=w.heap.size+1:=World.size_alloc ..;have vv:∀k,k<w.heap.size->(w.alloc o).heap[k]? =w.heap[k]? :=fun k hk=>by
  show(w.heap.push o)[k]? =_;rw[Array.getElem?_push];rw[zy]
 have hd:(w.alloc o).heap[w.heap.size]? =some o:=World.alloc_heap_new w o;let S':Nat->Prop:=fun k=>S k/\k≠w.heap.size
 have hk:yq S' w (w.alloc o):=⟨rfl,rfl,rfl,by lia,fun k hk _=>vv k hk⟩;have hc:∀k,k<w.heap.size->S k->S' k:=fun k hk hS=>⟨hS,by lia⟩;refine⟨⟨h1.os,h1.tape,h1.output,by have:=h1.size;lia,fun k hk hS=>(vv k<|xan hk h1.size).trans<|h1.block k hk hS⟩,h2,⟨fun k hk m2 hm2 ha=> ?_,h3⟩,S',fun k hk=>h4 k hk.1,fun k hk=>⟨h5 k (by lia),by lia⟩,fun m2 hm2 k ha=> ?_,⟨hp _ _ hd,yw.keep hk (fun m2 hm2 k ha=>vv k<|yw.lt h7 m2 hm2 k ha)<|yw.sub hc h7⟩,zA.keep hk<|zA.sub hc h8⟩
 ·have:=yw.lt h7 m2 hm2 k ha;have:=hb k hk;lia
 ·rcases xac.1 hm2 with rfl|hm2
  ·exact⟨fun hS=>hS.2<|hb k ha,by have:=hb k ha;have:=h1.size;lia⟩
  ·exact⟨fun hS=>(h6 m2 hm2 k ha).1 hS.1,(h6 m2 hm2 k ha).2⟩
end
section
variable{P:Program}{cf:Cf}{fr:Fr}{cx kp σ:Sg}{vs vs':Nat->Value}{env env':yN}{w:World}
theorem Ed{cx σ:Sg}(h:Bd cx σ):Bd (jz cx σ) ⟨σ.nx,[],[]⟩where
 o1:=fun _ he=>absurd he IR
 o2:=fun e he=>by
  rcases Nm.1 he with he|he
  ·exact h.o1 e he
  ·exact h.o2 e he
 r1:=fun _ he=>absurd he IR
 r2:=fun e he=>by
  rcases Nm.1 he with he|he
  ·exact h.r1 e he
  ·exact h.r2 e he
def ib(f:TF)(v u:Value):Prop:=match f with
 |.own _ _=>v=u
 |.var _ _=>v=u/\∃b,v=.pointer (some ⟨b,0,none⟩)
 |.mat _ _ _=>v=yY u
 |.bo _ _ _=>v=yY u
 |_=>False
def VZ(ds:List (Nat×TF))(env:yN)(U:Nat->Value):Prop:=∀(j t:Nat) (f:TF),ds[j]? =some (t,f)->ib f (env t) (U j)
theorem Db:∀{ds:List (Nat×TF)},Kx ds=true->∀(j t:Nat) (f:TF),ds[j]? =some (t,f)->(∃s E,f=.own s E)\/(∃s E,f=.var s E)\/(∃s E F,f=.mat s E F)\/(∃s E F,f=.bo s E F)
 |[],_,j,t,f,h=>by simp at h
 |(t',f')::ds,hm,0,t,f,h=>by
  simp only[xbE,xaz,xcH]at h;obtain⟨rfl,rfl⟩:=h;cases f'<;>simp only[Kx,xak]at hm
  ·exact .inl ⟨_,_,rfl⟩
  ·exact .inr (.inl ⟨_,_,rfl⟩)
  ·exact .inr (.inr (.inl ⟨_,_,_,rfl⟩))
  ·exact .inr (.inr (.inr ⟨_,_,_,rfl⟩))
 |(t',f')::ds,hm,j+1,t,f,h=>by
  refine Db (ds:=ds) ?_ j t f (by simpa using h);cases f'<;>simp only[Kx,xak]at hm<;>exact hm
theorem HB{ds:List (Nat×TF)}(hm:Kx ds=true):∀a∈ds,∀j,s9 a.2=some j->j<ds.length:=fun a ha j e=>by
 obtain⟨i,hi⟩:=List.mem_iff_getElem?.1 ha;rcases Db hm i a.1 a.2 hi with⟨_,_,h⟩|⟨_,_,h⟩|⟨_,_,_,h⟩|⟨_,_,_,h⟩<;>rw[h]at e<;>cases e
theorem OA{U:Nat->Value}{S:Nat->Prop}:∀{ds:List (Nat×TF)}{x:WV ds}{i:Nat},(∀(j t:Nat) (f:TF),ds[j]? =some (t,f)->ib f (env t) (U<|i+j))->zA S (dsF U env ds x i) w
 |[],_,_,_=>trivial
 |[(t,f)],x,i,h=>by
  have h0:=h 0 t f rfl;refine⟨?_,trivial⟩;cases f<;>first|exact h0|exact h0.elim
 |(t,f)::b::l,x,i,h=>by
  have h0:=h 0 t f rfl;refine⟨?_,OA fun j t f hj=>by
   have:=h (j+1) t f (by simpa using hj);rw[show i+1+j=i+(j+1)by lia];exact this⟩
  cases f<;>first|exact h0|exact h0.elim
theorem zbQ{n0:Nat}:∀{ds:List (Nat×TF)}{x:WV ds}{o j t:Nat}{f:TF},ds[j]? =some (t,f)->∃y:f.D,(t,0,(mx n0 (o+j) f y).1)∈(bg n0 ds x o).1
 |[],_,_,_,_,_,h=>by simp at h
 |[(t',f')],x,o,0,t,f,h=>by
  simp only[xbE,xaz,xcH]at h;obtain⟨rfl,rfl⟩:=h;exact⟨x,FS⟩
 |[(t',f')],x,o,j+1,t,f,h=>by simp at h
 |(t',f')::b::l,x,o,0,t,f,h=>by
  simp only[xbE,xaz,xcH]at h;obtain⟨rfl,rfl⟩:=h;exact⟨x.1,FS⟩
 |(t',f')::b::l,x,o,j+1,t,f,h=>by
  obtain⟨y,hy⟩:=zbQ (n0:=n0) (ds:=b::l) (x:=x.2) (o:=o+1) (j:=j) (t:=t) (f:=f) (by simpa using h);rw[show o+1+j=o+(j+1)by lia]at hy;exact⟨y,UV _ hy⟩
theorem zbh{ds:List (Nat×TF)}{x:WV ds}{n:Nat}{S:Nat->Prop}(hm:Kx ds=true)(h:zA S (RS P vs env (bg n ds x n).1) w):VZ ds env fun j=>vs (n+j):=by
 intro j t f hj;obtain⟨y,hy⟩:=zbQ (n0:=n) (x:=x) (o:=n) hj;have:=JK h hy;rcases Db hm j t f hj with⟨_,_,rfl⟩|⟨_,_,rfl⟩|⟨_,_,_,rfl⟩|⟨_,_,_,rfl⟩
 ·exact this
 ·obtain⟨h1,b,h2⟩:=this;exact⟨h1,b,h1.trans h2⟩
 ·exact this
 ·exact this
theorem zfL{ds:List (Nat×TF)}{x:WV ds}(hm:Kx ds=true)(o1:∀e∈kp.ob,e.1<kp.nx+ds.length)(o2:∀e∈cx.ob,e.1<kp.nx+ds.length)(r1:∀e∈kp.rg,∀o,wj e.2.2=some o->o<kp.nx+ds.length)(r2:∀e∈cx.rg,∀o,wj e.2.2=some o->o<kp.nx+ds.length):Bd cx (Qv ⟨ds,[]⟩ x kp):=by
 refine⟨fun e he=> ?_,o2,fun e he p hp=> ?_,r2⟩
 ·rcases Nm.1 he with he|he
  ·exact(MI (n0:=kp.nx) (l:=ds) (x:=x) (o:=kp.nx) e he).2
  ·exact o1 e he
 ·have hr:∀e∈(bg kp.nx ds x kp.nx).1,∀p,wj e.2.2=some p->p<kp.nx+ds.length:=fun e he p hp=>by
   rcases EJ (n0:=kp.nx) (n:=ds.length) (l:=ds) (x:=x) (o:=kp.nx) (HB hm) e he p hp with h|h<;>exact h
  rcases Nm.1 he with he|he
  ·rcases Nm.1 he with he|he
   ·exact hr e he p hp
   ·exact hr e he p hp
  ·exact r1 e he p hp
theorem zbp{ds:List (Nat×TF)}{x:WV ds}(hm:Kx ds=true)(hc:VZ ds env fun j=>vs<|kp.nx+j)(hb:Bd cx (Qv ⟨ds,[]⟩ x kp))
 (hd:St fr.we fr.Se (XE (fun j=>vs<|kp.nx+j) ds x 0++(MS vs kp.ob++(MS vs cx.ob++fr.F))) (RS P vs env kp.rg++(RS P vs env cx.rg++fr.G)) w):Zi P fr cx (Qv ⟨ds,[]⟩ x kp) env w:=by
 refine⟨hb,vs,?_⟩;have ha:∀j,j<ds.length->vs (kp.nx+j)=(fun j=>vs<|kp.nx+j) (0+j):=fun j _=>by simp only[xaN]
 have e1:OS vs fr cx (Qv ⟨ds,[]⟩ x kp).ob=XE (fun j=>vs<|kp.nx+j) ds x 0++(MS vs kp.ob++(MS vs cx.ob++fr.F)):=by
  show MS vs ((bg kp.nx ds x kp.nx).2++kp.ob)++(MS vs cx.ob++fr.F)=_;rw[show MS vs ((bg kp.nx ds x kp.nx).2++kp.ob)=MS vs (bg kp.nx ds x kp.nx).2++MS vs kp.ob from xbg,DK (U:=fun j=>vs<|kp.nx+j) (i:=0) ha,xaj]
 show St _ _ (OS vs fr cx (Qv ⟨ds,[]⟩ x kp).ob) _ _;rw[e1];refine hd.weak fun S w hΓ=> ?_;have hy:zA S (RS P vs env (bg kp.nx ds x kp.nx).1) w:=Mi (U:=fun j=>vs<|kp.nx+j) (n:=ds.length) (i:=0) (fun j _=>rfl) (HB hm) ha (OA fun j t f hj=>by rw[xaN];exact hc j t f hj);show zA S (RS P vs env (((bg kp.nx ds x kp.nx).1++(bg kp.nx ds x kp.nx).1)++kp.rg)++(RS P vs env cx.rg++fr.G)) w;rw[Uh,Uh];exact zA.append (zA.append (zA.append hy hy)<|zA.left hΓ)<|zA.right hΓ
theorem O0{ds:List (Nat×TF)}{x:WV ds}{n:Nat}(hm:Kx ds=true)(hR:Zi P fr cx (Qv ⟨ds,[]⟩ x ⟨n,[],[]⟩) env w):∃vs,VZ ds env (fun j=>vs<|n+j)/\Bd cx (Qv ⟨ds,[]⟩ x ⟨n,[],[]⟩)/\St fr.we fr.Se (XE (fun j=>vs<|n+j) ds x 0++(MS vs cx.ob++fr.F)) (RS P vs env cx.rg++fr.G) w:=by
 obtain⟨hB,vs,ha⟩:=hR;obtain⟨S,_,hΓ⟩:=ha.ex;have h1:zA S (RS P vs env<|((bg n ds x n).1++(bg n ds x n).1)++[]) w:=zA.left hΓ;rw[Uh,Uh]at h1;refine⟨vs,zbh hm<|zA.right<|zA.left h1,hB,?_⟩;have e1:OS vs fr cx (Qv ⟨ds,[]⟩ x ⟨n,[],[]⟩).ob=XE (fun j=>vs<|n+j) ds x 0++(MS vs cx.ob++fr.F):=by
  show MS vs ((bg n ds x n).2++[])++(MS vs cx.ob++fr.F)=_;rw[xbR,DK (U:=fun j=>vs<|n+j) (i:=0) fun j _=>by simp only[xaN]]
 have h2:St fr.we fr.Se (OS vs fr cx (Qv ⟨ds,[]⟩ x ⟨n,[],[]⟩).ob) (GS P vs env fr cx<|Qv ⟨ds,[]⟩ x ⟨n,[],[]⟩) w:=ha;rw[e1]at h2;exact h2.weak fun S w h=>zA.right h
theorem Ik{U:Nat->Value}{a:Nat×TF}:∀{l:List (Nat×TF)}{y:a.2.D}{x:WV l}{i:Nat},XE U (a::l) (Cj y x) i=Lo a.2 y (U i)++XE U l x (i+1)
 |[],y,x,i=>by show Lo a.2 y (U i)=_++[];rw[xbR]
 |_::_,y,x,i=>rfl
theorem ah{U V:Nat->Value}:∀{l:List (Nat×TF)}{x:WV l}{i k:Nat},(∀j,j<l.length->U (i+j)=V (k+j))->XE U l x i=XE V l x k
 |[],_,_,_,_=>rfl
 |[a],x,i,k,h=>by
  have h0:U i=V k:=h 0 (by simp);show Lo a.2 x (U i)=Lo a.2 x (V k);rw[h0]
 |a::b::l,x,i,k,h=>by
  have h0:U i=V k:=h 0 (by simp);show Lo a.2 x.1 (U i)++XE U (b::l) x.2 (i+1)=Lo a.2 x.1 (V k)++XE V (b::l) x.2 (k+1);rw[h0,ah (l:=b::l) (x:=x.2) (i:=i+1) (k:=k+1) fun j hj=>by
   have:=h (j+1) (by simpa using hj);rw[show i+1+j=i+(j+1)by lia,show k+1+j=k+(j+1)by lia];exact this]
theorem zcU{a:Nat×TF}:∀{l:List (Nat×TF)} (z:WV (a::l)),z=Cj (be z).1 (be z).2
 |[],_=>rfl
 |_::_,_=>rfl
theorem Fb{we:World}{Se:Nat->Prop}{A B:List MF}{G:List FF}{l:Nat}{m m':MF}{o:Obj}(h:Zi P ⟨we,Se,A++m::B,G⟩ cx σ env w)(hb:∀k,m.blk k↔k=l)(ha:∀k,m'.blk k->k=l)(hp:∀S w',w'.heap[l]? =some o->m'.p S w'):Zi P ⟨we,Se,A++m'::B,G⟩ cx σ env (w.putObj l o):=by
 obtain⟨hB,vs,hc⟩:=h;refine⟨hB,vs,?_⟩;have h1:St we Se ((MS vs σ.ob++(MS vs cx.ob++A))++m::B) (GS P vs env ⟨we,Se,A++m::B,G⟩ cx σ) w:=by
  have:St we Se (MS vs σ.ob++(MS vs cx.ob++(A++m::B))) (GS P vs env ⟨we,Se,A++m::B,G⟩ cx σ) w:=hc;simpa only[xaj]using this
 have h2:=St.putObj (St.mid h1) hb ha hp;have h3:St we Se ((MS vs σ.ob++(MS vs cx.ob++A))++m'::B) (GS P vs env ⟨we,Se,A++m::B,G⟩ cx σ) (w.putObj l o):=h2.perm xct.symm;show St we Se (MS vs σ.ob++(MS vs cx.ob++(A++m'::B))) _ _;simpa only[xaj]using h3
theorem zaY{n:Nat}{S:Nat->Prop}:∀{ds:List (Nat×TF)}{i:Nat},Kx ds=true->(∀(j t:Nat) (f:TF),ds[j]? =some (t,f)->ib f (env t) (vs<|n+(i+j)))->zA S (RS P vs env<|nL ds<|n+i) w
 |[],_,_,_=>trivial
 |(t,f)::r,i,hm,h=>by
  have h0:=h 0 t f rfl;have ih:Kx r=true->zA S (RS P vs env<|nL r<|n+i+1) w:=fun hm=>zaY (i:=i+1) hm fun j t f hj=>by
   have:=h (j+1) t f (by simpa using hj);rw[show i+1+j=i+(j+1)by lia];exact this
  cases f<;>simp only[Kx,xak]at hm
  ·exact⟨h0,ih hm⟩
  ·exact⟨h0.1,ih hm⟩
  ·exact⟨h0,ih hm⟩
  ·exact⟨h0,ih hm⟩
theorem FP:∀{ds:List (Nat×TF)}{n:Nat},∀e∈nL ds n,∀o,wj e.2.2=some o->o<n+ds.length
 |[],_,e,he=>absurd he IR
 |(t,f)::r,n,e,he=>by
  intro o ho;have ih:e∈nL r (n+1)->o<n+((t,f)::r).length:=fun he=>by
   have:=FP e he o ho;simp only[xaq];lia
  cases f<;>rcases xac.1 he with rfl|he<;>first|exact ih he|(cases ho;simp only[xaq];lia)
theorem po:∀{ds:List (Nat×TF)}{n j t:Nat}{f:TF},ds[j]? =some (t,f)->∃e∈nL ds n,e.1=t
 |[],_,_,_,_,h=>by simp at h
 |(t',f')::r,n,0,t,f,h=>by
  simp only[xbE,xaz,xcH]at h;obtain⟨rfl,rfl⟩:=h;cases f'<;>exact⟨_,FS,rfl⟩
 |(t',f')::r,n,j+1,t,f,h=>by
  obtain⟨e,he,h1⟩:=po (ds:=r) (n:=n+1) (j:=j) (t:=t) (f:=f) (by simpa using h);cases f'<;>exact⟨e,UV _ he,h1⟩
theorem zfb{a:Nat×TF}{ds:List (Nat×TF)}(h:zc7 (a::ds)=true){j t:Nat}{f:TF}(hj:ds[j]? =some (t,f)):t≠a.1:=by
 simp only[zc7,TP,xao,xaR]at h;have:=h.1 (t,f)<|xbx hj;intro e;subst e;simp at this
end
end
section
def Ba(P:Program)(cf:Cf)(n:Nat)(c:Code):Prop:=∀{R:Type}{r:R}{fr:Fr}{cx σ:Sg}{K:Tg->Sg->Option R}{Q:Qd}{N:Nd},N.n=n->(N.rd=none\/C0 c=true)->aQ cf c cx σ K=some r->∀{Ds:List Nat}{env:yN}{w:World},
 (∀t σ',K t σ'=some r->∀Ds' env' w',dF cx env env'->Zi P (fr.wd Ds') cx σ' env' w'->Q (tgE t) Ds' env' w')->Zi P (fr.wd Ds) cx σ env w->DA P N c Q Ds env w
def ziU:Value->List Value
 |.tuple us=>us.toList
 |_=>[]
def Zy(u:Value)(k:Nat):Value:=(ziU u).getD k undef
def Gj(vs:Nat->Value)(m:Nat):Value:=.tuple ((xbc m).map vs).toArray
theorem zft{vs:Nat->Value}{m k:Nat}(h:k<m):Zy (Gj vs m) k=vs k:=by
 simp[Zy,Gj,ziU,H1,h]
def tgC:Tg->Code
 |.n=> .skip
 |.x i=> .exit i
 |.r=> .ret
section
variable{P:Program}{cf:Cf}{fr:Fr}{cx cx' kp σ:Sg}{vs vs':Nat->Value}{env env':yN}{w:World}{we:World}{Se:Nat->Prop}{F:List MF}{G:List FF}{n D l:Nat}{ds:List (Nat×TF)}{x:WV ds}{u:Value}{rc:Loop}
def RI(P:Program)(env:yN)(cx':Sg)(n:Nat)(ds:List (Nat×TF))(D l:Nat)(rc:Loop)(x:WV ds)(u:Value):MF:=
 Hl (mPr (VZ ds env fun j=>Zy u<|n+j)::mFF (RS P (Zy u) env cx'.rg)::Kt l rc::wK D::(XE (fun j=>Zy u<|n+j) ds x 0++MS (Zy u) cx'.ob))
theorem Px(h:St we Se (RI P env cx' n ds D l rc x u::F) G w):VZ ds env (fun j=>Zy u<|n+j)/\St we Se (Kt l rc::wK D::(XE (fun j=>Zy u<|n+j) ds x 0++(MS (Zy u) cx'.ob++F))) (RS P (Zy u) env cx'.rg++G) w:=by
 obtain⟨h1,h2⟩:=St.unpr<|St.grp.1 h;refine⟨h1,?_⟩;have h3:=St.ffOut (show St we Se (mFF (RS P (Zy u) env cx'.rg)::(Kt l rc::wK D::(XE (fun j=>Zy u<|n+j) ds x 0++MS (Zy u) cx'.ob)++F)) G w from h2);simpa only[xbI,xaj]using h3
theorem zc4(ha:VZ ds env fun j=>vs<|n+j)(ho:∀e∈cx'.ob,e.1<n)(hr:∀e∈cx'.rg,∀o,wj e.2.2=some o->o<n)(h:St we Se (Kt l rc::wK D::(XE (fun j=>vs<|n+j) ds x 0++(MS vs cx'.ob++F))) (RS P vs env cx'.rg++G) w):
 St we Se (RI P env cx' n ds D l rc x (Gj vs<|n+ds.length)::F) G w:=by
 have e0:∀k,k<n+ds.length->Zy (Gj vs<|n+ds.length) k=vs k:=fun k hk=>zft hk;have e1:RS P (Zy<|Gj vs<|n+ds.length) env cx'.rg=RS P vs env cx'.rg:=qI (fun e he o ho=>e0 o (by have:=hr e he o ho;lia)) fun _ _=>rfl;have e2:MS (Zy<|Gj vs<|n+ds.length) cx'.ob=MS vs cx'.ob:=wa fun e he=>e0 e.1 (by have:=ho e he;lia);have e3:XE (fun j=>Zy (Gj vs<|n+ds.length)<|n+j) ds x 0=XE (fun j=>vs<|n+j) ds x 0:=ah fun j hj=>e0 _ (by lia);refine St.grp.2<|St.pr ?_ ?_
 ·intro j t f hj;have:=(xat.1 hj).1;show ib f (env t) (Zy (Gj vs<|n+ds.length)<|n+j);rw[e0 _<|by lia];exact ha j t f hj
 ·have h2:St we Se (mFF (RS P vs env cx'.rg)::(Kt l rc::wK D::(XE (fun j=>vs<|n+j) ds x 0++MS vs cx'.ob)++F)) G w:=St.ffIn (by simpa only[xbI,xaj]using h);rw[e1,e2,e3];exact h2
theorem DG{m:MF}{p:Prop}(h:Zi P fr cx σ env w)(hm:m∈fr.F)(hp:∀S,m.p S w->p):p:=by
 obtain⟨_,vs,_,_,_,S,_,_,_,h7,_⟩:=h;exact hp S<|uc.1 h7 m<|Nm.2 (.inr<|Nm.2 (.inr hm))
theorem zfp{it:Aq}{pt:Nat}{τ:Tg}{a c:Code}{N:Nat}{fn:FuncId}{tmps:Array Value}(hA:Ba P cf N a)(hC:Ba P cf N c)(hV:C0 a=true)(hW:C0 c=true)(hpt:pt<N)(hX:tmps.size=N)(hN:yr ⟨tmps,[]⟩=env)(hm:Kx ds=true)
 (hY:zc7 (jw pt it.t it.E ds).ds=true) (hH:Yd cx'.rg pt=true) (ho:∀e∈cx'.ob,e.1<n) (hr:∀e∈cx'.rg,∀o,wj e.2.2=some o->o<n):
 GA P l it.t.rep it.E (fun x u=>RI P env cx' n ds D l {state:=.ready,pending:=none,fn:=fn,tmps:=tmps,params:= #[pt],assign:=a,body:=c,defers:=D} x u)
  (fun x u=>RI P env cx' n ds D l {state:=.done,pending:=some<|tgC τ,fn:=fn,tmps:=tmps,params:= #[pt],assign:=a,body:=c,defers:=D} x u)
  (zki cx' n ds it.t it.E pt τ (fun cx σ K=>aQ cf a cx σ K) fun cx σ K=>aQ cf c cx σ K):=by
 obtain⟨rR,hg⟩:∃rR:Loop,rR={state:=.ready,pending:=none,fn:=fn,tmps:=tmps,params:= #[pt],assign:=a,body:=c,defers:=D}:=⟨_,rfl⟩;obtain⟨rB,hF⟩:∃rB:Loop,rB={rR with state:=.busy}:=⟨_,rfl⟩;rw[<-hg];intro ys x ys' q hq v u we Se F G w hZ;obtain⟨h0,h1⟩:=Px hZ;have hl:w.heap[l]? =some (.loop rR):=xR h1 (i:=0) rfl fun S hp=>hp;have hy:=run_yield (P:=P) (args:= #[v]) hl (by rw[hg];rfl);refine⟨fn,tmps.setIfInBounds pt v,a,c,by rw[hg]at hy;simpa using hy,roundIn_of_wpIn trivial ?_⟩;obtain⟨sh,hv⟩:∃sh,sh=jw pt it.t it.E ds:=⟨_,rfl⟩;have hlen:sh.ds.length=ds.length+1:=by rw[hv];rfl
 have hG:Kx sh.ds=true:=by rw[hv];exact hm
 obtain⟨cp,hb⟩:∃cp,cp=cpR cx' n sh:=⟨_,rfl⟩;have hO:∀{j t:Nat}{f:TF},ds[j]? =some (t,f)->t≠pt:=fun hj=>zfb (a:=(pt,.own it.t it.E)) hY hj;obtain⟨env1,hi⟩:∃env1,env1=put env (some pt) v:=⟨_,rfl⟩;have e_pt:env1 pt=v:=by rw[hi];exact sn
 have e_ne:∀t,t≠pt->env1 t=env t:=fun t ht=>by rw[hi];exact cW<|fun e=>ht<|by cases e;rfl
 have e_cx:∀e∈cx'.rg,env1 e.1=env e.1:=fun e he=>e_ne e.1 fun h=>by
  simp only[Yd,xaR]at hH;have:=hH e he;rw[h]at this;simp at this
 obtain⟨vs1,hx⟩:∃vs1:Nat->Value,vs1=fun k=>if k<n then Zy u k else if k=n then v else Zy u (k-1):=⟨_,rfl⟩;have v_lo:∀k,k<n->vs1 k=Zy u k:=fun k hk=>by rw[hx];exact iq hk
 have v_n:vs1 n=v:=by rw[hx];simp
 have v_hi:∀j,vs1 (n+(j+1))=Zy u (n+j):=fun j=>by
  rw[hx];simp only;rw[zy,zy,show n+(j+1)-1=n+j by lia]
 have hI:VZ sh.ds env1 fun j=>vs1 (n+j):=by
  rw[hv];intro j t f hj
  cases j with
  |zero=>
   simp only[jw,xbE,xaz,xcH]at hj;obtain⟨rfl,rfl⟩:=hj;show env1 pt=vs1 (n+0);rw[e_pt,xbT,v_n]
  |succ j=>
   have hj:ds[j]? =some (t,f):=by simpa[jw]using hj
   show ib f (env1 t) (vs1<|n+(j+1));rw[v_hi,e_ne t<|hO hj];exact h0 j t f hj
 have hB:Bd cp ⟨n+sh.ds.length,[],[]⟩:=by
  rw[hb];refine⟨fun _ he=>absurd he IR,fun e he=> ?_,fun _ he=>absurd he IR,fun e he o hd=> ?_⟩
  ·have:=ho e he;show e.1<n+_;lia
  ·show o<n+_;rcases Nm.1 (show e∈nL sh.ds n++cx'.rg from he)with he|he
   ·exact FP e he o hd
   ·have:=hr e he o hd;lia
 have h9:Zi P (Fr.wd ⟨we,Se,Kt l rR::wK D::F,G⟩ []) cp (Qv sh (hv▸Cj (a:=(pt,.own it.t it.E)) ys x) ⟨n,[],[]⟩) env1 w:=by
  subst hv;refine zbp (vs:=vs1) (kp:=⟨n,[],[]⟩) hG hI (zfL hG (fun _ he=>absurd he IR) (fun e he=>hB.o2 e he) (fun _ he=>absurd he IR) fun e he o hd=>hB.r2 e he o hd) ?_;have e1:XE (fun j=>vs1<|n+j) (jw pt it.t it.E ds).ds (Cj (a:=(pt,.own it.t it.E)) ys x) 0=mO it.t.rep it.E v ys::XE (fun j=>Zy u<|n+j) ds x 0:=by
   refine(Ik (U:=fun j=>vs1<|n+j) (a:=(pt,.own it.t it.E)) (l:=ds) (y:=ys) (x:=x) (i:=0)).trans ?_;show mO it.t.rep it.E (vs1<|n+0) ys::XE _ ds x (0+1)=_;rw[xbT,v_n,ah (U:=fun j=>vs1<|n+j) (V:=fun j=>Zy u<|n+j) (i:=0+1) (k:=0) fun j _=>by
    show vs1 (n+(0+1+j))=Zy u (n+(0+j));rw[show 0+1+j=j+1 by lia,v_hi,xaN]]
  have e2:MS vs1 cp.ob=MS (Zy u) cx'.ob:=by rw[hb];exact wa fun e he=>v_lo _<|ho e he
  show St we Se (XE (fun j=>vs1<|n+j) (jw pt it.t it.E ds).ds (Cj (a:=(pt,.own it.t it.E)) ys x) 0++([]++(MS vs1 cp.ob++([]++(Kt l rR::wK D::F))))) ([]++(RS P vs1 env1 cp.rg++G)) w;rw[e1,e2];have h2:St we Se (mO it.t.rep it.E v ys::XE (fun j=>Zy u<|n+j) ds x 0++([]++(MS (Zy u) cx'.ob++([]++(Kt l rR::wK D::F))))) (RS P (Zy u) env cx'.rg++G) w:=by
   refine h1.perm ?_;simp only[xbA,xbI];have p1:(Kt l rR::wK D::(XE (fun j=>Zy u<|n+j) ds x 0++(MS (Zy u) cx'.ob++mO it.t.rep it.E v ys::F))).Perm (mO it.t.rep it.E v ys::(Kt l rR::wK D::(XE (fun j=>Zy u<|n+j) ds x 0++(MS (Zy u) cx'.ob++F)))):=by
    have:=xct (a:=mO it.t.rep it.E v ys) (l₁:=Kt l rR::wK D::(XE (fun j=>Zy u<|n+j) ds x 0++MS (Zy u) cx'.ob)) (l₂:=F);simpa only[xbI,xaj]using this
   refine p1.trans<|List.Perm.cons _ ?_;have p2:([Kt l rR,wK D]++((XE (fun j=>Zy u<|n+j) ds x 0++MS (Zy u) cx'.ob)++F)).Perm ((XE (fun j=>Zy u<|n+j) ds x 0++MS (Zy u) cx'.ob)++([Kt l rR,wK D]++F)):=xdG ..;simpa only[xbI,xaj,xbA]using p2
  refine h2.weak (Δ:=RS P vs1 env1 cp.rg++G) fun S w ha=>zA.append ?_<|zA.right ha;rw[hb];show zA S (RS P vs1 env1<|nL (jw pt it.t it.E ds).ds n++cx'.rg) w;rw[Uh];refine zA.append (zaY (i:=0) hG fun j t f hj=>by rw[xaN];exact hI j t f hj) ?_;rw[qI (vs:=Zy u) (env:=env) (fun e he o hd=>v_lo o<|hr e he o hd) e_cx];exact zA.left ha
 obtain⟨N1,hw⟩:∃N1:Nd,N1=⟨N,[],some l⟩:=⟨_,rfl⟩;have hP:(⟨tmps.setIfInBounds pt v,[]⟩:Act).tmps.size=N1.n:=by rw[hw];simpa using hX
 have hQ:yr ⟨tmps.setIfInBounds pt v,[]⟩=env1:=by
  have:=Yu (a:=⟨tmps,[]⟩) (d:=some pt) (v:=v) (fun t ht=>by cases ht;show pt<tmps.size;lia);rw[hi,<-hN];exact this
 subst hv
 have h':=hA (N:=N1) (fr:=⟨we,Se,Kt l rR::wK D::F,G⟩) (Ds:=[]) (by rw[hw]) (.inr hV) (show aQ cf a cp _ _=some (ys',q)from by rw[hb];exact hq)
  (Q:=fun e Ds' env' w'=>e=.normal/\∃σ',aQ cf c cp σ' (zgB cp ds it.t it.E pt τ)=some (ys',q)/\dF cp env1 env'/\Zi P (Fr.wd ⟨we,Se,Kt l rR::wK D::F,G⟩ Ds') cp σ' env' w')
  (fun t σ' hk Ds' env' w' hs hR=>by
   cases t with
   |n=>exact⟨rfl,σ',by rw[hb];exact hk,hs,hR⟩
   |x i=>cases hk
   |r=>cases hk) h9
 have hS:=h' ⟨tmps.setIfInBounds pt v,[]⟩ hP rfl hQ;rw[hw]at hS;refine wpIn_mono hS ?_;rintro e a1 w1 ⟨q1,Ds',q2,rfl,σ',hk,hs,hR⟩;have hl1:w1.heap[l]? =some (.loop rR):=DG hR (m:=Kt l rR) (Nm.2 (.inr<|FS)) fun S hp=>hp;refine⟨w1.putObj l (.loop rB),by rw[hF];exact run_beginRound hl1 (by rw[hg]),?_⟩;have hR1:Zi P (Fr.wd ⟨we,Se,Kt l rB::wK D::F,G⟩ Ds') cp σ' (yr a1) (w1.putObj l (.loop rB)):=Fb (A:=Ds'.map wK) (m:=Kt l rR) (m':=Kt l rB) (B:=wK D::F) hR (fun k=>Iff.rfl) (fun k h=>h) fun S w' h=>h
 have hwC:=hC (N:=N1) (fr:=⟨we,Se,Kt l rB::wK D::F,G⟩) (Ds:=Ds') (by rw[hw]) (.inr hW) hk
  (Q:=fun e Ds'' env' w'=>∃t σ'',e=tgE t/\zgB cp ds it.t it.E pt τ t σ''=some (ys',q)/\dF cp (yr a1) env'/\Zi P (Fr.wd ⟨we,Se,Kt l rB::wK D::F,G⟩ Ds'') cp σ'' env' w')
  (fun t σ'' hk Ds'' env' w' hs hR=>⟨t,σ'',rfl,hk,hs,hR⟩) hR1
 have hT:=hwC a1 (by rw[hw];exact q1) q2 rfl;rw[hw]at hT;refine wpIn_mono hT ?_;rintro e a2 w2 ⟨p1,Ds'',p2,t,σ'',rfl,hc,hs2,hn⟩;have hL:w2.heap[l]? =some (.loop rB):=DG hn (m:=Kt l rB) (Nm.2 (.inr<|FS)) fun S hp=>hp;have hM:=hs.trans hs2
 have close:∀(z:WV (jw pt it.t it.E ds).ds) (rc:Loop),Zi P (Fr.wd ⟨we,Se,Kt l rB::wK D::F,G⟩ Ds'') cp (Qv (jw pt it.t it.E ds) z ⟨n+(jw pt it.t it.E ds).ds.length,[],[]⟩) (yr a2) w2->
  ∃u',St we Se (RI P env cx' n ds D l rc (be z).2 u'::mO it.t.rep it.E v (be z).1::F) G (w2.putObj l (.loop rc)):=by
  intro z rc hu;have hRp:=Fb (A:=Ds''.map wK) (m:=Kt l rB) (m':=Kt l rc) (B:=wK D::F) hu (fun k=>Iff.rfl) (fun k h=>h) (o:=.loop rc) fun S w' h=>h;obtain⟨vs2,hD,hB2,hJ⟩:=O0 (ds:=(jw pt it.t it.E ds).ds) hG hRp;obtain⟨m,hm2⟩:∃m,m=n+(jw pt it.t it.E ds).ds.length:=⟨_,rfl⟩;rw[<-hm2]at hD hJ;have z0:vs2 m=v:=by
   have h2:yr a2 pt=vs2 (m+0):=hD 0 pt (.own it.t it.E) rfl;obtain⟨e,he,h3⟩:=po (ds:=(jw pt it.t it.E ds).ds) (n:=n) (j:=0) (t:=pt) (f:=.own it.t it.E) rfl;have h4:=hM e (by rw[hb];exact Nm.2 (.inl he));rw[h3,e_pt]at h4;rw[xbT]at h2;exact h2.symm.trans h4
  obtain⟨vs3,hK⟩:∃vs3:Nat->Value,vs3=fun k=>if k<n then vs2 k else vs2 (m+1+(k-n)):=⟨_,rfl⟩;have w_lo:∀k,k<n->vs3 k=vs2 k:=fun k hk=>by rw[hK];exact iq hk
  have w_hi:∀j,vs3 (n+j)=vs2 (m+(j+1)):=fun j=>by
   rw[hK];simp only;rw[zy,show m+1+(n+j-n)=m+(j+1)by lia]
  have hU:VZ ds env fun j=>vs3 (n+j):=by
   intro j t f hj;have h2:=hD (j+1) t f (by simpa[jw]using hj);obtain⟨e,he,h3⟩:=po (ds:=(jw pt it.t it.E ds).ds) (n:=n) (j:=j+1) (t:=t) (f:=f) (by simpa[jw]using hj);have h4:=hM e (by rw[hb];exact Nm.2 (.inl he));rw[h3,e_ne t<|hO hj]at h4;show ib f (env t) (vs3<|n+j);rw[w_hi,<-h4];exact h2
  refine⟨_,zc4 (F:=mO it.t.rep it.E v (be z).1::F) hU ho hr ?_⟩;have e1:XE (fun j=>vs2<|m+j) (jw pt it.t it.E ds).ds z 0=mO it.t.rep it.E v (be z).1::XE (fun j=>vs3<|n+j) ds (be z).2 0:=by
   refine(congrArg (fun z=>XE (fun j=>vs2<|m+j) (jw pt it.t it.E ds).ds z 0)<|zcU (a:=(pt,.own it.t it.E)) (l:=ds) z).trans ?_;refine(Ik (U:=fun j=>vs2<|m+j) (a:=(pt,.own it.t it.E)) (l:=ds) (y:=(be (a:=(pt,.own it.t it.E)) z).1) (x:=(be (a:=(pt,.own it.t it.E)) z).2) (i:=0)).trans ?_;show mO it.t.rep it.E (vs2<|m+0) (be z).1::XE _ ds (be z).2 (0+1)=_;rw[xbT,z0,ah (U:=fun j=>vs2<|m+j) (V:=fun j=>vs3<|n+j) (i:=0+1) (k:=0) fun j _=>by
    show vs2 (m+(0+1+j))=vs3 (n+(0+j));rw[show 0+1+j=j+1 by lia,xaN,w_hi]]
  have e2:MS vs2 cp.ob=MS vs3 cx'.ob:=by rw[hb];exact wa fun e he=>(w_lo _<|ho e he).symm
  have h5:St we Se (XE (fun j=>vs2<|m+j) (jw pt it.t it.E ds).ds z 0++(MS vs2 cp.ob++(Ds''.map wK++Kt l rc::wK D::F))) (RS P vs2 (yr a2) cp.rg++G) (w2.putObj l (.loop rc)):=hJ;rw[e1,e2]at h5;have h6:St we Se ((mO it.t.rep it.E v (be z).1::XE (fun j=>vs3<|n+j) ds (be z).2 0++MS vs3 cx'.ob)++(Kt l rc::wK D::F)) (RS P vs2 (yr a2) cp.rg++G) (w2.putObj l (.loop rc)):=St.dropM (B:=Ds''.map wK) (by simpa only[xaj]using h5);have h7:St we Se (Kt l rc::wK D::(XE (fun j=>vs3<|n+j) ds (be z).2 0++(MS vs3 cx'.ob++(mO it.t.rep it.E v (be z).1::F)))) (RS P vs2 (yr a2) cp.rg++G) (w2.putObj l (.loop rc)):=by
   refine h6.perm ?_;have p1:((XE (fun j=>vs3<|n+j) ds (be z).2 0++MS vs3 cx'.ob)++([Kt l rc,wK D]++F)).Perm ([Kt l rc,wK D]++((XE (fun j=>vs3<|n+j) ds (be z).2 0++MS vs3 cx'.ob)++F)):=xdG ..;have p2:=xct (a:=mO it.t.rep it.E v (be z).1) (l₁:=Kt l rc::wK D::(XE (fun j=>vs3<|n+j) ds (be z).2 0++MS vs3 cx'.ob)) (l₂:=F);have p3:=(p1.cons<|mO it.t.rep it.E v (be z).1).trans (by simpa only[xbI,xaj,xbA]using p2.symm);simpa only[xbI,xaj,xbA]using p3
  refine h7.weak fun S w ha=>zA.append ?_<|zA.right ha;have h8:zA S (RS P vs2 (yr a2)<|nL (jw pt it.t it.E ds).ds n++cx'.rg) w:=by
   have:=zA.left ha;rw[hb]at this;exact this
  rw[Uh]at h8;rw[qI (vs:=vs2) (env:=yr a2) (fun e he o hd=>w_lo o<|hr e he o hd) fun e he=> ?_]
  ·exact zA.right h8
  ·have h4:=hM e (by rw[hb];exact Nm.2 (.inr he));rw[e_cx e he]at h4;exact h4.symm
 cases t with
 |n=>
  obtain⟨z,hz,hf⟩:=lX (P:=P) (cx:=cp) (kp:=⟨n+(jw pt it.t it.E ds).ds.length,[],[]⟩) (show iV (jz cp ⟨n+(jw pt it.t it.E ds).ds.length,[],[]⟩) (jw pt it.t it.E ds) σ'' (fun z=>some ((be z).1,Sum.inl (be z).2))=some (ys',q)from by rw[hb]at hc⊢;exact hc) hB;cases hz;have hu:=hf (Fr.wd ⟨we,Se,Kt l rB::wK D::F,G⟩ Ds'') (yr a2) w2 (by rw[hb]at hn⊢;exact hn);refine⟨_,_,run_endRound none hL,rfl,?_⟩;have hE:({rB with state:=if(none:Option Code).isNone then .ready else .done,pending:=none}:Loop)=rR:=by rw[hF,hg];rfl
  rw[hE];exact close z rR hu
 |x i=>
  obtain⟨ht,hc⟩:=yh hc;obtain⟨z,hz,hf⟩:=lX (P:=P) (cx:=cp) (kp:=⟨n+(jw pt it.t it.E ds).ds.length,[],[]⟩) (show iV (jz cp ⟨n+(jw pt it.t it.E ds).ds.length,[],[]⟩) (jw pt it.t it.E ds) σ'' (fun z=>some ((be z).1,Sum.inr (be z).2))=some (ys',q)from by rw[hb]at hc⊢;exact hc) hB;cases hz;have hu:=hf (Fr.wd ⟨we,Se,Kt l rB::wK D::F,G⟩ Ds'') (yr a2) w2 (by rw[hb]at hn⊢;exact hn);refine⟨_,_,run_endRound (some (.exit i)) hL,rfl,?_⟩;have hE:({rB with state:=if(some<|Code.exit i).isNone then .ready else .done,pending:=some (.exit i)}:Loop)={state:=.done,pending:=some<|tgC τ,fn:=fn,tmps:=tmps,params:= #[pt],assign:=a,body:=c,defers:=D}:=by rw[hF,hg,PO ht];rfl
  rw[hE];exact close z _ hu
 |r=>
  obtain⟨ht,hc⟩:=yh hc;obtain⟨z,hz,hf⟩:=lX (P:=P) (cx:=cp) (kp:=⟨n+(jw pt it.t it.E ds).ds.length,[],[]⟩) (show iV (jz cp ⟨n+(jw pt it.t it.E ds).ds.length,[],[]⟩) (jw pt it.t it.E ds) σ'' (fun z=>some ((be z).1,Sum.inr (be z).2))=some (ys',q)from by rw[hb]at hc⊢;exact hc) hB;cases hz;have hu:=hf (Fr.wd ⟨we,Se,Kt l rB::wK D::F,G⟩ Ds'') (yr a2) w2 (by rw[hb]at hn⊢;exact hn);refine⟨_,_,run_endRound (some .ret) hL,rfl,?_⟩;have hE:({rB with state:=if(some Code.ret).isNone then .ready else .done,pending:=some .ret}:Loop)={state:=.done,pending:=some<|tgC τ,fn:=fn,tmps:=tmps,params:= #[pt],assign:=a,body:=c,defers:=D}:=by rw[hF,hg,PO ht];rfl
  rw[hE];exact close z _ hu
end
end
section
section
variable{P:Program}{cf:Cf}{fr:Fr}{cx σ:Sg}{env:yN}{w:World}{R:Type}{r:R}
theorem zeL(hX:Aa P cf){g:Operand}{a c:Code}{N:Nd}{K:Tg->Sg->Option R}{Q:Qd}{s:Lp}{it:Aq}{y:aa it.dom}{τ:Tg}{pt:Nat}{ags:List Nat}{cs:List PD}{Ds:List Nat}
 (hA:Ba P cf N.n a) (hC:Ba P cf N.n c) (hP:C0 a=true) (hQ:C0 c=true) (hS:N.rd=none) (hT:pt<N.n) (hg:xX cx σ g=some (.fn it.f cs)) (hU:it∈cf.is) (hy:Kf it.dom cs=some y) (hv:s.hd.ns=[])
 (h:LQ cx σ K s it y τ pt ags (fun cx σ K=>aQ cf a cx σ K) (fun cx σ K=>aQ cf c cx σ K)=some r)
 (hK:∀t σ',K t σ'=some r->∀Ds' env' w',dF cx env env'->Zi P (fr.wd Ds') cx σ' env' w'->Q (tgE t) Ds' env' w') (hR:Zi P (fr.wd Ds) cx σ env w):DA P N (.rangeFunc g #[pt] a c) Q Ds env w:=by
 obtain⟨⟨ds,ns⟩,sg⟩:=s;simp only at hv;subst hv;obtain⟨h8,hx⟩:=DX hy;obtain⟨hB,vs,hz⟩:=hR;obtain⟨S0,_,hΓ⟩:=hz.ex;obtain⟨cvs,hD,h7,h9⟩:=zk hg<|zY hΓ g;have hV:Zi P ⟨fr.we,fr.Se,Ds.map wK++fr.F,kU P it.dom y cvs++fr.G⟩ cx σ env w:=⟨hB,vs,hz.weak fun S w ha=>zA.append (zA.left ha) (zA.append (zA.left<|zA.right ha) (zA.append (by
  obtain⟨cvs',hE,hY,hF⟩:=zk hg<|zY ha g;rw[hD]at hE;have:cvs=cvs':=by simpa using hE
  subst this;exact hx hY hF) (zA.right (zA.right ha))))⟩
 unfold LQ at h;simp only at h;obtain⟨hi,h⟩:=yh h;simp only[xao]at hi;obtain⟨hm,hZ,hl⟩:=hi;obtain⟨hc,hG⟩:=tK (ag:=ags) (ro:=sg.ro) hV;obtain⟨kp,h0⟩:∃kp,kp=keep σ ags sg.ro:=⟨_,rfl⟩;rw[<-h0]at h hc hG hl;obtain⟨x0,h1,h2⟩:=lX (P:=P) (cx:=jz cx kp) (kp:=⟨kp.nx,[],[]⟩) h<|Ed hc;obtain⟨r',h3,h4⟩:=rM h1;obtain⟨vs0,hH,h',hI⟩:=O0 (ds:=ds) hm<|h2 _ env w hG;obtain⟨hb,hJ⟩:=hX.is it hU;have ho:∀e∈(jz cx kp).ob,e.1<kp.nx:=fun e he=>by
  rcases Nm.1 he with he|he
  ·exact hc.o1 e he
  ·exact hc.o2 e he
 have hr:∀e∈(jz cx kp).rg,∀o,wj e.2.2=some o->o<kp.nx:=fun e he o hf=>by
  rcases Nm.1 he with he|he
  ·exact hc.r1 e he o hf
  ·exact hc.r2 e he o hf
 intro a0 g1 g2 g3;refine wpIn_rangeFunc ?_;intro fn hfn;rw[show N.F.round=none from hS];obtain⟨rR,hj⟩:∃rR:Loop,rR={state:=.ready,pending:=none,fn:=fn,tmps:=a0.tmps,params:= #[pt],assign:=a,body:=c,defers:=w.heap.size}:=⟨_,rfl⟩;obtain⟨rD,hn⟩:∃rD:Loop,rD={state:=.done,pending:=some<|tgC τ,fn:=fn,tmps:=a0.tmps,params:= #[pt],assign:=a,body:=c,defers:=w.heap.size}:=⟨_,rfl⟩;have hL:=run_enterLoop_outer (P:=P) (w:=w) fn a0.tmps #[pt] a c;rw[<-hj]at hL;have hW:St fr.we fr.Se (Kt (w.heap.size+1) rR::wK w.heap.size::(XE (fun j=>vs0<|kp.nx+j) ds x0 0++(MS vs0 (jz cx kp).ob++(Ds.map wK++fr.F)))) (RS P vs0 env (jz cx kp).rg++(kU P it.dom y cvs++fr.G)) ((w.alloc (.deferred<|some [])).alloc (.loop rR)):=by
  have q1:=St.allocObj (o:=.deferred<|some []) (m:=wK w.heap.size) hI (fun k hk=>hk)<|fun S w' hw=>hw;have hM:(w.alloc (.deferred<|some [])).heap.size=w.heap.size+1:=World.size_alloc ..;refine St.allocObj (o:=.loop rR) (m:=Kt (w.heap.size+1) rR) q1 (fun k hk=>by rw[hM];exact hk)<|fun S w' hw=> ?_;rw[hM]at hw;exact hw
 have h5:=zc4 (x:=x0) hH ho hr hW;have hN:=zfp (P:=P) (cf:=cf) (cx':=jz cx kp) (env:=env) (n:=kp.nx) (D:=w.heap.size) (l:=w.heap.size+1) (ds:=ds) (it:=it) (pt:=pt) (τ:=τ) (a:=a) (c:=c) (N:=N.n) (fn:=fn) (tmps:=a0.tmps) hA hC hP hQ hT g1 g3 hm hZ hl ho hr;rw[<-hj,<-hn]at hN;have hq:=hJ y _ _ _ _ _ x0 r' h3 (w.heap.size+1) cvs (by lia) hN _ fr.we fr.Se _ fr.G _ h5
 have close:∀(rc:Loop) (x:WV ds) (u':Value) (w3:World),St fr.we fr.Se (RI P env (jz cx kp) kp.nx ds w.heap.size (w.heap.size+1) rc x u'::(Ds.map wK++fr.F)) fr.G w3->
  w3.heap[w.heap.size+1]? =some (.loop rc)/\∀o,Zi P (fr.wd (w.heap.size::Ds)) cx (Qv ⟨ds,[]⟩ x kp) env (w3.putObj (w.heap.size+1) (.loop o)):=by
  intro rc x u' w3 hs;obtain⟨h6,q1⟩:=Px hs;refine⟨xR q1 (i:=0) rfl fun S hp=>hp,fun o=> ?_⟩;have q2:=St.putObj (m':=Kt (w.heap.size+1) o) (o:=.loop o) q1 (fun k=>Iff.rfl) (fun k hk=>hk)<|fun S w' hw=>hw;have q3:St fr.we fr.Se ([wK w.heap.size]++(XE (fun j=>Zy u'<|kp.nx+j) ds x 0++(MS (Zy u') (jz cx kp).ob++(Ds.map wK++fr.F)))) (RS P (Zy u') env (jz cx kp).rg++fr.G) (w3.putObj (w.heap.size+1) (.loop o)):=St.drop (i:=0) q2;refine zbp (vs:=Zy u') hm h6 (zfL hm (fun e he=>xan (hc.o1 e he)<|xbP _ _) (fun e he=>xan (hc.o2 e he)<|xbP _ _) (fun e he o hf=>xan (hc.r1 e he o hf)<|xbP _ _) fun e he o hf=>xan (hc.r2 e he o hf)<|xbP _ _) ?_;have e1:MS (Zy u') (jz cx kp).ob=MS (Zy u') kp.ob++MS (Zy u') cx.ob:=xbg;have e2:RS P (Zy u') env (jz cx kp).rg=RS P (Zy u') env kp.rg++RS P (Zy u') env cx.rg:=xbg;rw[e1,e2]at q3;have q4:St fr.we fr.Se ((XE (fun j=>Zy u'<|kp.nx+j) ds x 0++(MS (Zy u') kp.ob++MS (Zy u') cx.ob))++([wK w.heap.size]++(Ds.map wK++fr.F))) ((RS P (Zy u') env kp.rg++RS P (Zy u') env cx.rg)++fr.G) (w3.putObj (w.heap.size+1) (.loop o)):=by
   refine q3.perm ?_;rw[<-xaj<|XE _ _ _ _];exact xdG ..
  show St fr.we fr.Se (XE _ ds x 0++(MS (Zy u') kp.ob++(MS (Zy u') cx.ob++((wK w.heap.size::Ds.map wK)++fr.F)))) (RS P (Zy u') env kp.rg++(RS P (Zy u') env cx.rg++fr.G)) _;simpa only[xaj,xbI,xbA]using q4
 refine⟨w.heap.size+1,[mkD w.heap.size],((w.alloc (.deferred<|some [])).alloc (.loop rR)),{target:=.fn (.func it.f) cvs.toArray,args:= #[.func (.yield<|w.heap.size+1) #[] #[]]},((w.alloc (.deferred<|some [])).alloc (.loop rR)),it.f,#[.func (.yield<|w.heap.size+1) #[] #[]]++cvs.toArray,((w.alloc (.deferred<|some [])).alloc (.loop rR)),hL,?_,fun _ _=>trivial,?_,fun e=>by simp[Nd.F,xfV]at e,?_⟩
 ·have:a0.eval g=.func (.func it.f) #[] cvs.toArray:=by rw[aE,g3];exact hD
  simp only[resolve,this];simp[go_sem]
 ·simp[invoke,go_sem,kP hb]
 ·have ht:(#[.func (.yield<|w.heap.size+1) #[] #[]]++cvs.toArray:Array Value)=(Value.func (.yield<|w.heap.size+1) #[] #[]::cvs).toArray:=by simp
  rw[ht];refine CallsIn.mono (callsIn_wide.2 hq) ?_;rintro e w3 ⟨⟨v,rfl⟩,u',hs⟩
  cases hO:r' with
  |inl x=>
   rw[hO]at hs h4;obtain⟨hu,hd⟩:=close rR x u' w3 hs;refine⟨none,_,by have:=run_endLoop (P:=P) hu (by rw[hj];simp);rw[hj]at this;exact this,?_⟩;exact⟨g1,w.heap.size::Ds,by show[mkD w.heap.size]++a0.defers=_;rw[g2];rfl,hK .n _ h4 _ _ _ (by rw[<-g3];exact dF.refl)<|by rw[<-g3]at hd;exact hd _⟩
  |inr x=>
   rw[hO]at hs h4;obtain⟨hu,hd⟩:=close rD x u' w3 hs;refine⟨some<|tgC τ,_,by have:=run_endLoop (P:=P) hu (by rw[hn];simp);rw[hn]at this;exact this,?_⟩;have fin:∀o,zfz N Q (tgE τ) {a0 with defers:=[mkD w.heap.size]++a0.defers} (w3.putObj (w.heap.size+1) (.loop o)):=fun o=>⟨g1,w.heap.size::Ds,by show[mkD w.heap.size]++a0.defers=_;rw[g2];rfl,hK τ _ h4 _ _ _ (by rw[<-g3];exact dF.refl)<|by rw[<-g3]at hd;exact hd _⟩
   cases τ with
   |n=>exact wpIn_skip<|fin _
   |x i=>exact wpIn_exit<|fin _
   |r=>exact wpIn_ret<|fin _
end
end
section
section
variable{P:Program}{cf:Cf}
theorem Yc(hm:P.follows .mixedOrders=true)(hT:yZ P cf.tt)(hL:jN P cf.tt)(hC:∀s∈cf.cs,y6 P s)(hX:Aa P cf){n:Nat}:∀(c:Code),Nr n c=true->Ba P cf n c
 |.skip,_,R,r,fr,cx,σ,K,Q,N,hN,ha,h,Ds,env,w,hK,hR=>fun _ h1 h2 h3=>wpIn_skip ⟨h1,Ds,h2,h3▸hK .n σ h Ds env w dF.refl hR⟩
 |.label _,_,R,r,fr,cx,σ,K,Q,N,hN,ha,h,Ds,env,w,hK,hR=>fun _ h1 h2 h3=>wpIn_label ⟨h1,Ds,h2,h3▸hK .n σ h Ds env w dF.refl hR⟩
 |.exit id,_,R,r,fr,cx,σ,K,Q,N,hN,ha,h,Ds,env,w,hK,hR=>fun _ h1 h2 h3=>wpIn_exit ⟨h1,Ds,h2,h3▸hK (.x id) σ h Ds env w dF.refl hR⟩
 |.ret,_,R,r,fr,cx,σ,K,Q,N,hN,ha,h,Ds,env,w,hK,hR=>fun _ h1 h2 h3=>wpIn_ret ⟨h1,Ds,h2,h3▸hK .r σ h Ds env w dF.refl hR⟩
 |.scope c,ho,R,r,fr,cx,σ,K,Q,N,hN,ha,h,Ds,env,w,hK,hR=>by
  refine RN<|Yc hm hT hL hC hX c ho (K:=K) hN ha h (fun t σ' hk Ds' env' w' hs hR=> ?_) hR;have:=hK t σ' hk Ds' env' w' hs hR;cases t<;>exact this
 |.region id ops dr,ho,R,r,fr,cx,σ,K,Q,N,hN,ha,h,Ds,env,w,hK,hR=>by
  subst hN;refine zgr ?_;have:=zao (id:=id) (N:=N.wd Ds) (fr:=fr.wd Ds) hm hT hL hC hX (Q:=fun e env w=>Q e Ds env w) (k:=fun σ=>K .n σ) (fun σ' hk env' w' hs hR=>hK .n σ' hk Ds env' w' hs hR) ho h hR;rwa[xdh]at this
 |.cond c a b,ho,R,r,fr,cx,σ,K,Q,N,hN,ha,h,Ds,env,w,hK,hR=>by
  have ho:=(xao _ _).mp ho;have hd:N.rd=none\/C0 a=true:=ha.imp id fun h=>((xao _ _).mp h).1;have hf:N.rd=none\/C0 b=true:=ha.imp id fun h=>((xao _ _).mp h).2;simp only[aQ]at h;obtain⟨hB,vs,ht⟩:=hR;have hR:Zi P (fr.wd Ds) cx σ env w:=⟨hB,vs,ht⟩;obtain⟨S,_,hΓ⟩:=ht.ex;split at h
  ·next hv=>exact rQ (zk hv<|zY hΓ c)<|Yc hm hT hL hC hX a ho.1 hN hd h hK hR
  ·next hv=>exact rb (zk hv<|zY hΓ c)<|Yc hm hT hL hC hX b ho.2 hN hf h hK hR
  ·next x hv=>
   have hx:ev env c=.bool x:=eR<|zk hv<|zY hΓ c;rcases Ih h with⟨rfl,h⟩|⟨rfl,h⟩
   ·exact rQ hx<|Yc hm hT hL hC hX a ho.1 hN hd h hK hR
   ·exact rb hx<|Yc hm hT hL hC hX b ho.2 hN hf h hK hR
  ·cases h
 |.block id c,ho,R,r,fr,cx,σ,K,Q,N,hN,ha,h,Ds,env,w,hK,hR=>by
  refine Bu (Yc hm hT hL hC hX c ho (K:=fun t σ=>match t with
   |.x j=>Na (xap j id) (K .n σ)<|K (.x j) σ
   |t=>K t σ) hN ha h (fun t σ' hk Ds' env' w' hs hR=> ?_) hR)
  cases t with
  |n=>exact hK .n σ' hk Ds' env' w' hs hR
  |r=>exact hK .r σ' hk Ds' env' w' hs hR
  |x j=>
   simp only at hk;show En id Q (.exit j) Ds' env' w';simp only[En];cases hb:xap j id<;>rw[hb]at hk
   ·exact hK (.x j) σ' hk Ds' env' w' hs hR
   ·exact hK .n σ' hk Ds' env' w' hs hR
 |.seq a b,ho,R,r,fr,cx,σ,K,Q,N,hN,ha,h,Ds,env,w,hK,hR=>by
  have ho:=(xao _ _).mp ho;have hd:N.rd=none\/C0 a=true:=ha.imp id fun h=>((xao _ _).mp h).1;have hf:N.rd=none\/C0 b=true:=ha.imp id fun h=>((xao _ _).mp h).2;simp only[aQ]at h;split at h
  ·refine oc<|Yc hm hT hL hC hX a ho.1 hN hd h (fun t σ' hk Ds' env' w' hs hR=> ?_) hR
   cases t with
   |n=>exact Yc hm hT hL hC hX b ho.2 hN hf hk (fun t σ2 hi Ds2 env2 w2 hj hn=>hK t σ2 hi Ds2 env2 w2 (hs.trans hj) hn) hR
   |x j=>exact hK (.x j) σ' hk Ds' env' w' hs hR
   |r=>exact hK .r σ' hk Ds' env' w' hs hR
  ·next s hs=>
   obtain⟨x,h1,h2⟩:=rM h;obtain⟨hc,hp⟩:=tK (ag:=tZ a) (ro:=s.ro) hR
   refine oc (zaP (Yc hm hT hL hC hX a ho.1 (Q:=fun e Ds env' w=>∃t σt,e=tgE t/\(match t with
    |.n=>aQ cf b cx σt K
    |t=>K t σt)=some r/\dF cx env env'/\Zi P (fr.wd Ds) cx σt env' w) hN hd h1 (fun t σ' hk Ds' env' w' hs hR=> ?_) hp) ?_)
   ·obtain⟨y,σt,e1,e2,e3⟩:=Oj (P:=P) hc hk;cases e1
    have e4:=(e2 fun t σ=>match t with
     |.n=>aQ cf b cx σ K
     |t=>K t σ).symm.trans h2
    exact⟨t,σt,rfl,by cases t<;>exact e4,fun e he=>hs e<|Nm.2 (.inr he),e3 _ env' w' hR⟩
   ·rintro e Ds' env' w' ⟨t,σt,rfl,hk,hq,hR⟩
    cases t with
    |n=>exact Yc hm hT hL hC hX b ho.2 hN hf hk (fun t σ2 hi Ds2 env2 w2 hj hn=>hK t σ2 hi Ds2 env2 w2 (hq.trans hj) hn) hR
    |x j=>exact hK (.x j) σt hk Ds' env' w' hq hR
    |r=>exact hK .r σt hk Ds' env' w' hq hR
 |.loop c,ho,R,r,fr,cx,σ,K,Q,N,hN,ha,h,Ds,env,w,hK,hR=>by
  simp only[aQ]at h;split at h
  ·cases h
  ·next s hs=>
   obtain⟨hc,hp⟩:=tK (ag:=tZ c) (ro:=s.sg.ro) hR;obtain⟨x,h1,h2⟩:=lX (P:=P) (cx:=jz cx<|keep σ (tZ c) s.sg.ro) (kp:=⟨(keep σ (tZ c) s.sg.ro).nx,[],[]⟩) h<|Ed hc;obtain⟨s0,h3,h4⟩:=rM h1;refine HX (G:=Nat×WV s.hd.ds) (fun g Ds env' w=>zg _ g.1 g.2=some s0/\dF cx env env'/\Zi P (fr.wd Ds) (jz cx<|keep σ (tZ c) s.sg.ro) (Qv s.hd g.2 ⟨(keep σ (tZ c) s.sg.ro).nx,[],[]⟩) env' w) (fun g=>g.1) (cf.fu,x) ⟨h3,dF.refl,h2 _ env w hp⟩ ?_;rintro⟨n',x⟩ Ds env1 w ⟨hl,hA,hR⟩
   cases n' with
   |zero=>exact(Pa hl).elim
   |succ n'=>
    refine Yc hm hT hL hC hX c ho hN ha (Pc hl) (fun t σ' hk Ds' env' w' hs hR=> ?_) hR;have hu:dF cx env env':=hA.trans fun e he=>hs e<|Nm.2 (.inr he);have fin:(∀(y:SmD s.sg.tg) (σt:Sg),some y=some s0->(∀{R':Type} (K:Tg->Sg->Option R'),FC (keep σ (tZ c) s.sg.ro) K s.sg.tg y=K t σt)->Zi P (fr.wd Ds') cx σt env' w'->Q (tgE t) Ds' env' w'):=fun y σt e1 e2 e3=>by
     cases e1;exact hK t σt (by rw[<-h4];exact(e2 K).symm) Ds' env' w' hu e3
    cases t with
    |n=>
     obtain⟨x',h5,h6⟩:=lX (P:=P) (cx:=jz cx<|keep σ (tZ c) s.sg.ro) (kp:=⟨(keep σ (tZ c) s.sg.ro).nx,[],[]⟩) hk<|Ed hc;exact⟨(n',x'),⟨h5,hu,h6 _ env' w' hR⟩,xbY n'⟩
    |x j=>
     obtain⟨y,σt,e1,e2,e3⟩:=Oj (P:=P) hc hk;exact fin y σt e1 e2<|e3 _ env' w' hR
    |r=>
     obtain⟨y,σt,e1,e2,e3⟩:=Oj (P:=P) hc hk;exact fin y σt e1 e2<|e3 _ env' w' hR
 |.rangeFunc g ps a c,ho,R,r,fr,cx,σ,K,Q,N,hN,ha,h,Ds,env,w,hK,hR=>by
  have ho:=(xao _ _).mp ho;have hw:=(xao _ _).mp ho.2;simp only[aQ]at h;split at h
  ·next f cs s pt hg hs hI=>
   split at h
   ·next it τ sh hD hJ hE=>
    split at h
    ·next y hy=>
     obtain⟨hr,h⟩:=yh h;rw[xao]at hr;obtain⟨hF,hG⟩:=zav hD;subst hG;have hz:ps= #[pt]:=by cases ps;simp_all
     subst hz;have hH:pt<n:=by
      have:=ho.1;simpa using this
     subst hN;exact zeL hX (Yc hm hT hL hC hX a hw.1) (Yc hm hT hL hC hX c hw.2) hr.1 hr.2 (ha.resolve_right<|by simp[C0]) hH hg hF hy hE h hK hR
    ·cases h
   ·cases h
  ·cases h
 |.refuse _,_,R,r,fr,cx,σ,K,Q,N,hN,ha,h,_,_,_,_,_=>by cases h
 |.goto _,_,R,r,fr,cx,σ,K,Q,N,hN,ha,h,_,_,_,_,_=>by cases h
end
end
section
def qx:List Nat->World->World
 |[],w=>w
 |D::Ds,w=>qx Ds<|w.putObj D (.deferred none)
def pO:List Nat->World->Prop
 |[],_=>True
 |D::Ds,w=>w.heap[D]? =some (.deferred<|some [])/\pO Ds (w.putObj D (.deferred none))
def mTk(D:Nat):MF where
 blk k:=k=D
 p _ w:=w.heap[D]? =some (.deferred none)
 keep h _ hb:=(hb D rfl).trans h
 sub h _:=h
 lt h k hk:=by subst hk;exact(xbj.1 h).1
section
variable{P:Program}{cf:Cf}{fr:Fr}{cx σ:Sg}{env:yN}
theorem Vk:∀{Ds:List Nat}{w:World},Zi P (fr.wd Ds) cx σ env w->pO Ds w/\Zi P fr cx σ env (qx Ds w)
 |[],w,h=>⟨trivial,h⟩
 |D::Ds,w,h=>by
  have h1:w.heap[D]? =some (.deferred<|some []):=DG h (m:=wK D) (FS) fun S hp=>hp;have h2:=Fb (A:=[]) (m:=wK D) (m':=mTk D) (B:=Ds.map wK++fr.F) h (fun k=>Iff.rfl) (fun k h=>h) (o:=.deferred none) fun S w' h=>h;have h3:Zi P (fr.wd Ds) cx σ env (w.putObj D (.deferred none)):=by
   obtain⟨hB,vs,ha⟩:=h2;refine⟨hB,vs,?_⟩;have h4:St fr.we fr.Se ((MS vs σ.ob++MS vs cx.ob)++([mTk D]++(Ds.map wK++fr.F))) (RS P vs env σ.rg++(RS P vs env cx.rg++fr.G)) (w.putObj D (.deferred none)):=by
    have:St fr.we fr.Se (MS vs σ.ob++(MS vs cx.ob++([]++mTk D::(Ds.map wK++fr.F)))) (RS P vs env σ.rg++(RS P vs env cx.rg++fr.G)) (w.putObj D (.deferred none)):=ha;simpa only[xaj,xbA,xfy]using this
   have h5:=St.dropM h4;show St fr.we fr.Se (MS vs σ.ob++(MS vs cx.ob++(Ds.map wK++fr.F))) (RS P vs env σ.rg++(RS P vs env cx.rg++fr.G)) _;simpa only[xaj]using h5
  obtain⟨h4,h5⟩:=Vk h3;exact⟨⟨h1,h4⟩,h5⟩
theorem Ud{F:Fence}{n:Nat}{fn:Func}{tmps:Array Value}{Q:Ending->World->Prop}:∀{Ds:List Nat}{w:World},pO Ds w->(∃v,(results fn tmps).run P (qx Ds w)=.ok v (qx Ds w)/\Q (.returned v) (qx Ds w))->LeavesInM F n P fn tmps Q (Ds.map mkD) .returning w
 |[],w,_,h=>h
 |D::Ds,w,hm,h=>⟨by simp,.inl ⟨D,_,rfl,run_takeDeferred hm.1,Ud hm.2 h⟩⟩
theorem Jf{f:FuncId}{fn:Func}{c:Code}{args:List Value}{w:World}{Q:Ending->World->Prop}(hf:P.funcs[f]? =some fn)(hb:fn.body=some c)(hn:xfU args.length fn.ntmps=true)
 (h:∀rest,DA P (Nd.of fn.ntmps) c (fun e Ds env w=>(e=.normal\/e=.ret)/\pO Ds w/\∀a:Act,yr a=env->∃v,(results fn a.tmps).run P (qx Ds w)=.ok v (qx Ds w)/\Q (.returned v) (qx Ds w)) [] (L ((args.zipIdx 0).map fun x=>(x.2,x.1)) rest) w):
 Calls P f args.toArray w Q:=by
 have hn:=xbM hn;refine callsIn_wide.1<|callsIn_of_wp_marks (n:=0) hf hb trivial ?_;have ha:VW (yr ⟨args.toArray++xev (fn.ntmps-args.toArray.size) undef,[]⟩) ((args.zipIdx 0).map fun x=>(x.2,x.1)):=by
  refine c8 args 0 _ fun j=> ?_;rw[sA];simp[xbo,H1]
 refine wpIn_mono (h _ _ (by simp[Nd.of];lia) rfl (JA ha).symm) ?_;rintro e a' w' ⟨q1,Ds,q2,he,hm,hv⟩;obtain⟨v,h1,h2⟩:=hv a' rfl;rcases he with rfl|rfl
 ·show LeavesInM _ _ P fn a'.tmps Q a'.defers .returning w';rw[q2];exact Ud hm ⟨v,h1,h2⟩
 ·show LeavesInM _ _ P fn a'.tmps Q a'.defers .returning w';rw[q2];exact Ud hm ⟨v,h1,h2⟩
end
end
section
section
variable{P:Program}{cf:Cf}{fr:Fr}{σ:Sg}{vs:Nat->Value}{env:yN}{w:World}{R:Type}{r:R}
theorem Iw{rest:yN}:∀{l:List Value}{i j:Nat}{v:Value},l[j]? =some v->L ((l.zipIdx i).map fun x=>(x.2,x.1)) rest (i+j)=v
 |a::l,i,0,v,h=>by
  simp only[xbE,xaz]at h;simp[L,h]
 |a::l,i,j+1,v,h=>by
  simp only[List.zipIdx_cons,xbX,L];rw[zba (show i+(j+1)≠i by lia)];have:=Iw (rest:=rest) (l:=l) (i:=i+1) (j:=j) (v:=v) (by simpa using h);rw[show i+1+j=i+(j+1)by lia]at this;exact this
theorem M8:∀{dom:List AM}{x:aa dom}{i:Nat}{l:List Value},l.length=dom.length->(∀j v,l[j]? =some v->vs (i+j)=v)->MS vs (We dom x i).2=Y5 dom x l
 |[],_,_,_,_,_=>rfl
 |a::dom,x,i,[],hl,_=>by cases hl
 |a::dom,x,i,v::l,hl,h=>by
  have ih:MS vs (We dom x.2<|i+1).2=Y5 dom x.2 l:=M8 (by simpa using hl) fun j v hj=>by
   have:=h (j+1) v (by simpa using hj);rw[<-this];congr 1;lia
  have h0:vs i=v:=h 0 v rfl
  cases a with
  |own t E=>
   show mO t.rep E (vs i) x.1::MS vs (We dom x.2<|i+1).2=mO t.rep E v x.1::Y5 dom x.2 l;rw[ih,h0]
  |_=>exact ih
theorem Ns{S:Nat->Prop}:∀{dom:List AM}{x:aa dom}{i:Nat}{l:List Value},l.length=dom.length->(∀j v,l[j]? =some v->vs (i+j)=v/\env (i+j)=v)->zA S (kU P dom x l) w->zA S (RS P vs env (We dom x i).1) w
 |[],_,_,_,_,_,_=>trivial
 |a::dom,x,i,[],hl,_,_=>by cases hl
 |a::dom,x,i,v::l,hl,h,hA=>by
  have ih:zA S (RS P vs env (We dom x.2<|i+1).1) w:=Ns (l:=l) (by simpa using hl) (fun j v hj=>by
   have:=h (j+1) v (by simpa using hj);rw[show i+1+j=i+(j+1)by lia];exact this) hA.2
  have h0:vs i=v/\env i=v:=h 0 v rfl;have ha:(amF P a x.1 v).p S w:=hA.1
  cases a with
  |d t=>exact⟨show(fV t.rep x.1<|env i).p S w by rw[h0.2];exact ha,ih⟩
  |q t=>exact⟨show(fP t.rep x.1<|env i).p S w by rw[h0.2];exact ha,ih⟩
  |own t E=>exact⟨show env i=vs i by rw[h0.1,h0.2],ih⟩
  |fn dom' cod'=>exact⟨show(fnF P dom' cod' x.1<|env i).p S w by rw[h0.2];exact ha,ih⟩
theorem M9:∀{dom:List AM}{x:aa dom}{i:Nat},∀e∈(We dom x i).2,e.1<i+dom.length
 |[],_,_,e,he=>absurd he IR
 |a::dom,x,i,e,he=>by
  have ih:∀e∈(We dom x.2<|i+1).2,e.1<i+(a::dom).length:=fun e he=>by
   have:=M9 e he;simp only[xaq];lia
  cases a with
  |own t E=>
   rcases xac.1 (show e∈(i,Od.own t E x.1)::(We dom x.2<|i+1).2 from he)with rfl|he
   ·simp only[xaq];lia
   ·exact ih e he
  |_=>exact ih e he
theorem Ee:∀{dom:List AM}{x:aa dom}{i:Nat},∀e∈(We dom x i).1,∀p,wj e.2.2=some p->p<i+dom.length
 |[],_,_,e,he=>absurd he IR
 |a::dom,x,i,e,he=>by
  intro p hp;have ih:∀e∈(We dom x.2<|i+1).1,∀p,wj e.2.2=some p->p<i+(a::dom).length:=fun e he p hp=>by
   have:=Ee e he p hp;simp only[xaq];lia
  cases a with
  |own t E=>
   rcases xac.1 (show e∈(i,0,Dv.ow i)::(We dom x.2<|i+1).1 from he)with rfl|he
   ·cases hp;simp only[xaq];lia
   ·exact ih e he p hp
  |d t=>
   rcases xac.1 (show e∈(i,0,Dv.d t x.1)::(We dom x.2<|i+1).1 from he)with rfl|he
   ·cases hp
   ·exact ih e he p hp
  |q t=>
   rcases xac.1 (show e∈(i,0,Dv.q t x.1)::(We dom x.2<|i+1).1 from he)with rfl|he
   ·cases hp
   ·exact ih e he p hp
  |fn d c=>
   rcases xac.1 (show e∈(i,0,Dv.fp d c x.1)::(We dom x.2<|i+1).1 from he)with rfl|he
   ·cases hp
   ·exact ih e he p hp
theorem Ui:∀(l:List ResultVar) (ms:List RM) {σ:Sg},Zi P fr ⟨0,[],[]⟩ σ env w->Zi P fr ⟨0,[],[]⟩ (U3 σ l ms) env w
 |[],_,_,h=>by unfold U3;exact h
 |.tmp t::l,[],_,h=>by unfold U3;exact h
 |.tmp t::l,.d _::ms,_,h=>by unfold U3;exact Ui l ms<|C4 _ h
 |.tmp t::l,.own _ _::ms,_,h=>by unfold U3;exact Ui l ms h
 |.cell t E::l,[],_,h=>by unfold U3;exact h
 |.cell t E::l,m::ms,_,h=>by unfold U3;exact Ui l ms h
theorem SV(hT:yZ P cf.tt){rv:ResultVar}{m:RM}{k:m.D->List Nat->Option R}(h:Ft cf σ rv m k=some r):∃x os,k x os=some r/\
 ∀vs (fr:Fr) env (A:List MF) (Γ:List FF) w (os':List Nat),(∀S w,zA S Γ w->∀t,Lk P vs env S w ⟨0,[],[]⟩ σ t)->(∀o∈os,b5 os' o=false)->St fr.we fr.Se (A++OS vs fr ⟨0,[],[]⟩ (w8 σ.ob os')) Γ w->
  ∃v,zec P w env rv v/\St fr.we fr.Se (rmM m x v++(A++OS vs fr ⟨0,[],[]⟩ (w8 σ.ob<|os++os'))) (rmF m x v++Γ) w:=by
 cases rv with
 |tmp t=>
  cases m with
  |d s=>
   simp only[Ft]at h;have hc:=h;obtain⟨y,h,hy⟩:=zaM h;refine⟨y,[],h,fun vs fr env A Γ w os' hl _ ha=>⟨env t,rfl,?_⟩⟩;refine ha.weak fun S w hΓ=>⟨?_,hΓ⟩
   cases hg:get ⟨0,[],[]⟩ σ t 0 with
   |none=>rw[hg]at hc;cases hc
   |some v=>exact hy P vs S w v _ hg<|hl S w hΓ t 0 v hg
  |own s E=>
   simp only[Ft]at h;obtain⟨x,os,h1,_,h2,h3⟩:=MC h;refine⟨x,os,h1,fun vs fr env A Γ w os' hl hn ha=>⟨env t,rfl,?_⟩⟩;exact h3 P vs fr env A Γ w os' (fun S w hΓ=>hl S w hΓ t) hn ha
 |cell t E=>
  cases m with
  |own s E'=>simp only[Ft]at h;cases h
  |d s=>
   simp only[Ft]at h;split at h
   ·next o s0 ti hg he=>
    split at h
    ·next s' E' z ho=>
     obtain⟨hE,h1⟩:=yh h;have hE:=z8 hE;subst hE;obtain⟨e,h2⟩:=yi h1;cases e;obtain⟨e,h3⟩:=yi h2;cases e;refine⟨_,[o],h3,fun vs fr env A Γ w os' hl hn ha=> ?_⟩;have hp:=kT (vs:=vs) (fr:=fr) (cx:=⟨0,[],[]⟩)<|(jW<|hn o<|FS).trans ho;have h3:=St.mid<|St.perm ha<|xcf _ hp;obtain⟨S,_,hΓ⟩:=ha.ex;obtain⟨hv,b,hb⟩:=hl S w hΓ t 0 _ hg;obtain⟨⟨zero,ht,_⟩,_⟩:=hT E ti he;have h4:St fr.we fr.Se (mP ti.ty.rep.c E (vs o) z::(A++OS vs fr ⟨0,[],[]⟩ (yD (w8 σ.ob os') o))) Γ w:=h3;obtain⟨b',hd,h5⟩:=h4.openP 0 rfl;rw[hb]at hd;cases hd;refine zaQ 0 h5 rfl (hv.trans hb) ht fun v hs hr=>⟨v,hr,?_⟩;exact St.drop (i:=0) hs
    ·cases h
   ·cases h
theorem M7(hT:yZ P cf.tt):∀{rvs:List ResultVar}{cod:List RM}{k:dm cod->List Nat->Option R},Hz cf σ rvs cod k=some r->∃x os,k x os=some r/\
 ∀vs (fr:Fr) env (Γ:List FF) w,(∀S w,zA S Γ w->∀t,Lk P vs env S w ⟨0,[],[]⟩ σ t)->St fr.we fr.Se (OS vs fr ⟨0,[],[]⟩ σ.ob) Γ w->
  ∃us,us.length=cod.length/\UA P w env rvs us/\St fr.we fr.Se (Zc cod x us++OS vs fr ⟨0,[],[]⟩ (w8 σ.ob os)) (Zb cod x us++Γ) w
 |[],[],k,h=>⟨(),[],h,fun vs fr env Γ w _ ha=>⟨[],rfl,trivial,ha⟩⟩
 |[v],[m],k,h=>by
  obtain⟨x,os,h1,h2⟩:=SV hT (h:Ft cf σ v m k=some r);refine⟨x,os,h1,fun vs fr env Γ w hl ha=> ?_⟩;obtain⟨u,h3,h4⟩:=h2 vs fr env [] Γ w [] hl (fun _ _=>rfl) ha;rw[xbR]at h4;exact⟨[u],rfl,⟨h3,trivial⟩,h4⟩
 |v::v'::rvs,m::m'::ms,k,h=>by
  obtain⟨x,o,h1,h2⟩:=SV hT (h:Ft cf σ v m _=some r);obtain⟨y,os,h3,h4⟩:=M7 hT h1;obtain⟨hn,h3⟩:=yh h3;refine⟨(x,y),o++os,h3,fun vs fr env Γ w hl ha=> ?_⟩;obtain⟨us,h5,h6,h7⟩:=h4 vs fr env Γ w hl ha;obtain⟨u,h8,h9⟩:=h2 vs fr env (Zc (m'::ms) y us) (Zb (m'::ms) y us++Γ) w os (fun S w hΓ=>hl S w<|zA.right hΓ) (DJ hn) h7;refine⟨u::us,by simpa using h5,⟨h8,h6⟩,?_⟩;show St _ _ ((rmM m x u++Zc (m'::ms) y us)++_) ((rmF m x u++Zb (m'::ms) y us)++Γ) w;rw[xaj,xaj];exact h9
 |[],_::_,_,h=>by cases h
 |[_],[],_,h=>by cases h
 |[_],_::_::_,_,h=>by cases h
 |_::_::_,[],_,h=>by cases h
 |_::_::_,[_],_,h=>by cases h
theorem M5(hm:P.follows .mixedOrders=true)(hT:yZ P cf.tt)(hL:jN P cf.tt)(hC:∀s∈cf.cs,y6 P s)(hX:Aa P cf){s:VB}{fn:Func}
 (hf:P.funcs[s.f]? =some fn) (hb:Ab P s.f=true) (hk:s.bk=0) (hM:∀x r,s.M x=some r->MZ cf fn s.dom s.cod x=some r):y6 P s:=by
 refine⟨hb,fun x r h vs hd=> ?_⟩;rw[hk];show Om P s.f vs.toArray (Y5 s.dom x vs) (kU P s.dom x vs) Yg (fun us=>Zc s.cod r us) (fun us=>Zb s.cod r us) (fun us=>us.length=s.cod.length);have h:=hM x r h;unfold MZ at h;split at h
 ·next c hc=>
  obtain⟨ho,h⟩:=yh h;rw[xao]at ho;intro we Se F G w hg;refine Jf hf hc (by rw[hd];exact ho.2) fun rest=> ?_;refine Yc (fr:=⟨we,Se,F,G⟩) (N:=Nd.of fn.ntmps) hm hT hL hC hX c ho.1 rfl (.inl rfl) h (fun t σ' hk Ds env w _ hR=> ?_) ?_
  ·obtain⟨hi,hR⟩:=Vk hR
   have fin:Hz cf (U3 σ' fn.results.toList s.cod) fn.results.toList s.cod (fun y _=>some y)=some r->∀a:Act,yr a=env->
    ∃v,(results fn a.tmps).run P (qx Ds w)=.ok v (qx Ds w)/\∃u:List Value,xeA v=.returned (Yg u)/\u.length=s.cod.length/\St we Se (Zc s.cod r u++F) (Zb s.cod r u++G) (qx Ds w):=fun h a ha=>by
    have hl:=Ui fn.results.toList s.cod hR;generalize U3 σ' fn.results.toList s.cod=σ1 at h hl;obtain⟨hB,vs,hg⟩:=hl;obtain⟨y,os,e1,e2⟩:=M7 hT h;cases e1;obtain⟨us,h1,h2,h3⟩:=e2 vs ⟨we,Se,F,G⟩ env _ _ (fun S w hΓ t=>Yh hΓ t) hg;refine⟨_,Xb (rs:=fn.results.toList) (by rw[xdh])<|ha▸h2,us,rfl,h1,?_⟩;exact(St.dropM (B:=MS vs<|w8 σ1.ob os) h3).weak fun S w hΓ=>zA.append (zA.left hΓ)<|zA.right<|zA.right hΓ
   cases t with
   |n=>exact⟨.inl rfl,hi,fin hk⟩
   |r=>exact⟨.inr rfl,hi,fin hk⟩
   |x j=>cases hk
  ·have e0:∀j v,vs[j]? =some v->vs.getD (0+j) undef=v:=fun j v hj=>by rw[xaN,H1,hj];rfl
   refine⟨⟨fun e he=> ?_,fun _ he=>absurd he IR,fun e he p hp=> ?_,fun _ he=>absurd he IR⟩,fun o=>vs.getD o undef,?_⟩
   ·have:=M9 e he;simpa using this
   ·have:=Ee e he p hp;simpa using this
   ·have e1:MS (fun o=>vs.getD o undef) (We s.dom x 0).2=Y5 s.dom x vs:=M8 hd e0;show St we Se (MS _ (We s.dom x 0).2++([]++F)) _ w;rw[e1];exact hg.weak fun S w hΓ=>zA.append (Ns hd (fun j v hj=>⟨e0 j v hj,Iw hj⟩)<|zA.left hΓ)<|zA.right hΓ
 ·cases h
theorem zch{S:Nat->Prop}{pn:Nat->Value}:∀{dom:List AM}{i:Nat},(∀j,j<dom.length->env (i+j)=pn (i+j))->zA S (RS P vs env<|DD pn dom i) w
 |[],_,_=>trivial
 |a::dom,i,h=>by
  have ih:zA S (RS P vs env<|DD pn dom<|i+1) w:=zch fun j hj=>by
   have:=h (j+1) (by simp only[xaq];lia);rw[show i+1+j=i+(j+1)by lia];exact this
  cases a with
  |own t E=>exact⟨h 0 (by simp),ih⟩
  |_=>exact ih
theorem eo{S:Nat->Prop}{l:List Value}:∀{dom:List AM}{i:Nat}{us:List Value},zA S (RS P vs env<|DD (fun o=>l.getD o undef) dom i) w->UA P w env (Dm dom i) us->us=UY dom (l.drop i)
 |[],_,[],_,_=>rfl
 |[],_,_::_,_,h=>h.elim
 |a::dom,i,us,hA,h=>by
  have e0:(l.drop i).headD undef=l.getD i undef:=by rw[List.headD_eq_head?_getD,List.head?_drop,H1]
  have e1:(l.drop i).tail=l.drop (i+1):=by rw[List.tail_drop]
  cases a with
  |own t E=>
   cases us with
   |nil=>exact h.elim
   |cons u us=>
    have h1:env i=u:=h.1;have h2:env i=l.getD i undef:=hA.1;have ih:=eo (dom:=dom) (i:=i+1) hA.2 h.2;show u::us=(l.drop i).headD undef::UY dom (l.drop i).tail;rw[e0,e1,<-ih,<-h1,h2]
  |d t=>
   have ih:=eo (dom:=dom) (i:=i+1) hA h;show us=UY dom (l.drop i).tail;rw[e1];exact ih
  |q t=>
   have ih:=eo (dom:=dom) (i:=i+1) hA h;show us=UY dom (l.drop i).tail;rw[e1];exact ih
  |fn d c=>
   have ih:=eo (dom:=dom) (i:=i+1) hA h;show us=UY dom (l.drop i).tail;rw[e1];exact ih
theorem py:∀{a b:List ResultVar}{us:List Value},UA P w env (a++b) us->UA P w env a (us.take a.length)/\UA P w env b (us.drop a.length)
 |[],b,us,h=>⟨trivial,h⟩
 |r::a,b,[],h=>h.elim
 |r::a,b,u::us,h=>by
  obtain⟨h1,h2⟩:=py (a:=a) (b:=b) h.2;exact⟨⟨h.1,h1⟩,h2⟩
theorem gB{pn:Nat->Value}:∀{dom:List AM}{i:Nat},∀e∈DD pn dom i,wj e.2.2=none
 |[],_,e,he=>absurd he IR
 |a::dom,i,e,he=>by
  cases a with
  |own t E=>
   rcases xac.1 (show e∈(i,0,Dv.pin<|pn i)::DD pn dom (i+1)from he)with rfl|he
   ·rfl
   ·exact gB e he
  |d t=>exact gB (dom:=dom) (i:=i+1) e he
  |q t=>exact gB (dom:=dom) (i:=i+1) e he
  |fn d c=>exact gB (dom:=dom) (i:=i+1) e he
theorem zhZ(hm:P.follows .mixedOrders=true)(hT:yZ P cf.tt)(hL:jN P cf.tt)(hC:∀s∈cf.cs,y6 P s)(hX:Aa P cf){s:VB}{fn:Func}
 (hf:P.funcs[s.f]? =some fn) (hb:Ab P s.f=true) (hM:∀pn x r,s.M x=some r->zeh cf fn s.dom s.cod s.bk pn x=some r):y6 P s:=by
 refine⟨hb,fun x r h vs hd=> ?_⟩;have h:=hM (fun o=>vs.getD o undef) x r h;unfold zeh at h;split at h
 ·next c hc=>
  obtain⟨ho,h⟩:=yh h;simp only[xao]at ho;obtain⟨⟨⟨⟨hx,hy⟩,hq⟩,hE⟩,hr⟩:=ho;have hq:=z8 hq;have hr:0<s.bk:=Nat.blt_eq.mp hr;obtain⟨b,hz⟩:∃b,s.bk=b+1:=⟨s.bk-1,by lia⟩;rw[hz];intro we Se F G w hl;refine Jf hf hc (by rw[hd];exact hy) fun rest=> ?_;have e0:∀j v,vs[j]? =some v->vs.getD (0+j) undef=v:=fun j v hj=>by rw[xaN,H1,hj];rfl
  refine Yc (fr:=⟨we,Se,F,G⟩) (N:=Nd.of fn.ntmps) hm hT hL hC hX c hx rfl (.inl rfl) h (fun t σ' hk Ds env w _ hR=> ?_) ?_
  ·obtain⟨hs,hR⟩:=Vk hR
   have fin:Hz cf (U3 σ' (fn.results.toList++Dm s.dom 0) s.cod) (fn.results.toList++Dm s.dom 0) s.cod (fun y _=>some y)=some r->∀a:Act,yr a=env->
    ∃v,(results fn a.tmps).run P (qx Ds w)=.ok v (qx Ds w)/\∃u:List Value,xeA v=.returned (zjx (b+1) s.cod.length u)/\zfG s.dom vs (b+1) s.cod.length u/\St we Se (Zc s.cod r u++F) (Zb s.cod r u++G) (qx Ds w):=fun h a ha=>by
    obtain⟨ht,vs0,hi⟩:=hR;obtain⟨S0,_,hA⟩:=hi.ex;have hu:zA S0 (RS P vs0 env<|DD (fun o=>vs.getD o undef) s.dom 0) _:=zA.left<|zA.right hA;have hD:Zi P ⟨we,Se,F,G⟩ ⟨0,[],[]⟩ σ' env (qx Ds w):=⟨⟨ht.o1,fun _ he=>absurd he IR,ht.r1,fun _ he=>absurd he IR⟩,vs0,hi.weak fun S w ha=>zA.append (zA.left ha)<|zA.right<|zA.right ha⟩;have hv:=Ui (fn.results.toList++Dm s.dom 0) s.cod hD;generalize U3 σ' (fn.results.toList++Dm s.dom 0) s.cod=σ1 at h hv;obtain⟨hB,vs1,hl⟩:=hv;obtain⟨y,os,e1,e2⟩:=M7 hT h;cases e1;obtain⟨us,h1,h2,h3⟩:=e2 vs1 ⟨we,Se,F,G⟩ env _ _ (fun S w hΓ t=>Yh hΓ t) hl;obtain⟨h4,h5⟩:=py h2;have hn:s.cod.length-(b+1)=fn.results.toList.length:=by lia
    have hg:=eo hu h5;rw[List.drop_zero]at hg;refine⟨_,Xb (rs:=fn.results.toList) (by rw[xdh])<|ha▸h4,us,?_,⟨h1,by rw[hn];exact hg⟩,?_⟩
    ·show xeA _=.returned (Yg<|us.take<|s.cod.length-(b+1));rw[hn]
    ·exact(St.dropM (B:=MS vs1<|w8 σ1.ob os) h3).weak fun S w hΓ=>zA.append (zA.left hΓ)<|zA.right<|zA.right hΓ
   cases t with
   |n=>exact⟨.inl rfl,hs,fin hk⟩
   |r=>exact⟨.inr rfl,hs,fin hk⟩
   |x j=>cases hk
  ·refine⟨⟨fun e he=> ?_,fun _ he=>absurd he IR,fun e he p hp=> ?_,fun e he p hp=> ?_⟩,fun o=>vs.getD o undef,?_⟩
   ·have:=M9 e he;simpa using this
   ·have:=Ee e he p hp;simpa using this
   ·rw[gB e he]at hp;cases hp
   ·have e1:MS (fun o=>vs.getD o undef) (We s.dom x 0).2=Y5 s.dom x vs:=M8 hd e0;show St we Se (MS _ (We s.dom x 0).2++([]++F)) _ w;rw[e1];refine hl.weak fun S w hΓ=>zA.append (Ns hd (fun j v hj=>⟨e0 j v hj,Iw hj⟩)<|zA.left hΓ)<|zA.append (zch fun j hj=> ?_)<|zA.right hΓ;have hw:vs[j]? =some (vs[j]'(by lia)):=xaa (by lia);show L _ _ (0+j)=vs.getD (0+j) undef;rw[e0 j _ hw];exact Iw hw
 ·cases h
end
end
section
section
variable{P:Program}
def zc:Ty->List Value
 |.i=>[.int .i64 0]
 |.u=>[.int .u64 0]
 |.b=>[.bool false]
 |.ch=>[.int .u8 0]
 |.tx=>[.string ByteArray.empty]
 |.l _=>[.slice none 0 0]
 |.p s t=>zc s++zc t
 |.a k t=>(xaf k<|zc t).flatten
theorem Pq{α:Type}{e:zZ α}{S:Nat->Prop}{w:World}{x:α}{c:List Value}(h:e.p S x c w):∀k,yu e S (xaf k x) (xaf k c).flatten w
 |0=>rfl
 |k+1=>⟨c,_,rfl,h,Pq h k⟩
theorem ze1(S:Nat->Prop)(w:World):∀t:Ty,t.rep.p S t.z (zc t) w
 |.i=>⟨rfl,show(-9223372036854775808:Int)<=0 by decide,show(0:Int)<=9223372036854775807 by decide⟩
 |.u=>⟨rfl,show(0:Nat)<18446744073709551616 by decide⟩
 |.b=>rfl
 |.ch=>⟨rfl,show(0:Nat)<256 by decide⟩
 |.tx=>⟨ByteArray.empty,rfl,rfl,by decide⟩
 |.l _=>⟨_,rfl,Sw.nil⟩
 |.p s t=>⟨_,_,rfl,ze1 S w s,ze1 S w t⟩
 |.a k t=>⟨xaZ,Pq (ze1 S w t) k⟩
def zf0(P:Program)(t n:Nat):(List (Option Nat)×List (Option<|Nat×Bool×Nat))×Option (List<|Option<|Nat×Nat):=(((xbc n).map fun i=>Nc P t i,(xbc n).map fun i=>zb0 P t i),match plB P t with
 |some a=>some<|a.toList.map some
 |none=>none)
def zcN(ty:Ty)(n:Nat):(List (Option Nat)×List (Option<|Nat×Bool×Nat))×Option (List<|Option<|Nat×Nat):=(((xbc n).map fun i=>(Q6 n ty i).map (·.off),(xbc n).map fun i=>(Q6 n ty i).map fun f=>(f.off,f.f.rep.agg,f.f.n)),some<|(xbc n).map fun i=>(Q6 n ty i).map fun f=>(f.off,f.f.n))
def Gr(P:Program)(t:TypeId)(ti:TI):Prop:=match ti.k with
 |.int k=>P.underlying t=some (.int k)
 |.bool=>P.underlying t=some .bool
 |.str=>P.underlying t=some .string
 |.sl E=>P.underlying t=some (.slice E)/\∃e,ti.ty=.l e
 |.st n=>ti.ty.rep.agg=true/\zf0 P t n=zcN ti.ty n
 |.ar k E=>ti.ty.rep.agg=true/\P.underlying t=some (.array k E)
theorem E7:∀{n:Nat}{t:Ty}{i:Nat}{f:Fl t.D},Q6 n t i=some f->i<n
 |0,_,_,_,h=>by simp[Q6]at h
 |1,t,i,f,h=>by
  simp only[Q6]at h;cases hb:xap i 0<;>rw[hb]at h
  ·cases h
  ·rw[z8 hb];exact xec
 |n+2,.p s t,0,f,h=>Nat.succ_pos _
 |n+2,.p s t,i+1,f,h=>by
  simp only[Q6]at h;split at h
  ·next f' hf=>exact Nat.succ_lt_succ<|E7 hf
  ·cases h
 |n+2,.i,_,_,h=>by simp[Q6]at h
 |n+2,.u,_,_,h=>by simp[Q6]at h
 |n+2,.b,_,_,h=>by simp[Q6]at h
 |n+2,.l _,_,_,h=>by simp[Q6]at h
 |n+2,.a _ _,_,_,h=>by simp[Q6]at h
 |n+2,.ch,_,_,h=>by simp[Q6]at h
 |n+2,.tx,_,_,h=>by simp[Q6]at h
theorem TG.of{t:TypeId}{ti:TI}(h:Gr P t ti):TG P t ti:=by
 unfold Gr at h;unfold TG;split at h
 ·next h0=>simp only[h0];exact h
 ·next h0=>simp only[h0];exact h
 ·next h0=>simp only[h0];exact h
 ·next h0=>simp only[h0];exact h
 ·next n h0=>
  simp only[h0];obtain⟨h1,h⟩:=h;have h2:=congrArg (fun q=>q.1.1) h;have ha:=congrArg (fun q=>q.1.2) h;have h3:=congrArg Prod.snd h;simp only[zf0,zcN]at h2 ha h3;refine⟨h1,fun i f hf=> ?_,?_,fun i f hf=> ?_⟩;rotate_left 2
  ·have:=congrArg (fun l:List (Option<|Nat×Bool×Nat)=>l[i]?) ha;simp only[xaT,xby<|E7 hf,Option.map_some,hf]at this;simpa using this
  ·have:=congrArg (fun l:List (Option Nat)=>l[i]?) h2;simp only[xaT,xby<|E7 hf,Option.map_some,hf]at this;simpa using this
  ·cases hp:plB P t with
   |none=>
    rw[hp]at h3;cases h3
   |some a=>
    rw[hp]at h3;simp only[xaz]at h3;obtain⟨fs,h4,h5⟩:=zeg hp;refine⟨fs,h4,a,h5,fun i f hf=> ?_⟩;have:=congrArg (fun l:List (Option<|Nat×Nat)=>l[i]?) h3;simp only[xaT,xby<|E7 hf,Option.map_some,hf]at this;rw[<-Array.getElem?_toList]
    cases hx:a.toList[i]? with
    |none=>rw[hx]at this;cases this
    |some q=>rw[hx]at this;simpa using this
 ·next h0=>simp only[h0];exact h
theorem zae.of{t:TypeId}{ti:TI}(h1:tyB P t=some (ti.ty.rep.agg,ti.ty.n,ti.B,some<|ti.ty.rep.val<|zc ti.ty))(h2:(xdc 0 ti.B && xdc 0 ti.ty.n)=true)(h3:Gr P t ti):zae P t ti:=by
 rw[xao]at h2;have hz:=fun S w=>ze1 S w ti.ty;refine⟨⟨_,(by rw[Ty.n_rep];exact X3.of h1),?_,fun S w=> ?_,fun s hs=>by rw[hs];rfl⟩,xbM h2.1,(by rw[Ty.n_rep];exact xbM h2.2),TG.of h3⟩
 ·rw[<-xeT,zZ.val_cells _<|hz (fun _=>True) default,ti.ty.rep.len<|hz (fun _=>True) default]
 ·rw[zZ.val_cells _<|hz S w];exact hz S w
theorem yZ.nil:yZ P []:=fun _ _ h=>by cases h
theorem yZ.cons{t:TypeId}{ti:TI}{tt:List (Nat×TI)}(h:zae P t ti)(k:yZ P tt):yZ P ((t,ti)::tt):=by
 intro t' ti' hf;unfold J3 at hf;cases hb:xap t t'<;>rw[hb]at hf
 ·exact k t' ti' hf
 ·cases hf;rw[<-z8 hb];exact h
theorem yZ.add{t:TypeId}{ti:TI}{tt:List (Nat×TI)}(h1:tyB P t=some (ti.ty.rep.agg,ti.ty.n,ti.B,some<|ti.ty.rep.val<|zc ti.ty))(h2:(xdc 0 ti.B && xdc 0 ti.ty.n)=true)(h3:Gr P t ti)(k:yZ P tt):yZ P ((t,ti)::tt):=yZ.cons (zae.of h1 h2 h3) k
def elB(tt:List (Nat×TI)):List (Nat×TI)->Bool
 |[]=>true
 |(_,⟨.l s,.sl E,_⟩)::r=>(match J3 tt E with
  |some ti=>(Ty.same ti.ty s).isSome
  |none=>false) && elB tt r
 |_::r=>elB tt r
theorem jN.of'{tt:List (Nat×TI)}:∀{l:List (Nat×TI)},elB tt l=true->∀t s E B,J3 l t=some ⟨.l s,.sl E,B⟩->∃ti,J3 tt E=some ti/\ti.ty=s
 |[],_,_,_,_,_,h=>by cases h
 |(t',ti')::r,h,t,s,E,B,hf=>by
  have hr:elB tt r=true:=by
   unfold elB at h;split at h
   ·cases‹_::_=[]›
   ·next hh=>cases hh;rw[xao]at h;exact h.2
   ·next hh=>cases hh;exact h
  unfold J3 at hf;cases hb:xap t' t<;>rw[hb]at hf
  ·exact jN.of' hr t s E B hf
  ·cases hf;unfold elB at h;simp only[xao]at h;have h:=h.1;split at h
   ·next ti he=>
    refine⟨ti,he,?_⟩
    cases hs:Ty.same ti.ty s with
    |none=>rw[hs]at h;cases h
    |some p=>exact p.down
   ·cases h
theorem jN.of{tt:List (Nat×TI)}(h:elB tt tt=true):jN P tt:=fun t s E B=>jN.of' h t s E B
theorem cc.nil:cc P []:=fun _ _ h=>by cases h
theorem cc.add{f:Nat}{b:Bool}{ex:List (Nat×Bool)}{fn:Func}(h0:P.funcs[f]? =some fn)(h1:(fn.name== "runtime.NumGoroutine")=false)(h2:fn.body=none)(h3:(xey fn).isNone=true)
 (h4:b=true->xeV fn=some (fun args=>do
  let(x,y,c)<-xbQ "Add64" args
  pure (xbU ((x+y+c)%xaY)<|(x+y+c)/xaY)))
 (h5:b=false->xeV fn=some (fun args=>do
  let(x,y,b)<-xbQ "Sub64" args
  pure (xbU ((x+xaY-y-b)%xaY) (if x<y+b then 1 else 0)))) (k:cc P ex):cc P ((f,b)::ex):=by
 intro f' b' hf;unfold J3 at hf;cases hb:xap f f'<;>rw[hb]at hf
 ·exact k f' b' hf
 ·cases hf;rw[<-z8 hb];exact⟨fn,h0,h1,h2,h3,h4,h5⟩
theorem cN:∀s∈([]:List VB),y6 P s:=fun _ h=>absurd h IR
theorem cC{s:VB}{l:List VB}(h:y6 P s)(k:∀s∈l,y6 P s):∀q∈s::l,y6 P q:=by grind
theorem sg0{s:VB}(hb:Ab P s.f=true)(hM:∀x,s.M x=none):y6 P s:=⟨hb,fun x r h=>by rw[hM x]at h;cases h⟩
theorem Aa.of{tt:List (Nat×TI)}{ex:List (Nat×Bool)}{cs:List VB}{an:An}{fu:Nat}(hX:cc P ex)(hp:P=Tryz.prog):Aa P ⟨tt,cs,an,fu,ex,[],[],[]⟩:=⟨hX,fun _ h=>absurd h IR,fun _ h=>absurd h IR,fun _ h=>absurd h IR,hp⟩
theorem sgP(hm:P.follows .mixedOrders=true){tt:List (Nat×TI)}{ex:List (Nat×Bool)}(hT:yZ P tt)(hL:jN P tt)(hX:cc P ex)(hp:P=Tryz.prog){cs:List VB}(an:An){fu:Nat}{s:VB}{fn:Func}(hf:P.funcs[s.f]? =some fn)(hC:∀s∈cs,y6 P s)(hb:Ab P s.f=true)(hk:s.bk=0)(hM:∀x,MZ ⟨tt,cs,an,fu,ex,[],[],[]⟩ fn s.dom s.cod x=s.M x):y6 P s:=
 M5 (cf:=⟨tt,cs,an,fu,ex,[],[],[]⟩) hm hT hL hC (.of hX hp) hf hb hk fun x r h=>(hM x).trans h
theorem sgG(hm:P.follows .mixedOrders=true){tt:List (Nat×TI)}{ex:List (Nat×Bool)}(hT:yZ P tt)(hL:jN P tt)(hX:cc P ex)(hp:P=Tryz.prog){cs:List VB}(an:An){fu:Nat}{s:VB}{fn:Func}(hf:P.funcs[s.f]? =some fn)(hC:∀s∈cs,y6 P s)(hb:Ab P s.f=true)(hM:∀pn x,zeh ⟨tt,cs,an,fu,ex,[],[],[]⟩ fn s.dom s.cod s.bk pn x=s.M x):y6 P s:=
 zhZ (cf:=⟨tt,cs,an,fu,ex,[],[],[]⟩) hm hT hL hC (.of hX hp) hf hb fun pn x r h=>(hM pn x).trans h
end
end
end Go.Proofs.YtmggkmchbdanfaaGreat
