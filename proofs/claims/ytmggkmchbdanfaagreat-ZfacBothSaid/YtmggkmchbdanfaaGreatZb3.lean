/- What a proof needs: rules of walking, mirrors of functions and their plain laws. No condition. -/
import Derived.Test.YtmggkmchbdanfaaGreatZb2
import Derived.RangeFuncLeaves
set_option linter.unusedVariables false
set_option linter.unusedSimpArgs false
namespace Go.Proofs.YtmggkmchbdanfaaGreat
open Bool renaming and_eq_true->xam,false_eq_true->xak,false_or->xei,not_eq_true'->xdn,not_true->xdL,or_eq_true->xdW
open Deferred renaming ofValue->xdI
open Ending renaming returned->xeA
open Extern renaming find->xeW,findNext->xey
open Extern.MathBitsCarry renaming m64->xaY,pair->xbV,three->xbP
open Fence renaming wide->xfU
open List renaming all_eq_true->xaS,any_eq_true->xeQ,append_assoc->xaj,append_nil->xbQ,cons_append->xbI,filterMap_cons->xaO,filterMap_eq_nil_iff->xdS,filter_cons->xdk,getD_eq_getElem?_getD->H1,getElem?_append_left->xbq,getElem?_append_right->xcn,getElem?_cons_zero->xbE,getElem?_eq_getElem->xaa,getElem?_eq_some_iff->xau,getElem?_map->xaT,getElem?_range->xby,getElem?_take->xcp,length->xaI,length_cons->xaq,length_eq_one_iff->xfj,length_eq_zero_iff->xbF,length_map->xaP,length_replicate->xaZ,length_set->xcL,length_take->xav,map_append->xbg,map_congr_left->xcj,map_cons->xbZ,map_nil->xex,mem_append->Nm,mem_cons->xad,mem_cons_of_mem->UV,mem_cons_self->FS,mem_filter->xck,mem_filterMap->xfe,mem_map->xap,mem_of_getElem?->xbx,mem_of_mem_drop->xeM,mem_range->xbf,mem_singleton->xai,nil_append->xbA,not_mem_nil->IR,perm_append_comm_assoc->xdE,perm_middle->xcu,range->xbb,replicate->xaf,set->xfW,singleton_append->xfw,take_length->xcy,take_of_length_le->xaQ
open List.Perm renaming append_left->xcg,append_right->xfk,refl->xdC,swap->xeP
open List.cons renaming injEq->xez
open Nat renaming add_sub_cancel_left->xfb,add_zero->xbS,beq->xao,ble->xfT,blt->xdd,eq_of_beq_eq_true->xcM,le_add_right->xbO,le_mul_of_pos_right->xbU,le_of_ble_eq_true->xbM,le_refl->xab,le_succ->xcd,le_trans->xan,lt_of_lt_of_le->xal,lt_or_ge->xcf,lt_succ_of_lt->xfo,lt_succ_self->xca,zero_add->xaN,zero_le->xah,zero_lt_one->xea
open Oper renaming looksAt->xbC
open Option.some renaming injEq->xay
open Prod.mk renaming injEq->xcx
open Region renaming binds->xct
open Sum renaming elim->xfu
open Value renaming bool->xer,cells->xfJ
open _root_.Array renaming getD_eq_getD_getElem?->xbp,getElem?_eq_some_iff->xbm,length_toList->xeU,mem_toList_iff->xdi,replicate->xev,toArray_toList->xdh
section
section
variable{P:Program}{cf:Cf}{fr:Fr}{cx σ:Sg}{vs vs':Nat->Value}{env:yR}{w:World}{R:Type}{r:R}
 {d:Option Tmp}{ty t yt:TypeId}{pos:String}{aft:Array Edge}{g:Option (Nat×Bool)}{x y:Operand}
theorem zas{a b:Nat}(h:a≠b):xao a b=false:=u7 h
theorem QT:∀{ob:List (Nat×Od)}{o p:Nat},p≠o->xR (yG ob o) p=xR ob p
 |[],_,_,_=>rfl
 |(q,X)::r,o,p,h=>by
  unfold yG;cases hb:xao q o
  ·simp only[cond_false];unfold xR;rw[QT h]
  ·simp only[cond_true];have:=yc hb;subst this;conv=>rhs;unfold xR
   rw[zas<|fun e=>h e.symm];rfl
theorem kz{ob:List (Nat×Od)}{p:Nat}:∀{os:List Nat},dn os p=false->xR (w6 ob os) p=xR ob p
 |[],_=>rfl
 |o::r,h=>by
  simp only[dn,List.any_cons,Bool.or_eq_false_iff]at h;unfold w6;rw[QT (fun e=>by subst e;simp at h),kz h.2]
theorem QZ{ob:List (Nat×Od)}:∀{os:List Nat},∀e∈w6 ob os,e∈ob
 |[],_,h=>h
 |o::r,e,h=>QZ (os:=r) e<|uw e h
theorem PN{α:Type _}:∀{l:List α}{i:Nat}{a:α},l[i]? =some a->l.Perm (a::l.eraseIdx i)
 |[],_,_,h=>by simp at h
 |b::l,0,a,h=>by simp at h;subst h;exact xdC _
 |b::l,i+1,a,h=>((PN (l:=l) (i:=i)<|by simpa using h).cons b).trans<|xeP _ _ _
theorem kN{ob:List (Nat×Od)}{o:Nat}{X:Od}(h:xR ob o=some X):(OS vs fr cx ob).Perm (Qv vs (o,X)::OS vs fr cx (yG ob o)):=by
 obtain⟨i,h1,_,h3⟩:=wQ h;show(MS vs ob++(MS vs cx.ob++fr.F)).Perm (Qv vs (o,X)::(MS vs (yG ob o)++(MS vs cx.ob++fr.F)));rw[h3,<-KI h1];exact PN<|W8 h1
theorem aJ(hC:∀s∈cf.cs,y9 P s):∀{dom:List AM}{xs:List Operand}{cs:List PD}{k:UI dom->List Nat->Option R},Yi cf cx σ dom xs cs k=some r->
 ∃z os,k z os=some r/\xs.length+cs.length=dom.length/\(∀o∈os,∃X,(o,X)∈σ.ob)/\∀vs (fr:Fr) env S w,(∀x,Ya P vs env S w cx σ x)->∀cvs:List Value,cvs.length=cs.length->zD S (C2 cs cvs) w->
  zD S (ua P dom z<|xs.map (ev env)++cvs) w/\(OS vs fr cx σ.ob).Perm (Y9 dom z (xs.map (ev env)++cvs)++OS vs fr cx (w6 σ.ob os))/\UA dom (xs.map (ev env)++cvs)=os.map vs
 |[],[],[],k,h=>⟨(),[],h,rfl,fun _ ho=>absurd ho IR,fun _ _ _ _ _ _ _ _ _=>⟨trivial,xdC _,rfl⟩⟩
 |.q t::dom,[],c::cs,k,h=>by
  simp only[Yi]at h;obtain⟨e,h⟩:=yo h;subst e;obtain⟨z,os,h1,h2,ho,h3⟩:=aJ hC h;refine⟨_,os,h1,by simp at h2⊢;lia,ho,fun vs fr env S w hl cvs ha hb=> ?_⟩
  cases cvs with
  |nil=>cases ha
  |cons v cvs=>obtain⟨h4,h5,h6⟩:=h3 vs fr env S w hl cvs (by simpa using ha) hb.2;exact⟨⟨hb.1,h4⟩,h5,h6⟩
 |.d t::dom,x::xs,cs,k,h=>by
  simp only[Yi]at h;obtain⟨y,h,hy⟩:=X5 h;obtain⟨z,os,h1,h2,ho,h3⟩:=aJ hC h;exact⟨_,os,h1,by simp at h2⊢;lia,ho,fun vs fr env S w hl cvs ha hb=>by obtain⟨h4,h5,h6⟩:=h3 vs fr env S w hl cvs ha hb;exact⟨⟨hy P vs env S w<|hl x,h4⟩,h5,h6⟩⟩
 |.q t::dom,x::xs,cs,k,h=>by
  simp only[Yi]at h;split at h
  ·next s y hx=>
   obtain⟨e,h⟩:=yo h;subst e;obtain⟨z,os,h1,h2,ho,h3⟩:=aJ hC h;exact⟨_,os,h1,by simp at h2⊢;lia,ho,fun vs fr env S w hl cvs ha hb=>by obtain⟨h4,h5,h6⟩:=h3 vs fr env S w hl cvs ha hb;exact⟨⟨zn hx<|hl x,h4⟩,h5,h6⟩⟩
  ·cases h
 |.own t E::dom,x::xs,cs,k,h=>by
  simp only[Yi]at h;split at h
  ·next o hx=>
   split at h
   ·next s E' ys hc=>
    obtain⟨hE,h7⟩:=yn h;have hE:=yc hE;subst hE;obtain⟨e,h8⟩:=yo h7;cases e;obtain⟨z,os,h9,h2,ho,h3⟩:=aJ hC h8;obtain⟨hn,h1⟩:=yn h9;simp only[xdn]at hn;refine⟨_,o::os,h1,by simp at h2⊢;lia,fun p hp=> ?_,fun vs fr env S w hl cvs ha hb=> ?_⟩
    ·rcases xad.1 hp with rfl|hp
     ·obtain⟨i,h4,_⟩:=wQ hc;exact⟨_,xbx h4⟩
     ·exact ho p hp
    obtain⟨h4,h5,h6⟩:=h3 vs fr env S w hl cvs ha hb;have hv:ev env x=vs o:=zn hx<|hl x;refine⟨⟨trivial,h4⟩,h5.trans ?_,?_⟩
    ·have hp:=kN (vs:=vs) (fr:=fr) (cx:=cx)<|(kz hn).trans hc;refine(xcg _ hp).trans ?_;refine xcu.trans ?_;show List.Perm _ (mO t.rep E (ev env x) _::(Y9 dom z (xs.map (ev env)++cvs)++_));rw[hv];exact xdC _
    ·show ev env x::UA dom (xs.map (ev env)++cvs)=vs o::os.map vs;rw[hv,h6]
   ·cases h
  ·cases h
 |.fn dom' cod::dom,x::xs,cs,k,h=>by
  simp only[Yi]at h;obtain⟨f,h,hf⟩:=zc4 hC h;obtain⟨z,os,h1,h2,ho,h3⟩:=aJ hC h;refine⟨_,os,h1,by simp at h2⊢;lia,ho,fun vs fr env S w hl cvs ha hb=> ?_⟩;obtain⟨h4,h5,h6⟩:=h3 vs fr env S w hl cvs ha hb;refine⟨⟨?_,h4⟩,h5,h6⟩
  cases hv:x8 cx σ x with
  |none=>rename_i h0;rw[hv]at h0;simp[asF]at h0
  |some v=>exact hf vs S w v _ hv<|zn hv<|hl x
 |[],_::_,_,_,h=>by simp[Yi]at h
 |[],[],_::_,_,h=>by simp[Yi]at h
 |.d _::_,[],_,_,h=>by simp[Yi]at h
 |.own _ _::_,[],_,_,h=>by simp[Yi]at h
 |.fn _ _::_,[],_,_,h=>by simp[Yi]at h
 |.q _::_,[],[],_,h=>by simp[Yi]at h
def iL:List RM->List Value->Nat->(Nat->Value)->Nat->Value
 |[],_,_,vs=>vs
 |.d _::r,us,o,vs=>iL r us.tail o vs
 |.own _ _::r,us,o,vs=>Xp (iL r us.tail (o+1) vs) o<|us.headD undef
theorem Qq:∀{rs:List RM}{us:List Value}{o k:Nat},k<o->iL rs us o vs k=vs k
 |[],_,_,_,_=>rfl
 |.d _::r,us,o,k,h=>Qq (rs:=r) h
 |.own _ _::r,us,o,k,h=>by
  show Xp _ o _ k=_;rw[uJ h,Qq (rs:=r)<|by lia]
theorem L4{n o:Nat}{v:Value}(h:o≠n):Xp vs n v o=vs o:=by unfold Xp;rw[u7 h];rfl
theorem ed:∀{rs:List RM}{x:dq rs}{i o:Nat},(∀e∈(Zp rs x i o).2,o<=e.1/\e.1<o+(Zp rs x i o).2.length)
 |[],_,_,_,e,he=>absurd he IR
 |[.d _],_,_,_,e,he=>absurd he IR
 |[.own _ _],_,_,o,e,he=>by
  obtain rfl:=xai.1 he;exact⟨xab _,xca _⟩
 |.d t::n::r,x,i,o,e,he=>ed (rs:=n::r) (x:=x.2) (i:=i+1) e he
 |.own t E::n::r,x,i,o,e,he=>by
  have he:e∈(o,Od.own t E x.1)::(Zp (n::r) x.2 (i+1)<|o+1).2:=he;have ha:(Zp (.own t E::n::r) x i o).2.length=(Zp (n::r) x.2 (i+1)<|o+1).2.length+1:=rfl;rw[ha];rcases xad.1 he with rfl|he
  ·exact⟨xab _,by show o<_;lia⟩
  ·have:=ed (rs:=n::r) (x:=x.2) (i:=i+1) (o:=o+1) e he;lia
theorem n7:∀{rs:List RM}{x:dq rs}{us:List Value}{i o:Nat},MS (iL rs us o vs) (Zp rs x i o).2=Zf rs x us
 |[],_,_,_,_=>rfl
 |[.d _],_,_,_,_=>rfl
 |[.own t E],x,us,i,o=>by exact congrArg (fun m=>[m])<|JS (vs:=vs) (xs:=x)
 |.d t::n::r,x,us,i,o=>by
  show MS (iL (n::r) us.tail o vs) (Zp (n::r) x.2 (i+1) o).2=Zf (n::r) x.2 us.tail;exact n7
 |.own t E::n::r,x,us,i,o=>by
  refine List.cons_eq_cons.2 ⟨JS (xs:=x.1),?_⟩;exact(wa (ob:=(Zp (n::r) x.2 (i+1)<|o+1).2) (vs:=iL (n::r) us.tail (o+1) vs) fun e he=>L4 (by have:=ed e he;lia)).trans n7
theorem gm:∀{rs:List RM}{x:dq rs}{i o:Nat},∀e∈(Zp rs x i o).1,∀p,wu e.2=some p->p<o+(Zp rs x i o).2.length
 |[],_,_,_,e,he=>absurd he IR
 |[.d _],_,_,_,e,he=>by
  obtain rfl:=xai.1 he;intro p hp;cases hp
 |[.own _ _],_,_,o,e,he=>by
  obtain rfl:=xai.1 he;intro p hp;cases hp;exact xca _
 |.d t::n::r,x,i,o,e,he=>by
  rcases xad.1 he with rfl|he
  ·intro p hp;cases hp
  ·exact gm (rs:=n::r) (x:=x.2) (i:=i+1) e he
 |.own t E::n::r,x,i,o,e,he=>by
  have ha:(Zp (.own t E::n::r) x i o).2.length=(Zp (n::r) x.2 (i+1)<|o+1).2.length+1:=rfl;rw[ha];rcases xad.1 he with rfl|he
  ·intro p hp;cases hp;lia
  ·intro p hp;have:=gm (rs:=n::r) (x:=x.2) (i:=i+1) (o:=o+1) e he p hp;lia
theorem EY:∀{rs:List RM}{x:dq rs}{i o:Nat},∀e∈(Zp rs x i o).1,∀p,wu e.2=some p->o<=p
 |[],_,_,_,e,he=>absurd he IR
 |[.d _],_,_,_,e,he=>by
  obtain rfl:=xai.1 he;intro p hp;cases hp
 |[.own _ _],_,_,o,e,he=>by
  obtain rfl:=xai.1 he;intro p hp;cases hp;exact xab _
 |.d t::n::r,x,i,o,e,he=>by
  rcases xad.1 he with rfl|he
  ·intro p hp;cases hp
  ·exact EY (rs:=n::r) (x:=x.2) (i:=i+1) e he
 |.own t E::n::r,x,i,o,e,he=>by
  rcases xad.1 he with rfl|he
  ·intro p hp;cases hp;exact xab _
  ·intro p hp;have:=EY (rs:=n::r) (x:=x.2) (i:=i+1) (o:=o+1) e he p hp;lia
theorem Fj:∀{rs:List RM}{x:dq rs}{us:List Value}{i o:Nat}{S:Nat->Prop},zD S (Ze rs x us) w->us.length=rs.length->∀e∈(Zp rs x i o).1,∃j u,e.1=i+j/\us[j]? =some u/\(vo P (iL rs us o vs) e.2 u).p S w
 |[],_,_,_,_,_,_,_,e,he=>absurd he IR
 |[m],_,[],_,_,_,_,hl,_,_=>by cases hl
 |[.d _],x,u::us,i,o,S,h,hl,e,he=>by
  obtain rfl:=xai.1 he;exact⟨0,u,rfl,rfl,h.1⟩
 |[.own _ _],x,u::us,i,o,S,h,hl,e,he=>by
  obtain rfl:=xai.1 he;exact⟨0,u,rfl,rfl,(vF (vs:=vs)).symm⟩
 |_::n::r,x,[],_,_,_,_,hl,_,_=>by cases hl
 |.d t::n::r,x,u::us,i,o,S,h,hl,e,he=>by
  rcases xad.1 he with rfl|he
  ·exact⟨0,u,rfl,rfl,h.1⟩
  ·obtain⟨j,v,h1,h2,h3⟩:=Fj (rs:=n::r) (x:=x.2) (i:=i+1) (o:=o) h.2 (by simpa using hl) e he;exact⟨j+1,v,by lia,by simpa using h2,h3⟩
 |.own t E::n::r,x,u::us,i,o,S,h,hl,e,he=>by
  rcases xad.1 he with rfl|he
  ·exact⟨0,u,rfl,rfl,(vF (vs:=iL (n::r) us (o+1) vs)).symm⟩
  ·obtain⟨j,v,h1,h2,h3⟩:=Fj (rs:=n::r) (x:=x.2) (i:=i+1) (o:=o+1) h (by simpa using hl) e he;refine⟨j+1,v,by lia,by simpa using h2,?_⟩;have:vo P (iL (.own t E::n::r) (u::us) o vs) e.2 v=vo P (iL (n::r) us (o+1) vs) e.2 v:=dK (fun p hp=>L4 (by have:=EY (rs:=n::r) (x:=x.2) (i:=i+1) (o:=o+1) e he p hp;lia)) v;rw[this];exact h3
theorem zbm{f:FuncId}{ags:List Operand}:∀{cs:List VF}{s:VF},LD cx σ f ags cs=some s->s∈cs/\s.f=f
 |c::cs,s,h=>by
  unfold LD at h;split at h
  ·next hb=>
   simp only[xay]at h;subst h;rw[xam]at hb;exact⟨FS,yc hb.1⟩
  ·obtain⟨h1,h2⟩:=zbm h;exact⟨UV _ h1,h2⟩
theorem RU{rs:List RM}{x:dq rs}{us:List Value}{o:Nat}{S:Nat->Prop}(h:zD S (Ze rs x us) w)(hl:us.length=rs.length):∀e∈(Zp rs x (bif J7 rs then 0 else 1) o).1,(xN P (iL rs us o vs) e.2 (Yg us) e.1).p S w:=by
 intro e he;obtain⟨j,u,h1,h2,h3⟩:=Fj (P:=P) (vs:=vs) h hl e he;obtain⟨i,dv⟩:=e
 match us,hl,h2 with
 |[],_,h2=>simp at h2
 |[v],hl,h2=>
  obtain rfl:j=0:=by
   rcases j with _|j
   ·rfl
   ·simp at h2
  obtain⟨m,rfl⟩:=xfj.1 hl.symm;simp only[J7,cond_true]at h1;simp only[xbE,xay]at h2;subst h1;subst h2;exact h3
 |v::v'::us,hl,h2=>
  have:J7 rs=false:=by
   match rs,hl with
   |[],_=>rfl
   |_::_::_,_=>rfl
  rw[this]at h1;simp only[cond_false]at h1;obtain rfl:i=j+1:=by lia
  exact⟨(v::v'::us).toArray,u,rfl,by simpa using h2,h3⟩
def Bt:List RM->List Value->List Value
 |[],_=>[]
 |.d _::r,us=>Bt r us.tail
 |.own _ _::r,us=>us.headD undef::Bt r us.tail
theorem gY:∀{rs:List RM}{x:dq rs}{us:List Value}{i o:Nat},(Zp rs x i o).2.map (fun e=>iL rs us o vs e.1)=Bt rs us
 |[],_,_,_,_=>rfl
 |[.d _],x,us,i,o=>rfl
 |[.own t E],x,us,i,o=>by
  show[Xp vs o (us.headD undef) o]=[us.headD undef];rw[vF]
 |.d t::n::r,x,us,i,o=>gY (rs:=n::r) (x:=x.2) (us:=us.tail) (i:=i+1) (o:=o)
 |.own t E::n::r,x,us,i,o=>by
  show Xp (iL (n::r) us.tail (o+1) vs) o (us.headD undef) o::(Zp (n::r) x.2 (i+1)<|o+1).2.map (fun e=>iL (.own t E::n::r) us o vs e.1)=us.headD undef::Bt (n::r) us.tail;rw[vF,<-gY (rs:=n::r) (x:=x.2) (us:=us.tail) (i:=i+1) (o:=o+1)];congr 1;refine xcj fun e he=> ?_;exact L4 (by have:=ed e he;lia)
theorem Fz:∀{m:Nat}{rs:List RM}{us:List Value},oh m rs=true->us.length=rs.length->Bt rs us=us.drop m
 |0,[],us,_,hl=>by
  obtain rfl:=xbF.1 hl;rfl
 |0,.own _ _::r,[],_,hl=>by cases hl
 |0,.own _ _::r,u::us,h,hl=>by
  show u::Bt r us=u::us;rw[Fz (m:=0) (rs:=r) (us:=us) h<|by simpa using hl];rfl
 |m+1,.d _::r,[],_,hl=>by cases hl
 |m+1,.d _::r,u::us,h,hl=>Fz (m:=m) (rs:=r) (us:=us) h<|by simpa using hl
 |0,.d _::_,_,h,_=>by cases h
 |_+1,[],_,h,_=>by cases h
 |_+1,.own _ _::_,_,h,_=>by cases h
theorem Oy{vs':Nat->Value}:∀{os:List Nat}{ob:List (Nat×Od)},os.map vs'=ob.map (fun e=>vs' e.1)->MS vs' (o7 os ob)=MS vs' ob
 |[],[],_=>rfl
 |[],_::_,h=>by cases h
 |_::_,[],h=>by cases h
 |o::os,(p,X)::ob,h=>by
  simp only[xbZ,xez]at h;show Qv vs' (o,X)::MS vs' (o7 os ob)=Qv vs' (p,X)::MS vs' ob;rw[Oy h.2];congr 1;cases X<;>simp only[Qv]<;>rw[h.1]
theorem Lh:∀{os:List Nat}{ob:List (Nat×Od)},∀e∈o7 os ob,e.1∈os
 |[],_,e,he=>absurd he<|by simp[o7]
 |_::_,[],e,he=>absurd he<|by simp[o7]
 |o::os,p::ob,e,he=>by
  rcases xad.1 (show e∈(o,p.2)::o7 os ob from he)with rfl|he
  ·exact FS
  ·exact UV _<|Lh e he
theorem M3{rs:List RM}{x:dq rs}{us:List Value}{o m:Nat}{S:Nat->Prop}(h:zD S (Ze rs x us) w)(hl:us.length=rs.length)(hm:m<=us.length):∀e∈(Zp rs x (mJ m) o).1.filter (fun e=>xdd e.1<|mJ m+m),(xN P (iL rs us o vs) e.2 (Yg<|us.take m) e.1).p S w:=by
 intro e he;obtain⟨he,hb⟩:=xck.1 he;have hb:e.1<mJ m+m:=Nat.blt_eq.mp hb;obtain⟨j,u,h1,h2,h3⟩:=Fj (P:=P) (vs:=vs) h hl e he;obtain⟨i,dv⟩:=e;simp only at h1 hb;have hj:j<m:=by lia
 have h4:(us.take m)[j]? =some u:=by rw[xcp,iq hj];exact h2
 have h5:(us.take m).length=m:=by rw[xav];lia
 generalize us.take m=vs' at*
 match vs',h5,h4 with
 |[],h5,h4=>simp at h4
 |[v],h5,h4=>
  obtain rfl:m=1:=h5.symm;obtain rfl:j=0:=by lia
  simp only[xbE,xay]at h4;obtain rfl:i=0:=h1;subst h4;exact h3
 |v::v'::us',h5,h4=>
  have:mJ m=1:=by
   unfold mJ;rw[zas<|by simp at h5;lia];rfl
  rw[this]at h1;obtain rfl:i=j+1:=by lia
  exact⟨(v::v'::us').toArray,u,rfl,by simpa using h4,h3⟩
theorem zhq(hC:∀s∈cf.cs,y9 P s){f:Operand}{f':FuncId}{cs:List PD}{s:VF}{ags:Array Operand}{ts:Array TypeId}{k:Sg->Option R}(hd:wv cx d=true)(hf:x8 cx σ f=some (.fn f' cs))
 (hs:LD cx σ f' ags.toList cf.cs=some s) (h:zad cf cx σ d s ags.toList cs k=some r):ov P cx ⟨d,.call ⟨.value f,ags,ts⟩,ty,pos,aft,g⟩ σ k r:=by
 obtain⟨h1,h2⟩:=zbm hs;have hp:=hC s h1;unfold zad at h;obtain⟨z,os,h,hu,hE,hz⟩:=aJ hC h;obtain⟨q,hq,h⟩:=rk h;split at h
 ·next hw=>
   refine⟨_,h,xbO _ _,fun fr vs env w hR=> ?_⟩
   obtain⟨hB,hk⟩:=hR
   obtain⟨S0,_,hΓ⟩:=hk.ex
   obtain⟨cvs,hv,hi,_⟩:=zn hf<|z6 hΓ f
   have hj:=hp.plain hw hq (vs:=ags.toList.map (ev env)++cvs)<|by simp at hu⊢;lia
   have hl:(execOp (ev env) ⟨d,.call ⟨.value f,ags,ts⟩,ty,pos,aft,g⟩).run P w=.ok (.enter f' (ags.toList.map (ev env)++cvs).toArray) w:=by simp[execOp,resolve,hv,xdI,invoke,kS<|h2▸hp.1]
   have hm:St fr.we fr.Se (Y9 s.dom z (ags.toList.map (ev env)++cvs)++OS vs fr cx (w6 σ.ob os)) (ua P s.dom z (ags.toList.map (ev env)++cvs)++GS P vs env fr cx σ) w:=by
    refine St.perm (St.weak hk fun S w ha=>zD.append ?_ ha) (hz vs fr env S0 w (z6 hΓ) cvs hi ?_).2.1
    ·obtain⟨cvs',hb,hg,hc⟩:=zn hf<|z6 ha f;rw[hv]at hb;have:cvs=cvs':=by simpa using hb
     subst this;exact(hz vs fr env S w (z6 ha) cvs hi hc).1
    ·obtain⟨cvs',hb,hg,hc⟩:=zn hf<|z6 hΓ f;rw[hv]at hb;have:cvs=cvs':=by simpa using hb
     subst this;exact hc
   unfold kF
   rw[hl]
   rw[h2]at hj
   refine(hj fr.we fr.Se _ _ w hm).mono ?_
   rintro e w' ⟨us,he,hr,hx⟩
   refine⟨Yg us,he,?_⟩
   refine QK (vs:=vs) (vs':=iL s.cod us σ.nx vs) (l:=(Zp s.cod q (bif J7 s.cod then 0 else 1) σ.nx).1) (Γl:=Ze s.cod q us) hB hd rfl (xbO _ _) (fun o ho=>Qq ho) gm ?_ (fun S w ha=>RU ha hr) ?_
   ·intro e he
    rcases Nm.1 he with he|he
    ·exact(ed e he).2
    ·exact xal (hB.o1 e<|QZ e he)<|xbO _ _
   ·have e1:OS (iL s.cod us σ.nx vs) fr cx ((Zp s.cod q (bif J7 s.cod then 0 else 1) σ.nx).2++w6 σ.ob os)=Zf s.cod q us++OS vs fr cx (w6 σ.ob os):=by
     show MS _ (_++_)++(MS _ cx.ob++_)=_;have a1:MS (iL s.cod us σ.nx vs) (w6 σ.ob os)=MS vs (w6 σ.ob os):=wa fun e he=>Qq<|hB.o1 e<|QZ e he;have a2:MS (iL s.cod us σ.nx vs) cx.ob=MS vs cx.ob:=wa fun e he=>Qq<|hB.o2 e he;rw[a2,show MS (iL s.cod us σ.nx vs) ((Zp s.cod q (bif J7 s.cod then 0 else 1) σ.nx).2++w6 σ.ob os)=MS _ _++MS _ _ from xbg,a1,n7,xaj]
    rw[e1]
    exact hx
 ·next b hw=>
   obtain⟨ht,h⟩:=yn h
   refine⟨_,h,xbO _ _,fun fr vs env w hR=> ?_⟩
   obtain⟨hB,hk⟩:=hR
   obtain⟨S0,_,hΓ⟩:=hk.ex
   obtain⟨cvs,hv,hi,_⟩:=zn hf<|z6 hΓ f
   have hj:=hp.2 z q hq (ags.toList.map (ev env)++cvs)<|by simp at hu⊢;lia
   rw[hw]at hj
   have hl:(execOp (ev env) ⟨d,.call ⟨.value f,ags,ts⟩,ty,pos,aft,g⟩).run P w=.ok (.enter f' (ags.toList.map (ev env)++cvs).toArray) w:=by simp[execOp,resolve,hv,xdI,invoke,kS<|h2▸hp.1]
   have hA:UA s.dom (ags.toList.map (ev env)++cvs)=os.map vs:=by
    obtain⟨cvs',hb,hg,hc⟩:=zn hf<|z6 hΓ f;rw[hv]at hb;have:cvs=cvs':=by simpa using hb
    subst this;exact(hz vs fr env S0 w (z6 hΓ) cvs hi hc).2.2
   have hm:St fr.we fr.Se (Y9 s.dom z (ags.toList.map (ev env)++cvs)++OS vs fr cx (w6 σ.ob os)) (ua P s.dom z (ags.toList.map (ev env)++cvs)++GS P vs env fr cx σ) w:=by
    refine St.perm (St.weak hk fun S w ha=>zD.append ?_ ha) (hz vs fr env S0 w (z6 hΓ) cvs hi ?_).2.1
    ·obtain⟨cvs',hb,hg,hc⟩:=zn hf<|z6 ha f;rw[hv]at hb;have:cvs=cvs':=by simpa using hb
     subst this;exact(hz vs fr env S w (z6 ha) cvs hi hc).1
    ·obtain⟨cvs',hb,hg,hc⟩:=zn hf<|z6 hΓ f;rw[hv]at hb;have:cvs=cvs':=by simpa using hb
     subst this;exact hc
   unfold kF
   rw[hl]
   rw[h2]at hj
   refine(hj fr.we fr.Se _ _ w hm).mono ?_
   rintro e w' ⟨us,he,⟨hr,hy⟩,hx⟩
   refine⟨Yg<|us.take<|s.cod.length-(b+1),he,?_⟩
   have hn:∀o,o<σ.nx->iL s.cod us σ.nx vs o=vs o:=fun o ho=>Qq ho
   have hD:∀o∈os,o<σ.nx:=fun o ho=>by
    obtain⟨X,hX⟩:=hE o ho;exact hB.o1 _ hX
   have hF:MS (iL s.cod us σ.nx vs) (o7 os (Zp s.cod q (mJ<|s.cod.length-(b+1)) σ.nx).2)=Zf s.cod q us:=by
    rw[Oy,n7];rw[gY,Fz ht hr,hy,hA];exact xcj fun o ho=>hn o<|hD o ho
   refine QK (vs:=vs) (vs':=iL s.cod us σ.nx vs) (l:=(Zp s.cod q (mJ<|s.cod.length-(b+1)) σ.nx).1.filter fun e=>xdd e.1<|mJ (s.cod.length-(b+1))+(s.cod.length-(b+1))) (Γl:=Ze s.cod q us) hB hd rfl (xbO _ _) hn (fun e he=>gm e (xck.1 he).1) ?_ (fun S w ha=>M3 ha hr<|by lia) ?_
   ·intro e he
    rcases Nm.1 he with he|he
    ·exact xal (hD _<|Lh e he)<|xbO _ _
    ·exact xal (hB.o1 e<|QZ e he)<|xbO _ _
   ·have e1:OS (iL s.cod us σ.nx vs) fr cx (o7 os (Zp s.cod q (mJ<|s.cod.length-(b+1)) σ.nx).2++w6 σ.ob os)=Zf s.cod q us++OS vs fr cx (w6 σ.ob os):=by
     show MS _ (_++_)++(MS _ cx.ob++_)=_;have a1:MS (iL s.cod us σ.nx vs) (w6 σ.ob os)=MS vs (w6 σ.ob os):=wa fun e he=>Qq<|hB.o1 e<|QZ e he;have a2:MS (iL s.cod us σ.nx vs) cx.ob=MS vs cx.ob:=wa fun e he=>Qq<|hB.o2 e he;rw[a2,show MS (iL s.cod us σ.nx vs) (o7 os (Zp s.cod q (mJ<|s.cod.length-(b+1)) σ.nx).2++w6 σ.ob os)=MS _ _++MS _ _ from xbg,a1,hF,xaj]
    rw[e1]
    exact hx
end
end
section
theorem St.pr{we:World}{Se:Nat->Prop}{ms:List MF}{Γ:List FF}{w:World}{p:Prop}(hp:p)(h:St we Se ms Γ w):St we Se (mPr p::ms) Γ w:=by
 obtain⟨h1,h2,h3,S,h4,h5,h6,h7,h8⟩:=h;refine⟨h1,h2,⟨fun k hk=>hk.elim,h3⟩,S,h4,h5,fun m hm k hk=> ?_,⟨hp,h7⟩,h8⟩;rcases xad.1 hm with rfl|hm
 ·exact hk.elim
 ·exact h6 m hm k hk
theorem St.unpr{we:World}{Se:Nat->Prop}{ms:List MF}{Γ:List FF}{w:World}{p:Prop}(h:St we Se (mPr p::ms) Γ w):p/\St we Se ms Γ w:=
 ⟨xV h (i:=0) rfl fun S hp=>hp,St.drop (i:=0) h⟩
section
variable{P:Program}{cf:Cf}{fr:Fr}{cx σ:Sg}{vs vs':Nat->Value}{env:yR}{w:World}{R:Type}{r:R}
 {d:Option Tmp}{ty t yt:TypeId}{pos:String}{aft:Array Edge}{g:Option (Nat×Bool)}{x y:Operand}
theorem Q4{d d':Dv}{v:Value}{i:Nat}{S:Nat->Prop}(h:(xN P vs d v i).p S w)(hm:∀u,(vo P vs d u).p S w->(vo P vs d' u).p S w):(xN P vs d' v i).p S w:=by
 cases i with
 |zero=>exact hm _ h
 |succ i=>obtain⟨us,u,h1,h2,h3⟩:=h;exact⟨us,u,h1,h2,hm _ h3⟩
theorem Uu{v u:Value}{mk:Nat->Dv}{X:Od}{ob:List (Nat×Od)}(hB:Bd cx σ)(hd:wv cx d=true)(ha:∀e∈ob,e.1<σ.nx)(hb:∀o,wu (mk o)=some o)(hc:∀S w,(vo P (Xp vs σ.nx u) (mk σ.nx) v).p S w)
 (hf:St fr.we fr.Se (Qv (Xp vs σ.nx u) (σ.nx,X)::OS vs fr cx ob) (GS P vs env fr cx σ) w):cm P fr cx σ.nx vs ⟨σ.nx+1,vj σ.rg d [(0,mk σ.nx)],(σ.nx,X)::ob⟩ (put env d v) w:=by
 refine QK (σ':=⟨σ.nx+1,vj σ.rg d [(0,mk σ.nx)],(σ.nx,X)::ob⟩) (vs:=vs) (vs':=Xp vs σ.nx u) (Γl:=[]) hB hd rfl (xcd _) (fun o ho=>uJ ho) ?_ ?_ ?_ ?_
 ·intro e he o ho;obtain rfl:=xai.1 he;rw[hb]at ho;cases ho;exact xca _
 ·intro e he;rcases xad.1 he with rfl|he
  ·exact xca _
  ·exact xfo<|ha e he
 ·intro S w _ e he;obtain rfl:=xai.1 he;exact hc S w
 ·show St _ _ (Qv (Xp vs σ.nx u) (σ.nx,X)::OS (Xp vs σ.nx u) fr cx ob) _ _;rw[DZ hB ha];exact hf
theorem Jk:∀{ob:List (Nat×Od)}{o:Nat}{X Y:Od},xR ob o=some X->xR (kI ob o Y) o=some Y/\yG (kI ob o Y) o=yG ob o
 |(o',X')::r,o,X,Y,h=>by
  unfold xR at h;unfold kI;cases hb:xao o' o<;>rw[hb]at h
  ·obtain⟨h1,h2⟩:=Jk (ob:=r) (Y:=Y) h;constructor
   ·simp only[cond_false];unfold xR;rw[hb];exact h1
   ·simp only[cond_false];unfold yG;rw[hb];simp only[cond_false,h2]
  ·constructor
   ·simp only[cond_true];unfold xR;rw[hb];rfl
   ·simp only[cond_true];unfold yG;rw[hb];rfl
theorem ZM{o:Nat}{X:Od}{Γ:List FF}(ho:xR σ.ob o=some X)(h:St fr.we fr.Se (OS vs fr cx σ.ob) Γ w):St fr.we fr.Se (Qv vs (o,X)::OS vs fr cx (yG σ.ob o)) Γ w:=h.perm<|kN ho
theorem Pn{ob:List (Nat×Od)}{o:Nat}{X Y:Od}{Γ:List FF}(ho:xR ob o=some X)(h:St fr.we fr.Se (Qv vs (o,Y)::OS vs fr cx (yG ob o)) Γ w):St fr.we fr.Se (OS vs fr cx<|kI ob o Y) Γ w:=by
 obtain⟨h1,h2⟩:=Jk (Y:=Y) ho;have:=kN (vs:=vs) (fr:=fr) (cx:=cx) h1;rw[h2]at this;exact h.perm this.symm
theorem e9{o o2:Nat}{X Y:Od}{Γ:List FF}(ha:xao o o2=false)(ho:xR σ.ob o=some X)(hb:xR σ.ob o2=some Y)(h:St fr.we fr.Se (OS vs fr cx σ.ob) Γ w):
 St fr.we fr.Se (Qv vs (o,X)::Qv vs (o2,Y)::OS vs fr cx (yG (yG σ.ob o) o2)) Γ w:=by
 have h1:xR (yG σ.ob o) o2=some Y:=by rw[QT<|fun e=>by subst e;simp at ha];exact hb
 exact(h.perm<|kN ho).perm<|(kN (vs:=vs) (fr:=fr) (cx:=cx) h1).cons _
theorem moU{o:Nat}{u:Value}{X:Od}:Qv (Xp vs o u) (o,X)=Qv (fun _=>u) (0,X):=by
 cases X<;>simp only[Qv,vF]
theorem zjC{S:Nat->Prop}{w:World}:(Zm [.slice none 0 0]).p S 0 (xfJ (.slice none 0 0)).toList w:=⟨_,rfl,rfl,rfl⟩
theorem zfy(hT:y4 P cf.tt){k:Sg->Option R}(hd:wv cx d=true)(h:NQ cf cx σ d t x y k=some r):ov P cx ⟨d,.makeSlice t x y,ty,pos,aft,g⟩ σ k r:=by
 unfold NQ at h;split at h
 ·next s E B ht=>
  obtain⟨hi,h⟩:=yn h;split at h
  ·next s' E1 B1 n he hn=>
   obtain⟨j,hj,h⟩:=OQ h;obtain⟨hb,h⟩:=kU h;obtain⟨xs,hf,h⟩:=xt h;have hk:=Mb hT he rfl;refine⟨_,h,xcd _,fun fr vs env w hR=> ?_⟩;obtain⟨hB,hg⟩:=hR;obtain⟨S0,_,hΓ⟩:=hg.ex;have hx:ev env x=.int .i64 (j:Int):=by rw[(xZ hn<|z6 hΓ x).1,hj]
   have ha:=(hT _ _ he).2.1;refine(HG (e:=Zm [.slice none 0 0]) (z:=0) (xs:=xs) (n:=j) (vq hT ht) hk hx ((O8 hi).symm.trans hx) ha hb (fun _ _=>zjC) hf w hg).mono ?_;rintro v w' ⟨b,rfl,_,hs⟩;have hc:xs.length=j:=by rw[hf];exact xaZ
   have h1:=hs.closeF 0 rfl (by rw[hc];exact xab _)<|zcW ha hb;rw[hc]at h1;refine Uu (vs:=vs) (mk:=.mw) (u:=UC (.slice (some ⟨b,0,none⟩) j j) [.slice none 0 0]) hB hd hB.o1 (fun _=>rfl) (fun S w=>by simp only[vo,vF];rfl) ?_;rw[moU];refine St.grp.2<|St.pr (p:=([.slice none 0 0]:List Value).length=([[]]:List (List s.D)).length) rfl ?_;have h2:=St.nilO (e:=s.rep) (E:=E1) h1;exact h2.perm<|xeP ..
  ·cases h
 ·cases h
theorem zih{ao:Option Addr}{n c:Nat}:(Value.slice ao n c).oneCell'=true/\(Value.slice ao n c).cells= #[.slice ao n c]:=⟨rfl,rfl⟩
theorem Fc{α:Type}{e:z7 α}{E:TypeId}{v:Value}{xs:List α}{S:Nat->Prop}(h:(mO e E v xs).p S w):v.oneCell'=true/\v.cells= #[v]:=by
 rcases Ug h with⟨rfl,_⟩|⟨b,cap,rfl,_⟩<;>exact zih
theorem zhj(hT:y4 P cf.tt)(hL:jT P cf.tt){n:Nat}{ps:Array (Nat×Operand)}{k:Sg->Option R}(hd:wv cx d=true)(h:zb8 cf cx σ d t n ps.toList k=some r):ov P cx ⟨d,.buildSlice t n ps,ty,pos,aft,g⟩ σ k r:=by
 unfold zb8 at h;split at h
 ·next s E B x ht hf=>
  obtain⟨hn,h⟩:=yn h;have hn:=yc hn;subst hn;split at h
  ·next o2 hg=>
   split at h
   ·next s2 E1 ys hc=>
    obtain⟨hi,h⟩:=yo h;cases hi;obtain⟨bytes,zero,hj⟩:=VU hT hL ht;refine⟨_,h,xcd _,fun fr vs env w hR=> ?_⟩;obtain⟨hB,hb⟩:=hR;obtain⟨S0,_,hΓ⟩:=hb.ex;have hk:ev env x=vs o2:=zn hg<|z6 hΓ x;obtain⟨q1,q2⟩:=xV (ZM hc hb) (i:=0) (m:=mO s.rep E1 (vs o2) ys) rfl fun S hp=>Fc hp;have hl:qs [(0,vs o2)]=[vs o2]:=by rw[zgt,q2]
    refine(zbR (e:=Zm [vs o2]) (zs:=[0]) (len:=1) (x9:=ps.toList) (vs:=[(0,vs o2)]) (vq hT ht) hj (xea) rfl (by show 1*1<=_;lia) (by rw[hf];simp[hk]) (fun S w ha=>⟨by rw[q2];rfl,trivial⟩) (fun S w ha=> ?_) w<|ZM hc hb).mono ?_
    ·rw[hl];exact⟨[vs o2],[],rfl,⟨_,rfl,q1,rfl⟩,rfl⟩
    rintro v w' ⟨v',rfl,_,hs⟩;refine Uu (vs:=vs) (mk:=.mw) (u:=UC v [vs o2]) hB hd (fun e he=>hB.o1 e<|uw e he) (fun _=>rfl) (fun S w=>by simp only[vo,vF];rfl) ?_;rw[moU];exact St.grp.2<|St.pr (p:=([vs o2]:List Value).length=([ys]:List (List s.D)).length) rfl hs
   ·cases h
  ·cases h
 ·cases h
theorem Th(hT:y4 P cf.tt){E0:TypeId}{k:Sg->Option R}(hd:wv cx d=true)(h:EB cf σ d E0 k=some r):ov P cx ⟨d,.alloc E0,ty,pos,aft,g⟩ σ k r:=by
 unfold EB at h;split at h
 ·next s E B ht=>
  have ha:=Mb hT ht rfl;refine⟨_,h,xcd _,fun fr vs env w hR=> ?_⟩;obtain⟨hB,hb⟩:=hR;refine(Bo (e:=(Zm [.slice none 0 0]).c) (z:=0) ha (fun S w=>zjC (S:=S) (w:=w)) w hb).mono ?_;rintro v w' ⟨b,rfl,_,hs⟩;refine Uu (vs:=vs) (mk:=.mw) (u:=UC (.pointer<|some ⟨b,0,none⟩) [.slice none 0 0]) hB hd hB.o1 (fun _=>rfl) (fun S w=>by simp only[vo,vF];rfl) ?_;rw[moU];refine St.grp.2<|St.pr (p:=([.slice none 0 0]:List Value).length=1) rfl ?_;exact(St.nilO (e:=s.rep) (E:=E)<|hs.toP 0 rfl).perm<|xeP ..
 ·cases h
theorem TR{hv:List Value}(h:hv.length=1):hv=[hv.headD undef]:=by
 match hv,h with
 |[a],_=>rfl
theorem zeK(hT:y4 P cf.tt){o:Nat}{k:Sg->Option R}(hd:wv cx d=true)(hf:x8 cx σ x=some (.mw o))(h:Mo cf σ d t o k=some r):ov P cx ⟨d,.load t x,ty,pos,aft,g⟩ σ k r:=by
 unfold Mo at h;split at h
 ·next q E' B s E E0 xs ht ho=>
  obtain⟨zero,hg,_⟩:=Vu hT ht;refine⟨_,h,xcd _,fun fr vs env w hR=> ?_⟩;obtain⟨hB,hc⟩:=hR;obtain⟨S0,_,hΓ⟩:=hc.ex;have hi:ev env x=y5 (vs o):=zn hf<|z6 hΓ x;obtain⟨ha,h1⟩:=St.unpr<|St.grp.1<|ZM ho hc;obtain⟨b,hb,h2⟩:=h1.openP 0 rfl;refine(zcz (QU (e:=(Zm<|vg<|vs o).c) (f:=Zm<|vg<|vs o) (z':=0) (up:=id) 0 rfl (hi.trans hb) (Sub.self (Zm<|vg<|vs o) 0) hg) w h2).mono ?_;rintro u w' ⟨_,rfl,_,hs⟩;obtain⟨S1,_,hj⟩:=hs.ex;have hu:=zfJ hj.1;have hk:=TR ha;have hl:u=(vg<|vs o).headD undef:=by
   rw[hk]at hu;simpa using hu.symm
  have h3:=(hs.weak (Δ:=GS P vs env fr cx σ) fun S w h=>h.2).toP 0 rfl;rw[<-hb]at h3;refine Uu (vs:=vs) (mk:=.ow) (u:=u) hB hd (fun e he=> ?_) (fun _=>rfl) (fun S w=>Jq S w) ?_
  ·obtain⟨e',g1,g2⟩:=U2 ho e he;rw[<-g2];exact hB.o1 e' g1
  ·rw[JS,hl];have h4:St fr.we fr.Se (mO s.rep E ((vg<|vs o).headD undef) xs::(Qv vs (o,.ho E0)::OS vs fr cx (yG σ.ob o))) (GS P vs env fr cx σ) w':=by
    have h5:St fr.we fr.Se (mP (Zm<|vg<|vs o).c E0 (y5<|vs o) 0::mO s.rep E ((vg<|vs o).headD undef) xs::OS vs fr cx (yG σ.ob o)) (GS P vs env fr cx σ) w':=h3;have h6:=St.pr (p:=(vg<|vs o).length=1) ha h5;have h7:St fr.we fr.Se ([mPr<|(vg<|vs o).length=1,mP (Zm<|vg<|vs o).c E0 (y5<|vs o) 0]++mO s.rep E ((vg<|vs o).headD undef) xs::OS vs fr cx (yG σ.ob o)) (GS P vs env fr cx σ) w':=h6;exact(St.grp.2 h7).perm<|xeP ..
   have hp:=kN (vs:=vs) (fr:=fr) (cx:=cx) (Jk (Y:=.ho E0) ho).1;rw[(Jk (Y:=.ho E0) ho).2]at hp;exact h4.perm<|hp.symm.cons _
 ·cases h
structure zc6(a b:Value):Prop where
 out:y5 b=y5 a
 hv:∀(r:Nat) (v:Value),(vg a)[r]? =some v->(vg b)[r]? =some v
theorem zcV{o n:Nat}(hr:zc6 (vs o) (vs n)){dv:Dv}{v:Value}{S:Nat->Prop}(h:(vo P vs dv v).p S w):(vo P vs (zdR o n dv) v).p S w:=by
 cases dv with
 |mw p=>
  show(vo P vs (bif xao p o then .mw n else .mw p) v).p S w;cases hb:xao p o
  ·exact h
  ·obtain rfl:=yc hb;exact(show v=y5 (vs p)from h).trans hr.out.symm
 |mv p l m=>
  show(vo P vs (bif xao p o then .mv n l m else .mv p l m) v).p S w;cases hb:xao p o
  ·exact h
  ·obtain rfl:=yc hb;simp only[vo,cond_true]at h⊢;rw[hr.out];exact h
 |hp p j=>
  show(vo P vs (bif xao p o then .hp n j else .hp p j) v).p S w;cases hb:xao p o
  ·exact h
  ·obtain rfl:=yc hb;simp only[vo,cond_true]at h⊢;rw[hr.out];exact h
 |rw p r=>
  show(vo P vs (bif xao p o then .rw n r else .rw p r) v).p S w;cases hb:xao p o
  ·exact h
  ·obtain rfl:=yc hb;exact hr.hv _ _ h
 |rp p t r j f=>
  show(vo P vs (bif xao p o then .rp n t r j f else .rp p t r j f) v).p S w;cases hb:xao p o
  ·exact h
  ·obtain rfl:=yc hb;obtain⟨h1,b,m,cap,h2,h3,h4⟩:=h;exact⟨h1,b,m,cap,hr.hv _ _ h2,h3,h4⟩
 |_=>exact h
theorem zdp{o n p:Nat}{v:Dv}(h:wu (zdR o n v)=some p):wu v=some p\/p=n:=by
 cases v with
 |mw q=>
  have h:wu (bif xao q o then Dv.mw n else .mw q)=some p:=h;cases hb:xao q o<;>rw[hb]at h
  ·exact .inl h
  ·cases h;exact .inr rfl
 |mv q l m=>
  have h:wu (bif xao q o then Dv.mv n l m else .mv q l m)=some p:=h;cases hb:xao q o<;>rw[hb]at h
  ·exact .inl h
  ·cases h;exact .inr rfl
 |hp q j=>
  have h:wu (bif xao q o then Dv.hp n j else .hp q j)=some p:=h;cases hb:xao q o<;>rw[hb]at h
  ·exact .inl h
  ·cases h;exact .inr rfl
 |rw q r=>
  have h:wu (bif xao q o then Dv.rw n r else .rw q r)=some p:=h;cases hb:xao q o<;>rw[hb]at h
  ·exact .inl h
  ·cases h;exact .inr rfl
 |rp q t r j f=>
  have h:wu (bif xao q o then Dv.rp n t r j f else .rp q t r j f)=some p:=h;cases hb:xao q o<;>rw[hb]at h
  ·exact .inl h
  ·cases h;exact .inr rfl
 |_=>exact .inl h
theorem GL{o n:Nat}:∀{rg:List (Nat×Nat×Dv)},∀e∈zfC o n rg,∃e'∈rg,e=(e'.1,e'.2.1,zdR o n e'.2.2)
 |[],e,he=>absurd he IR
 |(t,i,v)::rg,e,he=>by
  rcases xad.1 he with rfl|he
  ·exact⟨_,FS,rfl⟩
  ·obtain⟨e',h1,h2⟩:=GL e he;exact⟨e',UV _ h1,h2⟩
theorem IE{o n:Nat}:∀{rg:List (Nat×Nat×Dv)},∀e∈Gk o n rg,e∈rg\/∃e'∈rg,∃p,e'.2.2=.mw p/\e=(e'.1,e'.2.1,bif xao p o then .mw n else .mw p)
 |[],e,he=>absurd he IR
 |(t,i,v)::rg,e,he=>by
  have ih:∀e∈Gk o n rg,e∈(t,i,v)::rg\/∃e'∈(t,i,v)::rg,∃p,e'.2.2=.mw p/\e=(e'.1,e'.2.1,bif xao p o then .mw n else .mw p):=fun e he=>by
   rcases IE e he with h|⟨e',h1,p,h2,h3⟩
   ·exact .inl<|UV _ h
   ·exact .inr ⟨e',UV _ h1,p,h2,h3⟩
  cases v with
  |mw p=>
   rcases xad.1 (show e∈(t,i,bif xao p o then Dv.mw n else .mw p)::Gk o n rg from he)with rfl|he
   ·exact .inr ⟨_,FS,p,rfl,rfl⟩
   ·exact ih e he
  |_=>
   rcases xad.1 he with rfl|he
   ·exact .inl<|FS
   ·exact ih e he
theorem Dd{u v:Value}{o:Nat}{X:Od}{ob:List (Nat×Od)}{rg:List (Nat×Nat×Dv)}(hB:Bd cx σ)(hd:wv cx d=true)(hb:∀e∈ob,e.1<σ.nx)
 (hc:∀e∈rg,∃e'∈vj σ.rg d [],e.1=e'.1/\e.2.1=e'.2.1/\(∀p,wu e.2.2=some p->wu e'.2.2=some p\/p=σ.nx)/\∀v S w,(vo P (Xp vs σ.nx u) e'.2.2 v).p S w->(vo P (Xp vs σ.nx u) e.2.2 v).p S w)
 (hg:St fr.we fr.Se (Qv (Xp vs σ.nx u) (σ.nx,X)::OS vs fr cx ob) (GS P vs env fr cx σ) w):cm P fr cx σ.nx vs ⟨σ.nx+1,rg,(σ.nx,X)::ob⟩ (put env d v) w:=by
 obtain⟨ha,hi⟩:aW P fr cx ⟨σ.nx+1,vj σ.rg d [],(σ.nx,X)::ob⟩ (Xp vs σ.nx u) (put env d v) w:=by
  refine DC (σ':=⟨σ.nx+1,vj σ.rg d [],(σ.nx,X)::ob⟩) (l:=[]) (vs:=vs) (vs':=Xp vs σ.nx u) (Γl:=[]) hB hd rfl (xcd _) (fun o ho=>uJ ho) (fun _ he=>absurd he IR) ?_ (fun S w _ e he=>absurd he IR) ?_
  ·intro e he;rcases xad.1 he with rfl|he
   ·exact xca _
   ·exact xfo<|hb e he
  ·show St _ _ (Qv (Xp vs σ.nx u) (σ.nx,X)::OS (Xp vs σ.nx u) fr cx ob) _ _;rw[DZ hB hb];exact hg
 refine⟨Xp vs σ.nx u,fun o ho=>uJ ho,⟨ha.o1,ha.o2,fun e he p hp=> ?_,ha.r2⟩,hi.weak fun S w h=>zD.append (jH.2 fun f hf=> ?_)<|zD.right h⟩
 ·obtain⟨e',h1,_,_,h2,_⟩:=hc e he;rcases h2 p hp with h|rfl
  ·exact ha.r1 e' h1 p h
  ·exact xca _
 ·obtain⟨e,he,rfl⟩:=xap.1 hf;obtain⟨e',h1,h2,h3,_,h4⟩:=hc e he;have h5:=Ju (zD.left h) (t:=e'.1) (i:=e'.2.1) (d:=e'.2.2) h1;rw[h2,h3];exact Q4 h5 fun u hu=>h4 u S w hu
theorem zdy{u:Value}{o:Nat}(hr:zc6 (Xp vs σ.nx u o) (Xp vs σ.nx u σ.nx)):∀e∈zfC o σ.nx σ.rg,∃e'∈vj σ.rg none [],e.1=e'.1/\e.2.1=e'.2.1/\(∀p,wu e.2.2=some p->wu e'.2.2=some p\/p=σ.nx)/\∀v S w,(vo P (Xp vs σ.nx u) e'.2.2 v).p S w->(vo P (Xp vs σ.nx u) e.2.2 v).p S w:=by
 intro e he;obtain⟨e',h1,rfl⟩:=GL e he;exact⟨e',h1,rfl,rfl,fun p hp=>zdp hp,fun v S w h=>zcV hr h⟩
theorem Gg{u:Value}{o:Nat}{rg:List (Nat×Nat×Dv)}(hr:y5 (Xp vs σ.nx u σ.nx)=y5 (Xp vs σ.nx u o)):∀e∈Gk o σ.nx rg,∃e'∈rg,e.1=e'.1/\e.2.1=e'.2.1/\(∀p,wu e.2.2=some p->wu e'.2.2=some p\/p=σ.nx)/\∀v S w,(vo P (Xp vs σ.nx u) e'.2.2 v).p S w->(vo P (Xp vs σ.nx u) e.2.2 v).p S w:=by
 intro e he;rcases IE e he with h|⟨e',h1,p,h2,rfl⟩
 ·exact⟨e,h,rfl,rfl,fun p hp=> .inl hp,fun v S w h=>h⟩
 ·refine⟨e',h1,rfl,rfl,fun q hq=> ?_,fun v S w h=> ?_⟩
  ·rw[h2];cases hb:xao p o
   ·simp only[hb,cond_false]at hq;exact .inl hq
   ·simp only[hb,cond_true]at hq;cases hq;exact .inr rfl
  ·rw[h2]at h;have h:v=y5 (Xp vs σ.nx u p):=h;cases hb:xao p o
   ·exact h
   ·have hp:=yc hb;subst hp;exact h.trans hr.symm
end
end
section
section
variable{P:Program}{cf:Cf}{fr:Fr}{cx σ:Sg}{vs vs':Nat->Value}{env:yR}{w:World}{R:Type}{r:R}
 {d:Option Tmp}{ty t yt:TypeId}{pos:String}{aft:Array Edge}{g:Option (Nat×Bool)}{x y:Operand}
theorem NW{α:Type}{xss:List (List α)}{r:Nat}(h:r<xss.length):xss[r]? =some (jM xss r):=by simp_all [jM]
theorem ai{o:Nat}{s:Ty}{E E1:TypeId}{xss:List (List s.D)}{ix:List Nat}{ms:List MF}{Γ:List FF}(h:St fr.we fr.Se (Qv vs (o,.mat s E E1 xss ix)::ms) Γ w):
 (vg<|vs o).length=xss.length/\St fr.we fr.Se ((mO (Zm<|vg<|vs o) E (y5<|vs o) ix::wx s.rep E1 (vg<|vs o) xss)++ms) Γ w:=St.unpr<|St.grp.1 h
theorem Lr{u:Value}{s:Ty}{E E1:TypeId}{xss:List (List s.D)}{ix:List Nat}{ms:List MF}{Γ:List FF}(hl:(vg u).length=xss.length)(h:St fr.we fr.Se ((mO (Zm<|vg u) E (y5 u) ix::wx s.rep E1 (vg u) xss)++ms) Γ w):
 St fr.we fr.Se (mm s.rep E E1 u xss ix::ms) Γ w:=St.grp.2<|St.pr hl h
theorem zja{k:Sg->Option R}{ti:TI}(hT:y4 P cf.tt)(hr:Yh cf t=some ti){o p j:Nat}{e:Ty}{f:Fl e.D}(hx:x8 cx σ x=some (.rp o e p j f))(h:ZB σ ti.ty (x8 cx σ x) (x8 cx σ y) k=some r):
 ov P cx ⟨none,.store t x y,ty,pos,aft,g⟩ σ k r:=by
 obtain⟨zero,hd,_⟩:=Vu hT hr;rw[hx]at h;simp only[ZB]at h;split at h
 ·next s' E E1 xss ix hb ho _=>
  obtain⟨ht,h1⟩:=yo h;cases ht;obtain⟨q,h2,hq⟩:=X5 h1;obtain⟨zss,hz,h⟩:=xt h2;obtain⟨hb⟩:=hb;refine⟨_,h,xab _,fun fr vs env w hR=> ?_⟩;obtain⟨hB,he⟩:=hR;obtain⟨S0,_,hΓ⟩:=he.ex;obtain⟨hu,b,m,cap,hv,hj,hw⟩:=zn hx<|z6 hΓ x;have hf:=ZM ho he;obtain⟨hn,hp⟩:m=(jM (α:=e.D) xss p).length/\p<xss.length:=xV hf (i:=0) rfl fun S hp=>⟨fE (lv (show(mm e.rep E E1 (vs o) xss ix).p S w from hp) hv).1 rfl,(lv (show(mm e.rep E E1 (vs o) xss ix).p S w from hp) hv).2⟩;obtain⟨hl,hg⟩:=ai hf;have hi:=ze2 (e:=e.rep) (E:=E) (E1:=E1) (v:=y5<|vs o) (ix:=ix) hv (NW (α:=e.D) hp)<|OS vs fr cx<|yG σ.ob o;obtain⟨b',cap',hy,hA,hC,hs⟩:=hg.openO (p+1) hi (by lia);cases hy;rw[<-hb]at hd;have hk:=(Sub.rowT0 e.rep cap (jM (α:=e.D) xss p) j ((jM (α:=e.D) xss p).getD j e.z)<|getD_some e.z<|by lia).comp<|hu<|(jM (α:=e.D) xss p).getD j e.z;refine(Yr (f:=f.f.rep) (y':=q) (p+1) (wA hi) hw rfl hk hd (fun S w ha=>hq P vs env S w<|z6 ha y) w hs).mono ?_;rintro v w' ⟨_,rfl,_,hD⟩;refine dJ (vs:=vs) hB ho<|Pn ho ?_;have hc:(xfW (jM (α:=e.D) xss p) j<|f.set q<|(jM (α:=e.D) xss p).getD j e.z).length=(jM (α:=e.D) xss p).length:=xcL ..;have hm:=hD.closeF (p+1) (wA<|wA hi) (by rw[hc];exact hA) hC;rw[kJ,kJ,hc,Ik hv hp hl]at hm;rw[hz];exact Lr (by rw[show(zjq (α:=e.D) xss p _).length=xss.length from xcL ..];exact hl) hm
 ·cases h
theorem zjX{k:Sg->Option R}{ti:TI}(hT:y4 P cf.tt)(hq:Yh cf t=some ti){o j o' p:Nat}(hx:x8 cx σ x=some (.hp o j))(hy:x8 cx σ y=some (.rw o' p))(h:ZB σ ti.ty (x8 cx σ x) (x8 cx σ y) k=some r):
 ov P cx ⟨none,.store t x y,ty,pos,aft,g⟩ σ k r:=by
 obtain⟨zero,hc,_⟩:=Vu hT hq;rw[hx,hy]at h;simp only[ZB]at h;obtain⟨hr,h⟩:=yn h;obtain rfl:=yc hr;split at h
 ·next s' E E1 xss ix q ho ht=>
  obtain⟨iz,hz,h⟩:=xt h;refine⟨_,h,xab _,fun fr vs env w hR=> ?_⟩;obtain⟨hB,hd⟩:=hR;obtain⟨S0,_,hΓ⟩:=hd.ex;obtain⟨b,m,cap,hv,hj,hu⟩:=zn hx<|z6 hΓ x;have hw:(vg<|vs o')[p]? =some (ev env y):=zn hy<|z6 hΓ y;have he:=ZM ho hd;obtain⟨hn,hf⟩:m=ix.length/\(ev env y).oneCell'=true:=xV he (i:=0) rfl fun S hp=>⟨fE (CX (show(mm s'.rep E E1 (vs o') xss ix).p S w from hp)).2.1 hv,(Fc (lv (show(mm s'.rep E E1 (vs o') xss ix).p S w from hp) hw).1).1⟩;obtain⟨hl,hg⟩:=ai he;obtain⟨b',cap',hi,hA,hC,hs⟩:=hg.openO 0 rfl (by lia);rw[hv]at hi;cases hi;have hk:=Sub.rowT0 (Zm<|vg<|vs o') cap ix j (ix.getD j 0) (getD_some 0<|by lia);rw[ht]at hc;refine(Yr (f:=Zm<|vg<|vs o') (y':=p) 0 rfl hu rfl hk hc (fun S w ha=> ?_) w hs).mono ?_
  ·exact SW (zn hy<|z6 ha y) hf
  rintro v w' ⟨_,rfl,_,hD⟩;refine dJ (vs:=vs) hB ho<|Pn ho ?_;have hb:(ix.set j p).length=ix.length:=xcL ..;have hm:=hD.closeF 0 rfl (by rw[hb];exact hA) hC;rw[hb,<-hv]at hm;rw[hz];exact Lr hl hm
 ·cases h
theorem zdP{u:Value}{o:Nat}{hv:List Value}(hu:vg u=vg (vs o)++hv)(ho:y5 u=y5 (vs o))(ha:o<σ.nx):zc6 (Xp vs σ.nx u o) (Xp vs σ.nx u σ.nx):=by
 rw[uJ ha,vF];refine⟨ho,fun r v h=> ?_⟩;rw[hu,xbq (xau.1 h).1];exact h
theorem Ff{o:Nat}{X:Od}(hB:Bd cx σ)(h:xR σ.ob o=some X):o<σ.nx:=by
 obtain⟨i,h1,_⟩:=wQ h;exact hB.o1 _<|xbx h1
theorem td(hB:Bd cx σ){o p:Nat}:∀e∈yG (yG σ.ob o) p,e.1<σ.nx:=fun e he=>hB.o1 e<|uw e<|uw e he
theorem ziY{k:Sg->Option R}{ti:TI}(hT:y4 P cf.tt)(ht:Yh cf t=some ti){o j o2:Nat}(hx:x8 cx σ x=some (.hp o j))(hy:x8 cx σ y=some (.ow o2))(h:ZB σ ti.ty (x8 cx σ x) (x8 cx σ y) k=some r):
 ov P cx ⟨none,.store t x y,ty,pos,aft,g⟩ σ k r:=by
 obtain⟨zero,hd,_⟩:=Vu hT ht;rw[hx,hy]at h;simp only[ZB]at h;obtain⟨he,h⟩:=yn h;rw[xdn]at he;split at h
 ·next s' E E1 xss ix s2 E2 ys q ho hu hw=>
  obtain⟨hE,h0⟩:=yn h;obtain rfl:=yc hE;obtain⟨hA,h1⟩:=yo h0;cases hA;obtain⟨zss,hz,h2⟩:=xt h1;obtain⟨iz,hi,h3⟩:=xt h2;refine⟨_,h3,xcd _,fun fr vs env w hR=> ?_⟩;obtain⟨hB,hf⟩:=hR;obtain⟨S0,_,hΓ⟩:=hf.ex;obtain⟨b,m,cap,hv,hj,hC⟩:=zn hx<|z6 hΓ x;have hD:ev env y=vs o2:=zn hy<|z6 hΓ y;have hb:=e9 he ho hu hf;have hn:m=ix.length:=xV hb (i:=0) rfl fun S hp=>fE (CX (show(mm s'.rep E E1 (vs o) xss ix).p S w from hp)).2.1 hv;obtain⟨hk,_⟩:(vs o2).oneCell'=true/\_:=xV hb (i:=1) (m:=mO s'.rep E1 (vs o2) ys) rfl fun S hp=>Fc hp;have hl:=(ai hb).1
  have hg:St fr.we fr.Se ((mO (Zm<|vg (vs o)++[vs o2]) E (y5<|vs o) ix::wx s'.rep E1 (vg (vs o)++[vs o2]) (xss++[ys]))++OS vs fr cx (yG (yG σ.ob o) o2)) (GS P vs env fr cx σ) w:=
   St.grp.1 (St.adopt hl<|St.grp.2 (ai hb).2)
  obtain⟨b',cap',hm,hF,hG,hs⟩:=hg.openO 0 rfl (by lia);rw[hv]at hm;cases hm;have hq:=Sub.rowT0 (Zm<|vg (vs o)++[vs o2]) cap ix j (ix.getD j 0) (getD_some 0<|by lia);rw[hw]at hd;refine(Yr (f:=Zm<|vg (vs o)++[vs o2]) (y':=xss.length) 0 rfl hC hD hq hd (fun S w ha=>SW (by rw[<-hl];simp) hk) w hs).mono ?_;rintro v w' ⟨_,rfl,_,hH⟩;have hc:(ix.set j xss.length).length=ix.length:=xcL ..;have hr:=hH.closeF 0 rfl (by rw[hc];exact hF) hG;rw[hc,<-hv]at hr;refine Dd (o:=o) (u:=UC (y5<|vs o)<|vg (vs o)++[vs o2]) hB rfl (td hB) (zdy<|zdP rfl rfl<|Ff hB ho) ?_;rw[moU,hi,hz];refine Lr (u:=UC (y5<|vs o)<|vg (vs o)++[vs o2]) (by show(vg (vs o)++[vs o2]).length=(xss++[ys]).length;simp[hl]) hr
 ·cases h
theorem zko{k:Sg->Option R}{ti:TI}(hT:y4 P cf.tt)(hj:Yh cf t=some ti){o o2:Nat}(hx:x8 cx σ x=some (.mw o))(hy:x8 cx σ y=some (.ow o2))(h:ZB σ ti.ty (x8 cx σ x) (x8 cx σ y) k=some r):
 ov P cx ⟨none,.store t x y,ty,pos,aft,g⟩ σ k r:=by
 obtain⟨zero,hc,_⟩:=Vu hT hj;rw[hx,hy]at h;simp only[ZB]at h;obtain⟨hd,h⟩:=yn h;rw[xdn]at hd;split at h
 ·next E0 s2 E2 ys q ho hk hm=>
  refine⟨_,h,xcd _,fun fr vs env w hR=> ?_⟩;obtain⟨hB,he⟩:=hR;obtain⟨S0,_,hΓ⟩:=he.ex;have hn:ev env x=y5 (vs o):=zn hx<|z6 hΓ x;have hq:ev env y=vs o2:=zn hy<|z6 hΓ y;have hf:=e9 hd ho hk he;obtain⟨hg,_⟩:(vs o2).oneCell'=true/\_:=xV hf (i:=1) (m:=mO s2.rep E2 (vs o2) ys) rfl fun S hp=>Fc hp;obtain⟨hl,h1⟩:=St.unpr<|St.grp.1 hf;have h1:St fr.we fr.Se (mP (Zm<|vg<|vs o).c E0 (y5<|vs o) 0::mO s2.rep E2 (vs o2) ys::OS vs fr cx (yG (yG σ.ob o) o2)) (GS P vs env fr cx σ) w:=h1;obtain⟨b,hb,h2⟩:=h1.openP 0 rfl;have hi:=TR hl;have h3:=h2.conv (i:=0) (m:=mB (Zm<|vg<|vs o).c E0 b 0) (m':=mB (Zm<|vg (vs o)++[vs o2]).c E0 b 0) rfl rfl fun S hp=>by
   obtain⟨cs,g1,u,g2,g3,g4⟩:=hp;exact⟨cs,g1,u,by rw[xbq (xau.1 g2).1];exact g2,g3,g4⟩
  rw[hm]at hc;refine(Yr (e:=(Zm<|vg (vs o)++[vs o2]).c) (f:=Zm<|vg (vs o)++[vs o2]) (z':=0) (y':=1) (up:=id) 0 rfl (hn.trans hb) hq (Sub.self (Zm<|vg (vs o)++[vs o2]) 0) hc (fun S w ha=>SW (by rw[hi];rfl) hg) w h3).mono ?_;rintro v w' ⟨_,rfl,_,hr⟩;have h4:St fr.we fr.Se (mB (Zm<|vg (vs o)++[vs o2]).c E0 b 1::mO s2.rep E2 (vs o2) ys::OS vs fr cx (yG (yG σ.ob o) o2)) (GS P vs env fr cx σ) w':=hr;have h5:=h4.conv (i:=0) (m:=mB (Zm<|vg (vs o)++[vs o2]).c E0 b 1) (m':=mB (Zm [vs o2]).c E0 b 0) rfl rfl fun S hp=>by
   obtain⟨cs,g1,u,g2,g3,g4⟩:=hp;refine⟨cs,g1,u,?_,g3,g4⟩;rw[hi]at g2;exact g2
  have h6:=h5.toP 0 rfl;rw[<-hb]at h6;have h7:St fr.we fr.Se (mP (Zm [vs o2]).c E0 (y5<|vs o) 0::mO s2.rep E2 (vs o2) ys::OS vs fr cx (yG (yG σ.ob o) o2)) (GS P vs env fr cx σ) w':=h6;refine Dd (o:=o) (u:=UC (y5<|vs o) [vs o2]) hB rfl (td hB) (Gg<|by rw[vF,uJ<|Ff hB ho];rfl) ?_
  ·rw[moU];exact St.grp.2<|St.pr (p:=([vs o2]:List Value).length=1) rfl h7
 ·cases h
theorem Tn(hT:y4 P cf.tt){k:Sg->Option R}{ti:TI}(ha:Yh cf t=some ti)(h:ZB σ ti.ty (x8 cx σ x) (x8 cx σ y) k=some r):ov P cx ⟨none,.store t x y,ty,pos,aft,g⟩ σ k r:=by
 have h0:=h;unfold ZB at h;split at h
 ·next o e r j f hx=>exact zja hT ha hx h0
 ·next o j o' r hx hy=>exact zjX hT ha hx hy h0
 ·next o j o2 hx hy=>exact ziY hT ha hx hy h0
 ·next o o2 hx hy=>exact zko hT ha hx hy h0
 ·cases h
theorem lH:∀{ob:List (Nat×Od)}{o p:Nat},o≠p->yG (yG ob o) p=yG (yG ob p) o
 |[],_,_,_=>rfl
 |(q,X)::r,o,p,h=>by
  have ih:=lH (ob:=r) h;cases h1:xao q o
  ·cases h2:xao q p
   ·simp only[yG,h1,h2,cond_false];rw[ih]
   ·simp only[yG,h1,h2,cond_false,cond_true]
  ·cases h2:xao q p
   ·simp only[yG,h1,h2,cond_false,cond_true]
   ·have:=(yc h1).symm.trans<|yc h2;exact absurd this h
theorem B6{S:Nat->Prop}{w:World}{hv ha:List Value}:∀{ix:List Nat}{cs:List Value},yx (Zm ha) S ix cs w->yx (Zm<|hv++ha) S (ix.map (hv.length+ ·)) cs w
 |[],_,h=>h
 |r::ix,cs,⟨c,q,h1,⟨u,h2,h3,h4⟩,h5⟩=>⟨c,q,h1,⟨u,by show(hv++ha)[hv.length+r]? =some u;rw[xcn<|xbO _ _,xfb];exact h2,h3,h4⟩,B6 h5⟩
theorem BH{α:Type}{e:z7 α}{E:TypeId}:∀{hv ha:List Value}{xss yss:List (List α)},hv.length=xss.length->wx e E (hv++ha) (xss++yss)=wx e E hv xss++wx e E ha yss
 |[],_,[],_,_=>rfl
 |u::hv,ha,xs::xss,yss,h=>by
  show mO e E u xs::wx e E (hv++ha) (xss++yss)=mO e E u xs::(wx e E hv xss++wx e E ha yss);rw[BH<|by simpa using h]
 |[],_,_::_,_,h=>by cases h
 |_::_,_,[],_,h=>by cases h
theorem zgT(hT:y4 P cf.tt){ags:Array Operand}{ts:Array TypeId}{k:Sg->Option R}(hd:wv cx d=true)(h:zdj cf cx σ d ags.toList ts.toList k=some r):
 ov P cx ⟨d,.call ⟨.builtin .append,ags,ts⟩,ty,pos,aft,g⟩ σ k r:=by
 unfold zdj at h;split at h
 ·next _ _ x y t t' hS hU=>
  obtain rfl:ags= #[x,y]:=by cases ags;simp_all
  obtain rfl:ts= #[t,t']:=by cases ts;simp_all
  split at h
  ·next s E B o p ht hx hy=>
   obtain⟨hg,h6⟩:=yn h;rw[xam]at hg;obtain⟨hC,hl⟩:=hg;obtain rfl:=yc hC;rw[xdn]at hl;clear h;split at h6
   ·next q1 q2 B1 s1 E1 F1 xss ix s2 E2 F2 yss iy hn ho hp=>
    obtain⟨hg,h1⟩:=yn h6;simp only[xam]at hg;obtain⟨hf,hj,hF⟩:=hg;have hf:=yc hf;have hj:=yc hj;have hF:=yc hF;subst hf;subst hj;subst hF;obtain⟨hD,h2⟩:=yo h1;cases hD;obtain⟨hb,h3⟩:=kU h2;obtain⟨zss,hz,h4⟩:=xt h3;obtain⟨iz,hi,h5⟩:=xt h4;have hE:=Mb hT hn rfl;have hc:=(hT _ _ hn).2.1;refine⟨_,h5,xcd _,fun fr vs env w hR=> ?_⟩;obtain⟨hB,hr⟩:=hR;obtain⟨S0,_,hΓ⟩:=hr.ex;have hG:ev env x=y5 (vs o):=zn hx<|z6 hΓ x;have hH:ev env y=y5 (vs p):=zn hy<|z6 hΓ y;have hI:=e9 hl ho hp hr;obtain⟨hk,hJ⟩:=ai hI;have hu:St fr.we fr.Se (Qv vs (p,.mat s1 E2 F1 yss iy)::((mO (Zm<|vg<|vs o) E2 (y5<|vs o) ix::wx s1.rep F1 (vg<|vs o) xss)++OS vs fr cx (yG (yG σ.ob o) p))) (GS P vs env fr cx σ) w:=hJ.perm xcu;obtain⟨hK,hL⟩:=ai hu;have hN:St fr.we fr.Se (mO (Zm<|vg<|vs o) E2 (y5<|vs o) ix::mO (Zm<|vg<|vs p) E2 (y5<|vs p) iy::(wx s1.rep F1 (vg<|vs o) xss++wx s1.rep F1 (vg<|vs p) yss++OS vs fr cx (yG (yG σ.ob o) p))) (GS P vs env fr cx σ) w:=by
     refine hL.perm ?_;simp only[xbI,xaj];refine(List.Perm.cons _ xcu).trans<|(xeP ..).trans ?_;refine List.Perm.cons _<|List.Perm.cons _ ?_;exact(xdE ..)
    have hO:=hN.conv (i:=0) (m:=mO (Zm<|vg<|vs o) E2 (y5<|vs o) ix) (m':=mO (Zm<|vg (vs o)++vg (vs p)) E2 (y5<|vs o) ix) rfl rfl fun S hq=>PJ hq;have GK:∀m,m*B1<=140737488355328->m<=9223372036854775807:=fun m hm=>by
     have hc:0<B1:=hc;have:=xbU m hc;lia
    have he:(iy.map (xaI xss+ ·)).length=iy.length:=xaP _;refine(Jy (e:=Zm<|vg (vs o)++vg (vs p)) (ys:=iy.map (xaI xss+ ·)) 0 (vq hT ht) hE rfl xea rfl hG hH (fun S w hM ha=> ?_) (GK _<|by rw[he];exact hb) (by rw[he];exact hb) w hO).mono ?_
    ·have hm:(mO (Zm<|vg<|vs p) E2 (y5<|vs p) iy).p S w:=hM.2.1;have hw:(mO (Zm<|vg (vs o)++vg (vs p)) E2 (y5<|vs p) (iy.map (xaI xss+ ·))).p S w:=by
      obtain⟨cs,a1,a2⟩:=hm;refine⟨cs,by rw[he];exact a1,?_⟩;rw[<-hk];exact B6 a2
     rcases Ug hw with⟨hv,hA⟩|⟨b,cap,hv,hP,hQ⟩
     ·rw[hv,hA];exact⟨none,0,rfl,xab _,xah _,.inl rfl⟩
     ·have h6:=EZ hw hv (l:=0) (n:=(iy.map (xaI xss+ ·)).length) (c:=cap) (by lia) hP hQ;rw[List.drop_zero,xcy]at h6;rw[hv];simpa using h6
    rintro v w' ⟨v',rfl,_,hs⟩;refine Uu (vs:=vs) (mk:=.mw) (u:=UC v<|vg (vs o)++vg (vs p)) hB hd (td hB) (fun _=>rfl) (fun S w=>by simp only[vo,vF];rfl) ?_;rw[moU,hz,hi];have h7:St fr.we fr.Se (mO (Zm<|vg (vs o)++vg (vs p)) E2 v (ix++iy.map (xaI xss+ ·))::mO (Zm<|vg<|vs p) E2 (y5<|vs p) iy::(wx s1.rep F1 (vg<|vs o) xss++wx s1.rep F1 (vg<|vs p) yss++OS vs fr cx (yG (yG σ.ob o) p))) (GS P vs env fr cx σ) w':=hs;have h8:=St.drop (i:=1) h7;refine Lr (u:=UC v<|vg (vs o)++vg (vs p)) (by show(vg (vs o)++vg (vs p)).length=(xss++yss).length;simp[hk,hK]) ?_;show St _ _ ((mO (Zm<|vg (vs o)++vg (vs p)) E2 v _::wx s1.rep F1 (vg (vs o)++vg (vs p)) (xss++yss))++_) _ _;rw[BH hk];exact h8
   ·cases h6
  ·cases h
 ·cases h
theorem Sp(hX:Ak P cf){s:tH}{f:Operand}{ags:Array Operand}{ts:Array TypeId}{k:Sg->Option R}(hd:wv cx d=true)(hf:x8 cx σ f=some (.fn s.f []))(hs:s∈cf.ms)(h:pY cx σ d s ags.toList k=some r):
 ov P cx ⟨d,.call ⟨.value f,ags,ts⟩,ty,pos,aft,g⟩ σ k r:=by
 obtain⟨hb,hq⟩:=hX.ms s hs;unfold pY at h;split at h
 ·next _ x a p y hF=>
  obtain rfl:ags= #[x,a,p,y]:=by cases ags;simp_all
  split at h
  ·next o r0 av pv o' lo n hx ha hp hy=>
   obtain⟨hr,h6⟩:=yn h;obtain rfl:=yc hr;clear h;split at h6
   ·next s1 E E1 xss ix ho=>
    obtain⟨hg,h1⟩:=yn h6;rw[xam]at hg;have hE:=yc hg.1;have hi:=yc hg.2;obtain⟨ht,h2⟩:=yo h1;cases ht;obtain⟨zss,hz,h3⟩:=rk h2;refine⟨_,h3,xcd _,fun fr vs env w hR=> ?_⟩;obtain⟨hB,hj⟩:=hR;obtain⟨S0,_,hΓ⟩:=hj.ex;have hw:(vg<|vs o)[r0]? =some (ev env x):=zn hx<|z6 hΓ x;have hk:=xZ ha<|z6 hΓ a;have hl:=xZ hp<|z6 hΓ p;have hA:FI (y5<|vs o) lo n (ev env y):=zn hy<|z6 hΓ y;obtain⟨cvs,hv,hC,hG⟩:=zn hf<|z6 hΓ f;obtain rfl:cvs=[]:=xbF.1 hC;have hm:=ZM ho hj;rw[hE,hi]at hm;have hc:=hq xss ix r0 av pv lo n zss hz (vs o) (ev env x) (ev env y) hw hA hk.2 hl.2 fr.we fr.Se _ _ w hm;have hn:(execOp (ev env) ⟨d,.call ⟨.value f,#[x,a,p,y],ts⟩,ty,pos,aft,g⟩).run P w=.ok (.enter s.f #[ev env x,.int .i64 av,.int .i64 pv,ev env y]) w:=by simp[execOp,resolve,hv,xdI,invoke,kS hb,hk.1,hl.1]
    unfold kF;rw[hn];refine hc.mono ?_;rintro e w' ⟨v,u',rfl,hu,hD⟩;refine⟨v,rfl,Dd (o:=o) (u:=u') hB hd (fun e he=>hB.o1 e<|uw e he) (Gg<|by rw[vF,uJ<|Ff hB ho];exact hu) ?_⟩;rw[moU];show St _ _ (mm s.t.rep E E1 u' zss ix::_) _ _;rw[hE,hi];exact hD
   ·cases h6
  ·cases h
 ·cases h
theorem sN{o n:Nat}:∀{rg:List (Nat×Nat×Dv)},∀e∈HK o n rg,e∈rg\/∃e'∈rg,∃p,e'.2.2=.yd p/\e=(e'.1,e'.2.1,bif xao p o then .yd n else .yd p)
 |[],e,he=>absurd he IR
 |(t,i,v)::rg,e,he=>by
  have ih:∀e∈HK o n rg,e∈(t,i,v)::rg\/∃e'∈(t,i,v)::rg,∃p,e'.2.2=.yd p/\e=(e'.1,e'.2.1,bif xao p o then .yd n else .yd p):=fun e he=>by
   rcases sN e he with h|⟨e',h1,p,h2,h3⟩
   ·exact .inl<|UV _ h
   ·exact .inr ⟨e',UV _ h1,p,h2,h3⟩
  cases v with
  |yd p=>
   rcases xad.1 (show e∈(t,i,bif xao p o then Dv.yd n else .yd p)::HK o n rg from he)with rfl|he
   ·exact .inr ⟨_,FS,p,rfl,rfl⟩
   ·exact ih e he
  |_=>
   rcases xad.1 he with rfl|he
   ·exact .inl<|FS
   ·exact ih e he
theorem zct(hX:Ak P cf){o:Nat}{f:Operand}{ags:Array Operand}{ts:Array TypeId}{k:Sg->Option R}(hd:wv cx d=true)(hf:x8 cx σ f=some (.yd o))(h:E7 cx σ d o ags.toList k=some r):
 ov P cx ⟨d,.call ⟨.value f,ags,ts⟩,ty,pos,aft,g⟩ σ k r:=by
 unfold E7 at h;split at h
 ·next _ x hC=>
  obtain rfl:ags= #[x]:=by cases ags;simp_all
  split at h
  ·next p hx=>
   obtain⟨hi,h⟩:=yn h;rw[xdn]at hi;split at h
   ·next t E X Y mX mY gg z s E2 ys ho hp=>
    obtain⟨hE,h1⟩:=yn h;have hE:=yc hE;subst hE;obtain⟨hm,h2⟩:=yo h1;cases hm;obtain⟨q,hq,h3⟩:=rk h2
    have main:∀(fr:Fr) (vs:Nat->Value) (env:yR) (w:World),aW P fr cx σ vs env w->kF P ⟨d,.call ⟨.value f,#[x],ts⟩,ty,pos,aft,g⟩ env w fun v w'=>v=.bool q.2.isLeft/\Bd cx σ/\HV P (lOf<|y5<|vs o) t.rep E2 mX mY gg/\
     ∃u',St fr.we fr.Se (xfu (fun x=>mX x u') (fun y=>mY y u') q.2::mO t.rep E2 (vs p) q.1::OS vs fr cx (yG (yG σ.ob o) p)) (GS P vs env fr cx σ) w':=by
     intro fr vs env w hR;obtain⟨hB,hj⟩:=hR;obtain⟨S0,_,hΓ⟩:=hj.ex;have hn:ev env x=vs p:=zn hx<|z6 hΓ x;have ht:ev env f=.func (.yield<|lOf<|y5<|vs o) #[] #[]:=zn hf<|z6 hΓ f;have hv:=e9 hi ho hp hj;obtain⟨hY,h4⟩:=St.unpr<|St.grp.1 hv;rw[<-hX.pp]at hY;have h4:St fr.we fr.Se (mX z ((vg<|vs o).headD undef)::mO t.rep E2 (vs p) ys::OS vs fr cx (yG (yG σ.ob o) p)) (GS P vs env fr cx σ) w:=h4;obtain⟨fn,tmps,as',bd',hy,hR⟩:=hY ys z q.1 q.2 hq (vs p) _ _ _ _ _ w h4;have hk:(execOp (ev env) ⟨d,.call ⟨.value f,#[x],ts⟩,ty,pos,aft,g⟩).run P w=.ok (.round (lOf<|y5<|vs o) fn tmps as' bd') w:=by
      rw[<-hn]at hy;simp[execOp,resolve,ht,xdI,invoke,hy]
     unfold kF;rw[hk];exact hR.mono fun e w' ⟨h5,h6⟩=>⟨_,h5,rfl,hB,hY,h6⟩
    have fin:∀(X':Od) (b:Bool) (u':Value) (vs:Nat->Value) (fr:Fr) (env:yR) (w':World),Bd cx σ->St fr.we fr.Se (Qv (Xp vs σ.nx<|UC (y5<|vs o) [u']) (σ.nx,X')::mO t.rep E2 (vs p) q.1::OS vs fr cx (yG (yG σ.ob o) p)) (GS P vs env fr cx σ) w'->
     cm P fr cx σ.nx vs ⟨σ.nx+1,HK o σ.nx<|vj σ.rg d [(0,.kb b)],(σ.nx,X')::yG (kI σ.ob p (.own t E2 q.1)) o⟩ (put env d (.bool b)) w':=by
     intro X' b u' vs fr env w' hB hs;have hc:p≠o:=fun e=>by subst e;simp at hi
     have hw:=Ff hB ho;have hD:xR (yG σ.ob o) p=some (.own t E2 ys):=by rw[QT hc];exact hp
     have hz:St fr.we fr.Se (Qv (Xp vs σ.nx<|UC (y5<|vs o) [u']) (σ.nx,X')::OS vs fr cx (yG (kI σ.ob p (.own t E2 q.1)) o)) (GS P vs env fr cx σ) w':=by
      have h7:=kN (vs:=vs) (fr:=fr) (cx:=cx) (ob:=yG (kI σ.ob p (.own t E2 q.1)) o) (o:=p) (X:=.own t E2 q.1) (by rw[QT hc];exact(Jk hp).1);have h8:yG (yG (kI σ.ob p (.own t E2 q.1)) o) p=yG (yG σ.ob o) p:=by rw[lH<|fun e=>hc e.symm,(Jk hp).2,lH<|fun e=>hc e]
      rw[h8]at h7;exact hs.perm<|h7.symm.cons _
     obtain⟨ha,hA⟩:aW P fr cx ⟨σ.nx+1,vj σ.rg d [(0,.kb b)],(σ.nx,X')::yG (kI σ.ob p (.own t E2 q.1)) o⟩ (Xp vs σ.nx<|UC (y5<|vs o) [u']) (put env d (.bool b)) w':=by
      have hl:∀e∈yG (kI σ.ob p (.own t E2 q.1)) o,e.1<σ.nx:=fun e he=>by
       obtain⟨e1,g1,g2⟩:=U2 hp e<|uw e he;rw[<-g2];exact hB.o1 e1 g1
      refine DC (σ':=⟨σ.nx+1,vj σ.rg d [(0,.kb b)],(σ.nx,X')::yG (kI σ.ob p (.own t E2 q.1)) o⟩) (l:=[(0,.kb b)]) (vs:=vs) (Γl:=[]) hB hd rfl (xcd _) (fun o ho=>uJ ho) (fun e he p hp=> ?_) (fun e he=> ?_) (fun S w _ e he=> ?_) ?_
      ·obtain rfl:=xai.1 he;cases hp
      ·rcases xad.1 he with rfl|he
       ·exact xca _
       ·exact xfo<|hl e he
      ·obtain rfl:=xai.1 he;exact rfl
      ·show St _ _ (Qv (Xp vs σ.nx _) (σ.nx,X')::OS (Xp vs σ.nx _) fr cx (yG (kI σ.ob p (.own t E2 q.1)) o)) _ _;rw[DZ hB hl];exact hz
     refine⟨_,fun o ho=>uJ ho,⟨ha.o1,ha.o2,fun e he r hr=> ?_,ha.r2⟩,hA.weak fun S w h=>zD.append (jH.2 fun f hf=> ?_)<|zD.right h⟩
     ·rcases sN e he with h|⟨e',h1,r',h2,rfl⟩
      ·exact ha.r1 e h r hr
      ·cases hb:xao r' o<;>simp only[hb,cond_true,cond_false]at hr
       ·exact ha.r1 e' h1 r<|by rw[h2];exact hr
       ·cases hr;exact xca _
     ·obtain⟨e,he,rfl⟩:=xap.1 hf;rcases sN e he with h'|⟨e',h1,r',h2,rfl⟩
      ·exact Ju (zD.left h) h'
      ·have h5:=Ju (zD.left h) (t:=e'.1) (i:=e'.2.1) (d:=e'.2.2) h1;rw[h2]at h5;refine Q4 h5 fun u hu=> ?_;cases hb:xao r' o
       ·exact hu
       ·have hu:u=.func (.yield<|lOf<|y5<|Xp vs σ.nx (UC (y5<|vs o) [u']) r') #[] #[]:=hu;rw[yc hb,uJ hw]at hu;show u=.func (.yield<|lOf<|y5<|Xp vs σ.nx (UC (y5<|vs o) [u']) σ.nx) #[] #[];rw[vF];exact hu
    cases hg:q.2 with
    |inl z'=>
     rw[hg]at h3;refine⟨_,h3,xcd _,fun fr vs env w hR=>(main fr vs env w hR).mono ?_⟩;rintro v w' ⟨rfl,hB,hY,u',hs⟩;rw[hg]at hs⊢;refine fin _ true u' vs fr env w' hB ?_;rw[moU];refine St.grp.2 ?_;rw[<-hX.pp];exact St.pr hY hs
    |inr y'=>
     rw[hg]at h3;refine⟨_,h3,xcd _,fun fr vs env w hR=>(main fr vs env w hR).mono ?_⟩;rintro v w' ⟨rfl,hB,hY,u',hs⟩;rw[hg]at hs⊢;refine fin _ false u' vs fr env w' hB ?_;rw[moU];exact hs
   ·cases h
  ·cases h
 ·cases h
end
end
section
section
variable{P:Program}{cf:Cf}{fr:Fr}{cx σ:Sg}{vs vs':Nat->Value}{env:yR}{w:World}{R:Type}{r:R}
 {d:Option Tmp}{ty t yt:TypeId}{pos:String}{aft:Array Edge}{g:Option (Nat×Bool)}{x y:Operand}
theorem Ln{o:Nat}{s:Ty}{E:TypeId}{xs:List s.D}{S:Nat->Prop}(hf:(fV (eS s.rep) xs<|vs o).p S w):∀{rg:List (Nat×Nat×Dv)},zD S (RS P vs env rg) w->zD S (RS P vs env<|E8 o (.own s E xs) rg) w
 |[],_=>trivial
 |(t,i,v)::rg,h=>by
  refine⟨?_,Ln hf h.2⟩;have h1:(xN P vs v (env t) i).p S w:=h.1;show(xN P vs (Ab o (.own s E xs) v) (env t) i).p S w;cases v<;>try exact h1
  rename_i o';unfold Ab;cases hb:xao o' o<;>simp only[hb,cond_false,cond_true]
  ·exact h1
  ·have:=yc hb;subst this;refine Q4 h1 fun u hu=> ?_;rw[show u=vs o' from hu];exact hf
theorem HP{o:Nat}{s:Ty}{E:TypeId}{z:s.D}{S:Nat->Prop}(hf:(fP s.rep z<|vs o).p S w):∀{rg:List (Nat×Nat×Dv)},zD S (RS P vs env rg) w->zD S (RS P vs env<|E8 o (.var s E z) rg) w
 |[],_=>trivial
 |(t,i,v)::rg,h=>by
  refine⟨?_,HP hf h.2⟩;have h1:(xN P vs v (env t) i).p S w:=h.1;show(xN P vs (Ab o (.var s E z) v) (env t) i).p S w;cases v<;>try exact h1
  rename_i o' s';unfold Ab;cases hb:xao o' o<;>simp only[hb,cond_false,cond_true]
  ·exact h1
  ·have:=yc hb;subst this;refine Q4 h1 fun u hu=> ?_;rw[show u=vs o' from hu.1];exact hf
theorem HA{o:Nat}{s:Ty}{E E1:TypeId}{xss:List (List s.D)}{ix:List Nat}{S:Nat->Prop}(hf:(fV (eS<|eS s.rep) (SC xss ix)<|y5<|vs o).p S w):∀{rg:List (Nat×Nat×Dv)},zD S (RS P vs env rg) w->zD S (RS P vs env<|E8 o (.mat s E E1 xss ix) rg) w
 |[],_=>trivial
 |(t,i,v)::rg,h=>by
  refine⟨?_,HA hf h.2⟩;have h1:(xN P vs v (env t) i).p S w:=h.1;show(xN P vs (Ab o (.mat s E E1 xss ix) v) (env t) i).p S w;cases v<;>try exact h1
  rename_i o';unfold Ab;cases hb:xao o' o<;>simp only[hb,cond_false,cond_true]
  ·exact h1
  ·have:=yc hb;subst this;refine Q4 h1 fun u hu=> ?_;rw[show u=y5 (vs o')from hu];exact hf
theorem KR{o:Nat}{X:Od}(hX:∀v,Ab o X v=v):∀{rg:List (Nat×Nat×Dv)},E8 o X rg=rg
 |[]=>rfl
 |(t,i,v)::rg=>by
  show(t,i,Ab o X v)::E8 o X rg=_;rw[hX,KR hX]
theorem zbK{o p:Nat}{X:Od}{v:Dv}(h:wu (Ab o X v)=some p):wu v=some p:=by
 unfold Ab at h;split at h
 ·next o' s E xs=>
  cases hb:xao o' o<;>rw[hb]at h
  ·exact h
  ·cases h
 ·next o' t' s E z=>
  cases hb:xao o' o<;>rw[hb]at h
  ·exact h
  ·cases h
 ·next o' s E E1 xss ix=>
  cases hb:xao o' o<;>rw[hb]at h
  ·exact h
  ·cases h
 ·exact h
theorem Ij{o:Nat}{X:Od}:∀{rg:List (Nat×Nat×Dv)},∀e∈E8 o X rg,∀p,wu e.2.2=some p->∃e'∈rg,wu e'.2.2=some p
 |[],e,he=>absurd he IR
 |(t,i,v)::rg,e,he=>by
  intro p hp;rcases xad.1 he with rfl|he
  ·refine⟨(t,i,v),FS,?_⟩;exact zbK hp
  ·obtain⟨e',h1,h2⟩:=Ij e he p hp;exact⟨e',UV _ h1,h2⟩
theorem BM{o:Nat}(h:aW P fr cx σ vs env w):aW P fr cx (Ib σ o) vs env w:=by
 unfold Ib;split
 ·next X ho=>
  obtain⟨hB,hb⟩:=h;obtain⟨i,hi,_,hc⟩:=wQ ho;have hd:Bd cx ⟨σ.nx,E8 o X σ.rg,yG σ.ob o⟩:=⟨fun e he=>hB.o1 e<|uw e he,hB.o2,fun e he p hp=>by obtain⟨e',h1,h2⟩:=Ij e he p hp;exact hB.r1 e' h1 p h2,hB.r2⟩;refine⟨hd,?_⟩
  cases X with
  |own s E xs=>
   have hm:(OS vs fr cx σ.ob)[i]? =some (mO s.rep E (vs o) xs):=W8 hi;have:=ER i hb hm;rw[KI hi,<-hc]at this;exact this.weak fun S w ha=>zD.append (Ln ha.1<|zD.left ha.2)<|zD.right ha.2
  |var s E z=>
   have hm:(OS vs fr cx σ.ob)[i]? =some (mP s.rep.c E (vs o) z):=W8 hi;obtain⟨b,hv,hs⟩:=hb.openP i hm;have:=zhl (e:=s.rep) i hs<|wA hm;rw[iY,KI hi,<-hc,<-hv]at this;exact this.weak fun S w ha=>zD.append (HP ha.1<|zD.left ha.2)<|zD.right ha.2
  |mat s E E1 xss ix=>
   have h1:=ZM ho hb;have h2:St fr.we fr.Se (zbq s.rep E E1 (y5<|vs o) (vg<|vs o) xss ix::OS vs fr cx (yG σ.ob o)) (GS P vs env fr cx σ) w:=St.grp.2 (ai h1).2;exact(h2.mat_frz (ai h1).1).weak fun S w ha=>zD.append (HA ha.1<|zD.left ha.2)<|zD.right ha.2
  |bo s E E0 xs=>
   rw[KR<|fun v=>by cases v<;>rfl];exact St.drop (i:=0)<|ZM ho hb
  |ho E0=>
   rw[KR<|fun v=>by cases v<;>rfl];exact St.drop (i:=0)<|ZM ho hb
  |hid t E X Y mX mY g x=>
   rw[KR<|fun v=>by cases v<;>rfl];exact St.drop (i:=0)<|ZM ho hb
  |hiy Y mY y=>
   rw[KR<|fun v=>by cases v<;>rfl];exact St.drop (i:=0)<|ZM ho hb
 ·exact h
theorem Ti(x:Operand)(h:aW P fr cx σ vs env w):aW P fr cx (frz cx σ x) vs env w:=by grind [frz,BM]
theorem DR(x:Operand)(h:Zc P fr cx σ env w):Zc P fr cx (frz cx σ x) env w:=by
 obtain⟨hB,vs,ha⟩:=h;obtain⟨h1,h2⟩:=Ti x ⟨hB,ha⟩;exact⟨h1,vs,h2⟩
theorem tj:∀(l:List Operand) {σ:Sg},Zc P fr cx σ env w->Zc P fr cx (zdE cx σ l) env w
 |[],_,h=>h
 |x::r,_,h=>tj r<|DR x h
theorem zh3(hT:y4 P cf.tt)(hL:jT P cf.tt)(hC:∀s∈cf.cs,y9 P s)(hX:Ak P cf){op:Op}{k:Sg->Option R}(hd:wv cx d=true)(h:zhb cf cx σ d op k=some r):
 ov P cx ⟨d,op,ty,pos,aft,g⟩ σ k r:=by
 unfold zhb at h;split at h
 ·exact zef hT hd h
 ·next E x=>
  cases hb:zg9 cf d<;>rw[hb]at h
  ·exact m_E hT hL hC hX hd h
  ·exact ziO hd h
 ·next t x y=>
  obtain⟨hn,h⟩:=yn h;have hn:d=none:=by simpa using hn
  subst hn;split at h
  ·next ti ha=>exact zes hT ha h
  ·cases h
 ·exact zgJ hT hd h
 ·exact zjD hT hL hd h
 ·next t x hi=>
  split at h
  ·next o hx=>exact zfn hT hL hd hx h
  ·exact m_E hT hL hC hX hd h
 ·exact zjo hT hd h
 ·exact zgH hT hL hd h
 ·next f ags ts=>
  split at h
  ·next f' cs hf=>
   split at h
   ·next s hs=>exact zhq hC hd hf hs h
   ·exact m_E hT hL hC hX hd h
  ·exact m_E hT hL hC hX hd h
 ·exact m_E hT hL hC hX hd h
theorem zgm(hT:y4 P cf.tt)(hL:jT P cf.tt)(hC:∀s∈cf.cs,y9 P s)(hX:Ak P cf){op:Op}{k:Sg->Option R}(hd:wv cx d=true)(h:mOp cf cx σ d op k=some r):
 ov P cx ⟨d,op,ty,pos,aft,g⟩ σ k r:=by
 unfold mOp at h
 cases hc:coM cf cx σ d op with
 |no=>rw[hc]at h;exact zh3 hT hL hC hX hd h
 |_=>
  rw[hc]at h;simp only[mCo]at h;unfold coM at hc;split at hc
  ·next t x y=>
   cases hb:RH (x8 cx σ x)<;>rw[hb]at hc<;>cases hc
   all_goals
    obtain⟨hn,h⟩:=yn h
    have hn:d=none:=by simpa using hn
    subst hn
    split at h
    ·next ti ha=>exact Tn hT ha h
    ·cases h
  ·next t x y=>
   cases hb:Mr cf d<;>rw[hb]at hc<;>cases hc;all_goals exact zfy hT hd h
  ·next t n ps=>
   cases hb:Mr cf d<;>rw[hb]at hc<;>cases hc;all_goals exact zhj hT hL hd h
  ·next E=>
   cases hb:Mr cf d<;>rw[hb]at hc<;>cases hc;all_goals exact Th hT hd h
  ·next t x=>
   split at hc
   ·next o hx=>cases hc<;>exact zeK hT hd hx h
   ·cases hc
  ·next ags ts=>
   cases hb:ags.toList.any (fun x=>zaN<|x8 cx σ x)<;>rw[hb]at hc<;>cases hc;all_goals exact zgT hT hd h
  ·next f ags ts=>
   split at hc
   ·next o hf=>cases hc<;>exact zct hX hd hf h
   ·next f' hf=>
    split at hc
    ·next s hs=>
     obtain⟨h1,h2⟩:=zaa hs;subst h2;cases hc<;>exact Sp hX hd hf h1 h
    ·cases hc
   ·cases hc
  ·cases hc
theorem zcd{t:Tmp}:put env (some t) (env t)=env:=by grind [pJ,cX]
theorem ek{t:Tmp}{b:Bool}(hn:Yf cx.rg t=true)(hv:env t=.bool b)(h:Zc P fr cx σ env w):Zc P fr cx (CU σ t b) env w:=by
 obtain⟨hB,vs,ha⟩:=h
 have:=cm.rel<|QK (P:=P) (fr:=fr) (cx:=cx) (σ:=σ) (vs:=vs) (vs':=vs) (env:=env) (w:=w) (d:=some t) (v:=env t) (σ':=CU σ t b) (l:=[(0,.kb b)]) (Γl:=[]) hB hn rfl (xab _) (fun _ _=>rfl)
  (fun e he o ho=>by obtain rfl:=xai.1 he;cases ho) hB.o1 (fun S w _ e he=>by obtain rfl:=xai.1 he;exact hv) ha
 rwa[zcd]at this
theorem gi{t:Tmp}{x:Bool}{S:Nat->Prop}(h:get cx σ t 0=some (.d .b x))(hl:Lk P vs env S w cx σ t):env t=.bool x:=gj<|hl 0 _ h
theorem Hd{b:Bool}{a c:Option R}(h:ifB b a c=some r):(b=true/\a=some r)\/(b=false/\c=some r):=by
 cases b
 ·exact .inr ⟨rfl,h⟩
 ·exact .inl ⟨rfl,h⟩
theorem zd2{all:List Oper}{o:Oper}{k:Sg->Bool->Option R}(h:cM cx all o σ k=some r)(hR:Zc P fr cx σ env w):∃σ' b,k σ' b=some r/\Zc P fr cx σ' env w/\yH all.toArray env o=b:=by
 have ha:=hR;obtain⟨hB,vs,hd⟩:=hR;obtain⟨S,_,hΓ⟩:=hd.ex;unfold cM at h;split at h
 ·next hg=>exact⟨σ,true,h,ha,by unfold yH;rw[hg]⟩
 ·next j want hg=>
  split at h
  ·next o' he=>
   split at h
   ·next t ht=>
    have hc:∀{v},env t=v->gd all.toArray env j=(match v with|.bool b=>some b|_=>none):=by
     rintro v rfl;unfold gd;simp only[List.getElem?_toArray,he,Option.bind_some,ht];rfl
    have hw:yH all.toArray env o=(gd all.toArray env j==some want):=by unfold yH;rw[hg]
    split at h
    ·next b hb=>
     have hv:env t=.bool b:=Yd hΓ t 0 _ hb;refine⟨σ,_,h,ha,?_⟩;rw[hw,hc hv];cases b<;>cases want<;>rfl
    ·next hb=>
     have hv:env t=undef:=Yd hΓ t 0 _ hb;refine⟨σ,_,h,ha,?_⟩;rw[hw,hc hv];rfl
    ·next x hb=>
     obtain⟨hn,h⟩:=yn h;have hv:env t=.bool x:=gi hb<|Yd hΓ t;rcases Hd h with⟨hx,h⟩|⟨hx,h⟩
     ·exact⟨_,_,h,ek hn (hv.trans<|congrArg xer hx) ha,by rw[hw,hc<|hv.trans<|congrArg xer hx];cases want<;>rfl⟩
     ·exact⟨_,_,h,ek hn (hv.trans<|congrArg xer hx) ha,by rw[hw,hc<|hv.trans<|congrArg xer hx];cases want<;>rfl⟩
    ·cases h
   ·cases h
  ·cases h
theorem zg4{o:Oper}{k:Sg->Option R}(h:th cx o σ k=some r)(hR:Zc P fr cx σ env w):∃σ',k σ'=some r/\Zc P fr cx σ' env w:=by
 have ha:=hR;obtain⟨hB,vs,hc⟩:=hR;obtain⟨S,_,hΓ⟩:=hc.ex;unfold th at h;split at h
 ·next t _ _ _=>
  split at h
  ·next x hb=>
   obtain⟨hn,h⟩:=yn h;have hv:env t=.bool x:=gi hb<|Yd hΓ t;rcases Hd h with⟨hx,h⟩|⟨hx,h⟩
   ·exact⟨_,h,ek hn (hv.trans<|congrArg xer hx) ha⟩
   ·exact⟨_,h,ek hn (hv.trans<|congrArg xer hx) ha⟩
  ·exact⟨σ,h,ha⟩
 ·exact⟨σ,h,ha⟩
theorem zij{N:Nd}{ops:Array Oper}{o:Oper}{rest:List Oper}{Q:Qs}(hw:yH ops env o=true)(hd:qx N.n o.dst=true)(h:kF P o env w (fun v w'=>WpL P N ops rest Q (put env o.dst v) w')):WpL P N ops (o::rest) Q env w:=by
 intro a h1 h2 h3;subst h3;unfold wpListIn;rw[iq<|by rw[W1];exact hw];refine h.wp fun v w' hk=> ?_;exact hk _ (by rw[Jm];exact h1) (by rw[YG];exact h2)<|Yq<|by rw[h1];exact Q0 hd
theorem zex{N:Nd}{ops:Array Oper}{o:Oper}{rest:List Oper}{Q:Qs}(hw:yH ops env o=false)(hd:qx N.n o.dst=true)(h:WpL P N ops rest Q (put env o.dst undef) w):WpL P N ops (o::rest) Q env w:=by
 intro a h1 h2 h3;subst h3;unfold wpListIn;rw[ir<|by rw[W1,hw];exact Bool.false_ne_true];exact⟨fun _ _=>trivial,h _ (by rw[Jm];exact h1) (by rw[YG];exact h2)<|Yq<|by rw[h1];exact Q0 hd⟩
theorem zhE(hd:wv cx d=true)(h:Zc P fr cx σ env w):Zc P fr cx (σ.put d [(0,.un)]) (put env d undef) w:=by
 obtain⟨hB,vs,ha⟩:=h;exact(QK (σ':=σ.put d [(0,.un)]) (l:=[(0,.un)]) (v:=undef) (vs:=vs) (vs':=vs) (Γl:=[]) hB hd rfl (xab _) (fun _ _=>rfl) (fun e he o ho=>by obtain rfl:=xai.1 he;cases ho) hB.o1 (fun S w _ e he=>by obtain rfl:=xai.1 he;exact rfl) ha).rel
def eW(cx:Sg)(a b:yR):Prop:=∀e∈cx.rg,b e.1=a e.1
theorem eW.refl{a:yR}:eW cx a a:=fun _ _=>rfl
theorem eW.trans{a b c:yR}(h:eW cx a b)(k:eW cx b c):eW cx a c:=fun e he=>(k e he).trans<|h e he
theorem eW.put{a b:yR}{v:Value}(hd:wv cx d=true)(h:eW cx a b):eW cx a (put b d v):=fun e he=>by
 rw[cX fun ht=> ?_]
 ·exact h e he
 ·subst ht;simp only[wv,Yf,xaS]at hd;have:=hd e he;simp at this
theorem ry(hT:y4 P cf.tt)(hL:jT P cf.tt)(hC:∀s∈cf.cs,y9 P s)(hX:Ak P cf){N:Nd}{all:List Oper}{Q:Qs}{k:Sg->Option R}{env0:yR}
 (hK:∀σ',k σ'=some r->∀env w,eW cx env0 env->Zc P fr cx σ' env w->Q .normal env w):∀{l:List Oper}{σ:Sg}{env:yR}{w:World},eW cx env0 env->(l.all fun o=>qx N.n o.dst)=true->LG cf cx all l σ k=some r->Zc P fr cx σ env w->WpL P N all.toArray l Q env w
 |[],σ,env,w,hS,_,h,hR=>fun a h1 h2 h3=>wpListIn_nil ⟨h1,h2,h3▸hK σ h env w hS hR⟩
 |o::l,σ,env,w,hS,hN,h,hR=>by
  simp only[List.all_cons,xam]at hN;unfold LG at h;obtain⟨hd,h⟩:=yn h;obtain⟨σ1,b,h,hR,hw⟩:=zd2 h hR;cases b
  ·exact zex hw hN.1<|ry hT hL hC hX hK (hS.put hd) hN.2 h<|zhE hd hR
  ·obtain⟨σ2,h,hR⟩:=zg4 h hR;have hR:=tj (zgF cf cx σ2 o.dst o.op) hR;obtain⟨σ',h',_,hm⟩:=zgm (P:=P) (d:=o.dst) (ty:=o.type) (pos:=o.pos) (aft:=o.after) (g:=o.guard) hT hL hC hX hd h;obtain⟨hB,vs,ha⟩:=hR;exact zij hw hN.1<|(hm fr vs env w ⟨hB,ha⟩).mono fun v w' hb=>ry hT hL hC hX hK (hS.put hd) hN.2 h' hb.rel
end
end
section
section
variable{P:Program}{cf:Cf}{fr:Fr}{cx σ σ0:Sg}{vs vs':Nat->Value}{env env0:yR}{w:World}{R:Type}{r:R}
 {d:Option Tmp}{ty t yt:TypeId}{pos:String}{aft:Array Edge}{g:Option (Nat×Bool)}{x y:Operand}
theorem Gq:∀{a b:List (Nat×Nat×Dv)}{t i:Nat},(∀e∈a,e.1≠t)->dk (a++b) t i=dk b t i
 |[],_,_,_,_=>rfl
 |(t',i',d)::a,b,t,i,h=>by
  show(bif xao t' t && xao i' i then some d else dk (a++b) t i)=_;rw[u7<|h (t',i',d)<|FS];simp only[Bool.false_and,cond_false];exact Gq fun e he=>h e<|UV _ he
theorem zbg{rg:List (Nat×Nat×Dv)}{t t' i:Nat}(h:t'≠t):dk (zeD rg t) t' i=dk rg t' i:=by
 induction rg with
 |nil=>rfl
 |cons e rg ih=>
  obtain⟨s,j,d⟩:=e;unfold zeD at ih⊢;rw[xdk];cases hb:xao s t
  ·simp only[hb,Bool.not_false,if_true];unfold dk;rw[ih]
  ·simp only[hb,xdL,xak,if_false];rw[ih];have:=yc hb;subst this;conv=>rhs;unfold dk
   rw[u7<|fun e=>h e.symm];rfl
theorem LQ{rg:List (Nat×Nat×Dv)}{t t' i:Nat}{l:List (Nat×Dv)}(h:t'≠t):dk (vj rg (some t) l) t' i=dk rg t' i:=by grind [vj,Gq,zbg]
theorem zdQ{t t' i:Nat}{l:List (Nat×Dv)}{n:Nat}{ob:List (Nat×Od)}{dv:Dv}(hn:Yf cx.rg t=true)(h:get cx ⟨n,vj σ.rg (some t) l,ob⟩ t' i=some dv):(t'=t/\(i,dv)∈l)\/(t'≠t/\get cx σ t' i=some dv):=by
 by_cases ht:t'=t
 ·subst ht;left;refine⟨rfl,?_⟩;rcases Fv h with hm|hm
  ·have hm:(t',i,dv)∈l.map (fun e=>(t',e.1,e.2))++zeD σ.rg t':=hm;rcases Nm.1 hm with hm|hm
   ·obtain⟨e,he,ha⟩:=xap.1 hm;cases ha;exact he
   ·have:=(xck.1 hm).2;simp at this
  ·simp only[Yf,xaS]at hn;have:=hn _ hm;simp at this
 ·right;refine⟨ht,?_⟩;unfold get at h⊢;rw[show dk (vj σ.rg (some t) l) t' i=dk σ.rg t' i from LQ ht]at h;exact h
theorem zdk{t:Nat}{l:List (Nat×Dv)}{n:Nat}{ob:List (Nat×Od)}{S:Nat->Prop}(hn:Yf cx.rg t=true){t':Nat}(h1:t'=t->∀e∈l,(xN P vs e.2 (env t) e.1).p S w)(h2:t'≠t->Lk P vs env S w cx σ t'):Lk P vs env S w cx ⟨n,vj σ.rg (some t) l,ob⟩ t':=by
 intro i dv hd;rcases zdQ hn hd with⟨rfl,hm⟩|⟨ha,hg⟩
 ·exact h1 rfl _ hm
 ·exact h2 ha i dv hg
theorem iu{l:List (Nat×Dv)}(hB:Bd cx σ)(hl:∀e∈l,∀o,wu e.2=some o->o<σ.nx):Bd cx (σ.put d l):=by
 refine⟨hB.o1,hB.o2,fun e he o ho=> ?_,hB.r2⟩;have he:e∈vj σ.rg d l:=he;unfold vj at he
 cases d with
 |none=>exact hB.r1 e he o ho
 |some t=>
  rcases Nm.1 he with he|he
  ·obtain⟨e',ha,rfl⟩:=xap.1 he;exact hl e' ha o ho
  ·exact hB.r1 e (xck.1 he).1 o ho
theorem oi{t t':Nat}{x b:Bool}{S:Nat->Prop}(hn:Yf cx.rg t=true)(hb:get cx σ t 0=some (.d .b x))(hx:x=b)(h:Lk P vs env S w cx σ t'):Lk P vs env S w cx (CU σ t b) t':=by
 refine zdk hn (fun e e' he=> ?_)<|fun _=>h;subst e;obtain rfl:=xai.1 he;exact(gi hb h).trans<|congrArg xer hx
theorem HZ{all:List Oper}{o:Oper}{k:Sg->Bool->Option R}(h:cM cx all o σ k=some r)(hB:Bd cx σ):∃σ' b,k σ' b=some r/\σ'.ob=σ.ob/\σ'.nx=σ.nx/\Bd cx σ'/\
 (∀(P:Program) vs env S w t,Lk P vs env S w cx σ t->Lk P vs env S w cx σ' t)/\(∀(P:Program) vs env S w,(∀t∈xbC all.toArray o,Lk P vs env S w cx σ t)->yH all.toArray env o=b):=by
 unfold cM at h;split at h
 ·next hg=>exact⟨σ,true,h,rfl,rfl,hB,fun _ _ _ _ _ _ h=>h,fun P vs env S w _=>by unfold yH;rw[hg]⟩
 ·next j want hg=>
  split at h
  ·next o' hd=>
   split at h
   ·next t ht=>
    have ha:t∈xbC all.toArray o:=by
     unfold xbC;rw[hg];simp[hd,ht]
    have hc:∀{env:yR}{v},env t=v->gd all.toArray env j=(match v with|.bool b=>some b|_=>none):=by
     rintro env v rfl;unfold gd;simp only[List.getElem?_toArray,hd,Option.bind_some,ht];rfl
    have hw:∀env,yH all.toArray env o=(gd all.toArray env j==some want):=fun env=>by unfold yH;rw[hg]
    split at h
    ·next b hb=>
     refine⟨σ,_,h,rfl,rfl,hB,fun _ _ _ _ _ _ h=>h,fun P vs env S w hl=> ?_⟩;have hv:env t=.bool b:=hl t ha 0 _ hb;rw[hw,hc hv];cases b<;>cases want<;>rfl
    ·next hb=>
     refine⟨σ,_,h,rfl,rfl,hB,fun _ _ _ _ _ _ h=>h,fun P vs env S w hl=> ?_⟩;have hv:env t=undef:=hl t ha 0 _ hb;rw[hw,hc hv];rfl
    ·next x hb=>
     obtain⟨hn,h⟩:=yn h;have hf:∀b,Bd cx (CU σ t b):=fun b=>iu (d:=some t) hB fun e he o ho=>by obtain rfl:=xai.1 he;cases ho
     rcases Hd h with⟨hx,h⟩|⟨hx,h⟩
     ·refine⟨_,_,h,rfl,rfl,hf _,fun P vs env S w t' hl=>oi hn hb hx hl,fun P vs env S w hl=> ?_⟩;have hv:=(gi hb<|hl t ha).trans<|congrArg xer hx;rw[hw,hc hv];cases want<;>rfl
     ·refine⟨_,_,h,rfl,rfl,hf _,fun P vs env S w t' hl=>oi hn hb hx hl,fun P vs env S w hl=> ?_⟩;have hv:=(gi hb<|hl t ha).trans<|congrArg xer hx;rw[hw,hc hv];cases want<;>rfl
    ·cases h
   ·cases h
  ·cases h
theorem OZ{o:Oper}{k:Sg->Option R}(h:th cx o σ k=some r)(hB:Bd cx σ):∃σ',k σ'=some r/\σ'.ob=σ.ob/\σ'.nx=σ.nx/\Bd cx σ'/\(∀(P:Program) vs env S w t,Lk P vs env S w cx σ t->Lk P vs env S w cx σ' t):=by
 unfold th at h;split at h
 ·next t _ _ _=>
  split at h
  ·next x hb=>
   obtain⟨hn,h⟩:=yn h;have ha:∀b,Bd cx (CU σ t b):=fun b=>iu (d:=some t) hB fun e he o ho=>by obtain rfl:=xai.1 he;cases ho
   rcases Hd h with⟨hx,h⟩|⟨hx,h⟩
   ·exact⟨_,h,rfl,rfl,ha _,fun P vs env S w t' hl=>oi hn hb hx hl⟩
   ·exact⟨_,h,rfl,rfl,ha _,fun P vs env S w t' hl=>oi hn hb hx hl⟩
  ·exact⟨σ,h,rfl,rfl,hB,fun _ _ _ _ _ _ h=>h⟩
 ·exact⟨σ,h,rfl,rfl,hB,fun _ _ _ _ _ _ h=>h⟩
def prL(P:Program)(vs:Nat->Value)(l:List (Nat×Dv)):Pr where
 p S v w:=∀e∈l,(xN P vs e.2 v e.1).p S w
 keepS h k:=fun e he=>(xN P vs e.2 _ e.1).keep (h e he) k
 sub h k:=fun e he=>(xN P vs e.2 _ e.1).sub (h e he) k
def L9(P:Program)(vs:Nat->Value)(Γ:List FF)(env0:yR)(cx σ:Sg)(K:List (Tmp×Pr)):Prop:=∀(env:yR) (S:Nat->Prop) (w:World),zD S Γ w->∀t,Zj K env0 env S w t->Lk P vs env S w cx σ t
def zeN(cx:Sg)(K:List (Tmp×Pr)):Prop:=∀e∈K,Yf cx.rg e.1=true
theorem Yn{K:List (Tmp×Pr)}{S:Nat->Prop}:∀{ts:List Tmp},X0 K env0 env S w ts->∀t∈ts,Zj K env0 env S w t
 |[],_,_,h=>absurd h IR
 |_::_,h,t,ht=>by
  rcases xad.1 ht with rfl|ht
  ·exact h.1
  ·exact Yn h.2 t ht
theorem tv{Γ:List FF}{K:List (Tmp×Pr)}{Φ:Pr}{l:List (Nat×Dv)}{o:Oper}(hd:wv cx o.dst=true)(h:L9 P vs Γ env0 cx σ K)(hΦ:∀S v w,Φ.p S v w->∀e∈l,(xN P vs e.2 v e.1).p S w):L9 P vs Γ env0 cx (σ.put o.dst l) (aQ o.dst Φ K):=by
 intro env S w hΓ t ht
 cases ha:o.dst with
 |none=>
  rw[ha]at ht;exact h env S w hΓ t ht
 |some s=>
  rw[ha]at ht hd;refine zdk hd (fun e=> ?_)<|fun hb=> ?_
  ·subst e;refine hΦ S _ w ?_;unfold Zj aQ at ht;simpa using ht
  ·refine h env S w hΓ t ?_;unfold Zj aQ at ht;rw[List.find?_cons,u7<|fun e=>hb e.symm]at ht;exact ht
theorem IM{K:List (Tmp×Pr)}{Φ:Pr}{d:Option Tmp}(hd:wv cx d=true)(h:zeN cx K):zeN cx (aQ d Φ K):=by
 cases d with
 |none=>exact h
 |some s=>
  intro e he;rcases xad.1 he with rfl|he
  ·exact hd
  ·exact h e he
theorem LV(hT:y4 P cf.tt)(hL:jT P cf.tt)(hC:∀s∈cf.cs,y9 P s)(hX:Ak P cf){all:List Oper}{k:Sg->Option R}{Γ:List FF}:∀{os:List Oper}{σ:Sg}{K:List (Tmp×Pr)},TX cf cx all os σ k=some r->
 L9 P vs Γ env0 cx σ K->zeN cx K->σ.ob=σ0.ob->Bd cx σ->∃(Φs:List Pr) (σ':Sg),Φs.length=os.length/\Obs P all.toArray (OS vs fr cx σ0.ob) Γ env0 (os.zip Φs) K/\k σ'=some r/\L9 P vs Γ env0 cx σ' (Gf (os.zip Φs) K)/\zeN cx (Gf (os.zip Φs) K)/\σ'.ob=σ0.ob/\Bd cx σ'
 |[],σ,K,h,hi,hn,ho,hB=>⟨[],σ,rfl,trivial,h,hi,hn,ho,hB⟩
 |o::os,σ,K,h,hi,hn,ho,hB=>by
  unfold TX at h;obtain⟨hd,h⟩:=yn h;obtain⟨σ1,b,h,hf,hx,hg,ha,hq⟩:=HZ h hB;have hw:∀{env:yR}{S:Nat->Prop}{w:World},zD S Γ w->X0 K env0 env S w (o.looksAt all.toArray)->yH all.toArray env o=b:=fun{env S w} hΓ hh=>hq P vs env S w fun t ht=>hi env S w hΓ t<|Yn hh t ht;cases b
  ·have hb:L9 P vs Γ env0 cx (σ1.put o.dst [(0,.un)]) (aQ o.dst (prV undef) K):=tv hd (fun env S w hΓ t ht=>ha P vs env S w t<|hi env S w hΓ t ht) fun S v w hv e he=>by obtain rfl:=xai.1 he;exact hv
   obtain⟨Φs,σ',h1,h2,h3,h4,h5,h6,h7⟩:=LV hT hL hC hX (os:=os) h hb (IM hd hn) (hf.trans ho) (iu hg fun e he p hp=>by obtain rfl:=xai.1 he;cases hp);refine⟨prV undef::Φs,σ',by simp[h1],⟨fun S w env hS hM hΓ hh=>⟨fun hc=> ?_,fun _=>rfl⟩,h2⟩,h3,h4,h5,h6,h7⟩;rw[hw hΓ hh]at hc;cases hc
  ·obtain⟨σ2,h,hr,hy,hs,hj⟩:=OZ h hg;obtain⟨l,h,hu⟩:=zaz (P:=P) (d:=o.dst) (ty:=o.type) (pos:=o.pos) (aft:=o.after) (g:=o.guard) (F:=fr.F) hT hL hC hX h;obtain⟨hl,h⟩:=yn h;have hk:∀env S w t,Lk P vs env S w cx σ t->Lk P vs env S w cx σ2 t:=fun env S w t ht=>hj P vs env S w t<|ha P vs env S w t ht;have hb:L9 P vs Γ env0 cx (σ2.put o.dst l) (aQ o.dst (prL P vs l) K):=tv hd (fun env S w hΓ t ht=>hk env S w t<|hi env S w hΓ t ht) fun S v w hv=>hv;have hm:σ2.ob=σ0.ob:=hr.trans<|hf.trans ho;obtain⟨Φs,σ',h1,h2,h3,h4,h5,h6,h7⟩:=LV hT hL hC hX (os:=os) h hb (IM hd hn) hm<|iu hs<|Cm hl;refine⟨prL P vs l::Φs,σ',by simp[h1],⟨fun S w env hS hM hΓ hh=>⟨fun hc=> ?_,fun hc=> ?_⟩,h2⟩,h3,h4,h5,h6,h7⟩
   ·refine hu env w S vs hS (by rw[hm];exact hM) fun t ht=>hk env S w t<|hi env S w hΓ t<|Yn hh t ?_;exact Nm.2 (.inl ht)
   ·rw[hw hΓ hh]at hc;cases hc
end
end
theorem Eu{l:List Oper}{D:Nat->Bool}(hd:∀j,D j=true->∀e∈(zT l j).after,xct .any e=true->D e.on=true):∀(f j i:Nat),D j=true->vH l f j i=true->D i=true
 |0,j,i,hj,h=>by
  obtain⟨e,he,hb,rfl⟩:=jG h;exact hd j hj e he hb
 |f+1,j,i,hj,h=>by
  unfold vH at h;rw[xdW]at h;rcases h with h|h
  ·obtain⟨e,he,hb,rfl⟩:=jG h;exact hd j hj e he hb
  ·rw[xeQ]at h;obtain⟨e,he,hb⟩:=h;rw[xam]at hb;exact Eu hd f e.on i (hd j hj e (xdi.1 he) hb.1) hb.2
section
def gD(al:Rb->Bool)(rs:List Rb):List (Nat×Od):=rs.filterMap fun r=>if al r=true then some (r.o,r.x)else none
def Ai(i:Nat)(rs:List Rb):List (Nat×Od):=rs.filterMap fun r=>if r.c=some i then some (r.o,r.x)else none
def oQ(i:Nat)(rs:List Rb):List (Nat×Od):=rs.filterMap fun r=>if r.a=some i then some (r.o,r.x)else none
def cY(i:Nat)(rs:List Rb):List (Nat×Od):=rs.filterMap fun r=>if i∈r.rd then some (r.o,r.x)else none
theorem GM{al al':Rb->Bool}{i:Nat}:∀{rs:List Rb},(∀r∈rs,(r.c=some i/\i∉r.rd/\r.a≠some i/\al r=true/\al' r=false)\/(r.a=some i/\r.c≠some i/\i∉r.rd/\al r=false/\al' r=true)\/
 (i∈r.rd/\r.c≠some i/\r.a≠some i/\al r=true/\al' r=true)\/(r.c≠some i/\r.a≠some i/\i∉r.rd/\al r=al' r))->
 ∃rest,(∀e∈rest,∃r∈rs,e=(r.o,r.x)/\al r=true/\al' r=true)/\(gD al rs).Perm (Ai i rs++(cY i rs++rest))/\(gD al' rs).Perm (oQ i rs++(cY i rs++rest))
 |[],_=>⟨[],fun e he=>absurd he IR,xdC _,xdC _⟩
 |r::rs,h=>by
  obtain⟨rest,h1,h2,h3⟩:=GM (rs:=rs) fun q hq=>h q<|UV _ hq;have ha:∀e∈rest,∃q∈r::rs,e=(q.o,q.x)/\al q=true/\al' q=true:=fun e he=>by
   obtain⟨q,hq,h⟩:=h1 e he;exact⟨q,UV _ hq,h⟩
  rcases h r (FS)with⟨a1,a2,a3,a4,a5⟩|⟨a1,a2,a3,a4,a5⟩|⟨a1,a2,a3,a4,a5⟩|⟨a1,a2,a3,a4⟩
  ·refine⟨rest,ha,?_,?_⟩
   ·simp only[gD,Ai,cY,xaO,a1,a2,a4,if_true,if_false,reduceIte]at h2⊢;exact h2.cons _
   ·simp only[gD,oQ,cY,xaO,a3,a2,a5,if_false,reduceIte,xak]at h3⊢;exact h3
  ·refine⟨rest,ha,?_,?_⟩
   ·simp only[gD,Ai,cY,xaO,a2,a3,a4,if_false,reduceIte,xak]at h2⊢;exact h2
   ·simp only[gD,oQ,cY,xaO,a1,a3,a5,if_true,if_false,reduceIte]at h3⊢;exact h3.cons _
  ·refine⟨rest,ha,?_,?_⟩
   ·simp only[gD,Ai,cY,xaO,a1,a2,a4,if_true,if_false,reduceIte]at h2⊢;exact(h2.cons _).trans xcu.symm
   ·simp only[gD,oQ,cY,xaO,a1,a3,a5,if_true,if_false,reduceIte]at h3⊢;exact(h3.cons _).trans xcu.symm
  ·cases hb:al r with
   |false=>
    rw[hb]at a4;refine⟨rest,ha,?_,?_⟩
    ·simp only[gD,Ai,cY,xaO,a1,a3,hb,if_false,reduceIte,xak]at h2⊢;exact h2
    ·simp only[gD,oQ,cY,xaO,a2,a3,<-a4,if_false,reduceIte,xak]at h3⊢;exact h3
   |true=>
    rw[hb]at a4;refine⟨(r.o,r.x)::rest,fun e he=> ?_,?_,?_⟩
    ·rcases xad.1 he with rfl|he
     ·exact⟨r,FS,rfl,hb,a4.symm⟩
     ·exact ha e he
    ·simp only[gD,Ai,cY,xaO,a1,a3,hb,if_true,if_false,reduceIte]at h2⊢;rw[<-xaj]at h2⊢;exact(h2.cons _).trans xcu.symm
    ·simp only[gD,oQ,cY,xaO,a2,a3,<-a4,if_true,if_false,reduceIte]at h3⊢;rw[<-xaj]at h3⊢;exact(h3.cons _).trans xcu.symm
def KV(P:Program)(vs:Nat->Value)(KL:List (Tmp×List (Nat×Dv))):List (Tmp×Pr):=KL.map fun e=>(e.1,prL P vs e.2)
def DM(d:Option Tmp)(l:List (Nat×Dv))(KL:List (Tmp×List (Nat×Dv))):List (Tmp×List (Nat×Dv)):=match d with
 |some t=>(t,l)::KL
 |none=>KL
def mV:List (Oper×List (Nat×Dv))->List (Tmp×List (Nat×Dv))->List (Tmp×List (Nat×Dv))
 |[],K=>K
 |(o,l)::r,K=>mV r<|DM o.dst l K
def OL(P:Program)(vs:Nat->Value)(L:List (Oper×List (Nat×Dv))):List (Oper×Pr):=L.map fun e=>(e.1,prL P vs e.2)
section
variable{P:Program}{vs:Nat->Value}
theorem zbY{d:Option Tmp}{l:List (Nat×Dv)}{KL:List (Tmp×List (Nat×Dv))}:KV P vs (DM d l KL)=aQ d (prL P vs l) (KV P vs KL):=by cases d<;>rfl
theorem zcr:∀(L:List (Oper×List (Nat×Dv))) (KL:List (Tmp×List (Nat×Dv))),KV P vs (mV L KL)=Gf (OL P vs L) (KV P vs KL)
 |[],KL=>rfl
 |(o,l)::r,KL=>by
  show KV P vs (mV r<|DM o.dst l KL)=Gf (OL P vs r) (aQ o.dst (prL P vs l)<|KV P vs KL);rw[zcr r,zbY]
end
def ObB(P:Program)(ops:Array Oper)(we:World)(Se:Nat->Prop)(mE:List MF)(Γ:List FF)(env0:yR)(vs:Nat->Value)(n0:Nat)(rs:List Rb)(KL:List (Tmp×List (Nat×Dv)))(i:Nat)(o:Oper)(L:List (Nat×Dv))(I:Oi):Prop:=
 n0<=I.lo/\I.lo<=I.hi/\(∀e∈L,∀p,wu e.2=some p->p<I.hi/\p∈I.refs)/\(∀e∈oQ i rs,e.1<I.hi)/\
 ∀vs',(∀p,p<n0->vs' p=vs p)->∀(env:yR) (F:List MF) (G:List FF) (w:World),St we Se (MS vs' (Ai i rs++cY i rs)++(mE++F)) (zbH (KV P vs' KL) env0 env (o.looksAt ops)::(Γ++G)) w->
  (yH ops env o=true->kF P o env w (fun v w'=>∃vs2,(∀p,p<I.lo->vs2 p=vs' p)/\St we Se (MS vs2 (oQ i rs)++(MS vs' (cY i rs)++(mE++F))) (zdW P vs2 v L++(Γ++G)) w'))/\
  (yH ops env o=false->Ai i rs=[]/\oQ i rs=[]/\∀S w,zD S (zdW P vs' undef L) w)
def zeY(P:Program)(ops:Array Oper)(we:World)(Se:Nat->Prop)(mE:List MF)(Γ:List FF)(env0:yR)(vs:Nat->Value)(n0:Nat)(rs:List Rb):List ((Oper×List (Nat×Dv))×Oi)->Nat->List (Tmp×List (Nat×Dv))->Prop
 |[],_,_=>True
 |((o,L),I)::r,i,KL=>ObB P ops we Se mE Γ env0 vs n0 rs KL i o L I/\zeY P ops we Se mE Γ env0 vs n0 rs r (i+1) (DM o.dst L KL)
theorem sI{P:Program}{ops:Array Oper}{we:World}{Se:Nat->Prop}{mE:List MF}{Γ:List FF}{env0:yR}{vs:Nat->Value}{n0:Nat}{rs:List Rb}:∀(r:List (Oper×List (Nat×Dv))) (is:List Oi) (n:Nat) (KL:List (Tmp×List (Nat×Dv))) (i:Nat) (x:Oper×List (Nat×Dv)) (I:Oi),
 zeY P ops we Se mE Γ env0 vs n0 rs (r.zip is) n KL->r[i]? =some x->is[i]? =some I->ObB P ops we Se mE Γ env0 vs n0 rs (mV (r.take i) KL) (n+i) x.1 x.2 I
 |[],_,_,_,_,_,_,h,hx,_=>by simp at hx
 |_::_,[],_,_,_,_,_,_,_,h=>by simp at h
 |(o,L)::r,I0::is,n,KL,0,x,I,h,hx,hc=>by simp at hx hc;subst hx;subst hc;exact h.1
 |(o,L)::r,I0::is,n,KL,i+1,x,I,h,hx,hc=>by
  have:=sI r is (n+1) (DM o.dst L KL) i x I h.2 (by simpa using hx) (by simpa using hc);rw[show n+1+i=n+(i+1)by lia]at this;simpa[mV]using this
structure zlc(l:List Oper)(m:Nat)(rs:List Rb)(is:List Oi):Prop where
 a:∀r∈rs,∀j,r.a=some j->j<m/\∀i∈r.rd,vH l 16 i j=true
 c:∀r∈rs,∀k,r.c=some k->k<m/\(∀j,r.a=some j->vH l 16 k j=true)/\∀i∈r.rd,vH l 16 k i=true
 n:∀i I,is[i]? =some I->∀r∈rs,I.lo<=r.o->r.o<I.hi->∃j,r.a=some j/\(j=i\/vH l 16 j i=true)
 f:∀i I j J,is[i]? =some I->is[j]? =some J->∀p∈J.refs,I.lo<=p->p<I.hi->j=i\/vH l 16 j i=true
 uniq:∀i j t,i<m->j<m->i≠j->(zT l i).dst=some t->(zT l j).dst≠some t
theorem Rp{l:List Oper}{m:Nat}{rs:List Rb}{is:List Oi}(h:zec l m rs is=true):zlc l m rs is:=by
 unfold zec at h;rw[xam,xam]at h;obtain⟨⟨hr,hn⟩,hu⟩:=h;have hb:∀i I,is[i]? =some I->zek l i I rs is.zipIdx=true:=fun i I hi=>xaS.1 hn (I,i)<|List.mem_zipIdx_iff_getElem?.2 hi;have inb:∀(I:Oi) (p:Nat),I.lo<=p->p<I.hi->inB I p=true:=fun I p h1 h2=>by
  unfold inB;rw[Nat.ble_eq_true_of_le h1,Bool.true_and];exact Nat.ble_eq_true_of_le h2
 refine⟨fun r ha j hj=> ?_,fun r ha k hk=> ?_,fun i I hi r ha h1 h2=> ?_,fun i I j J hi hj p hp h1 h2=> ?_,fun i j t hi hj hc hd he=> ?_⟩
 ·have:=xaS.1 hr r ha;rw[xam]at this;have:=this.1;rw[hj]at this;simp only[xam,xaS]at this;exact⟨by have:=xbM this.1;lia,this.2⟩
 ·have:=xaS.1 hr r ha;rw[xam]at this;have:=this.2;rw[hk]at this;simp only[xam,xaS]at this;refine⟨by have:=xbM this.1.1;lia,fun j hj=> ?_,this.2⟩;have:=this.1.2;rw[hj]at this;exact this
 ·have:=hb i I hi;unfold zek at this;rw[xam]at this;have:=xaS.1 this.1 r ha;rw[inb I _ h1 h2,xdL,xei]at this;split at this
  ·next j hj=>
   rw[xdW]at this;exact⟨j,hj,this.imp yc id⟩
  ·cases this
 ·have:=hb i I hi;unfold zek at this;rw[xam]at this;have:=xaS.1 this.2 (J,j)<|List.mem_zipIdx_iff_getElem?.2 hj;have:=xaS.1 this p hp;rw[inb I _ h1 h2,xdL,xei,xdW]at this;exact this.imp yc id
 ·have:=xaS.1 (xaS.1 hu i<|xbf.2 hi) j<|xbf.2 hj;rw[u7 hc,xei,hd]at this;simp[he]at this
end
section
section
variable{P:Program}{N:Nd}{we:World}{Se:Nat->Prop}{ms:List MF}{Γ:List FF}{Q:Qs}{env0:yR}{l:List Oper}{m:Nat}
theorem OE{Lp:List (Oper×Pr)}(hc:∀i,i<m->∃Φ,Lp[i]? =some (zT l i,Φ))(ha:∀(i:Nat) (x:Oper×Pr),Lp[i]? =some x->i<m/\x.1=zT l i){D:Nat->Bool}{env:yR}{S:Nat->Prop}{w:World}{i:Nat}{t:Tmp}
 (hd:∀t,(∀i,i<m->D i=true->(zT l i).dst≠some t)->env t=env0 t) (hf:(Gm Lp D env).p S w) (hk:i<=m) (ht:∀j,j<m->(zT l j).dst=some t->(D j=true↔j<i)):Zj (Gf (Lp.take i) []) env0 env S w t:=by
 unfold Zj;rcases eh t (Lp.take i) []with⟨j,y,g1,g2,g3,g4⟩|⟨g1,g2⟩
 ·rw[g4];rw[xcp]at g1;split at g1
  ·next hb=>
   obtain⟨hg,hy⟩:=ha j y g1;exact hf j y t ((ht j hg<|hy▸g2).2 hb) g1 g2
  ·cases g1
 ·rw[g2];simp only[List.find?_nil];refine hd t fun j hj hi he=> ?_;have hb:=(ht j hj he).1 hi;obtain⟨Φ,hΦ⟩:=hc j hj;exact g1 j (zT l j,Φ) (by rw[xcp,iq hb];exact hΦ) he
theorem zcZ(hc:YL l m=true){Lp:List (Oper×Pr)}(hm:∀i,i<m->∃Φ,Lp[i]? =some (zT l i,Φ))(hd:∀(i:Nat) (x:Oper×Pr),Lp[i]? =some x->i<m/\x.1=zT l i){D:Nat->Bool}{env:yR}{S:Nat->Prop}{w:World}{i:Nat}
 (hp:i<m) (hn:D i=false) (hf:∀e∈(zT l i).after,xct .any e=true->D e.on=true) (hg:∀j,D j=true->∀e∈(zT l j).after,xct .any e=true->D e.on=true)
 (ho:∀t,(∀i,i<m->D i=true->(zT l i).dst≠some t)->env t=env0 t) (hq:(Gm Lp D env).p S w):X0 (Gf (Lp.take i) []) env0 env S w (xbC l.toArray<|zT l i):=by
 obtain⟨h0,h1,h2,h3,hu⟩:=jY hc;have hv:i<l.length:=by lia
 have hi:∀t,t∈xbC l.toArray (zT l i)->∀j,j<m->(zT l j).dst=some t->j≠i->(D j=true↔j<i):=by
  intro t ht j hj hk hr;have h7:=h2 i j t hp hj hr hk (.inl ht);constructor
  ·intro hs;rcases xcf j i with h|h
   ·exact h
   ·exfalso;obtain⟨e,he,hb,hl⟩:=jG (h7.2<|by lia);have h8:=hg j hs e he hb;rw[hl,hn]at h8;cases h8
  ·intro ha;obtain⟨e,he,hb,hl⟩:=jG<|h7.1 ha;have h8:=hf e he hb;rwa[hl]at h8
 exact Jh _ fun t ht=>OE hm hd ho hq (by lia) fun j hj hk=>by
  by_cases ha:j=i
  ·subst ha;rw[hn];simp
  ·exact hi t ht j hj hk ha
def dU(D:Nat->Bool)(r:Rb):Bool:=(match r.a with
 |none=>true
 |some j=>D j) && !(match r.c with
 |none=>false
 |some k=>D k)
theorem My{D:Nat->Bool}{i:Nat}(ha:∀e∈(zT l i).after,xct .any e=true->D e.on=true)(hc:∀j,D j=true->∀e∈(zT l j).after,xct .any e=true->D e.on=true):∀(f j:Nat),vH l f i j=true->D j=true
 |0,j,h=>by
  obtain⟨e,he,hb,rfl⟩:=jG h;exact ha e he hb
 |f+1,j,h=>by
  unfold vH at h;rw[xdW]at h;rcases h with h|h
  ·obtain⟨e,he,hb,rfl⟩:=jG h;exact ha e he hb
  ·rw[xeQ]at h;obtain⟨e,he,hb⟩:=h;rw[xam]at hb;exact Eu hc f e.on j (ha e (xdi.1 he) hb.1) hb.2
theorem Cp{al al':Rb->Bool}:∀{rs:List Rb},(∀r∈rs,al r=al' r)->gD al rs=gD al' rs
 |[],_=>rfl
 |r::rs,h=>by
  have ih:=Cp (rs:=rs) fun q hq=>h q<|UV _ hq;unfold gD at ih⊢;rw[xaO,xaO,h r<|FS,ih]
theorem zh8{id:Nat}{mE:List MF}(m:Nat)(Ls:List (List<|Nat×Dv))(is:List Oi)(rs:List Rb)(ts:List Tmp)(vs:Nat->Value)(n0:Nat)(hm:P.follows .mixedOrders=true)(hc:YL l m=true)(hl:Ls.length=m)(h9:is.length=m)(hx:zec l m rs is=true)
 (hms:MS vs (gD (fun r=>r.a.isNone) rs)++mE=ms) (hd:(l.all fun o=>qx N.n o.dst)=true) (hF:zeY P l.toArray we Se mE Γ env0 vs n0 rs (((l.take m).zip Ls).zip is) 0 [])
 (fin:∀(env:yR) (w:World) (vs':Nat->Value),(∀p,p<n0->vs' p=vs p)->St we Se (MS vs' (gD (fun r=>r.c.isNone) rs)++mE) (zbH (KV P vs'<|mV ((l.take m).zip Ls) []) env0 env ts::Γ) w->WpL P N l.toArray (l.drop m) Q env w):
 T P N we Se ms Γ (.region id l.toArray true) Q env0:=by
 obtain⟨h0,h1,h2,h3,h3'⟩:=jY hc;have hp:=Rp hx;obtain⟨L,hL⟩:∃L,L=(l.take m).zip Ls:=⟨_,rfl⟩;rw[<-hL]at hF fin;have hLl:L.length=m:=by rw[hL];simp;lia
 have hG:∀i,i<m->∃x,L[i]? =some (zT l i,x):=fun i hi=>by
  have h9:i<l.length:=xal hi h0;have h':i<Ls.length:=hl.symm▸hi;refine⟨Ls[i]'(h'),?_⟩;rw[hL,List.getElem?_zip_eq_some];refine⟨?_,by simp⟩;rw[xcp,iq hi];simp[zT,h9]
 have hH:∀i x,L[i]? =some x->i<m/\x.1=zT l i:=fun i x hx=>by
  have hi:i<m:=by have:=(xau.1 hx).1;lia
  obtain⟨Φ,h⟩:=hG i hi;rw[h]at hx;cases hx;exact⟨hi,rfl⟩
 have opre:∀vs' i,i<m->∃Φ,(OL P vs' L)[i]? =some (zT l i,Φ):=fun vs' i hi=>by
  obtain⟨x,h⟩:=hG i hi;exact⟨_,by rw[OL,xaT,h];rfl⟩
 have opre':∀vs' (i:Nat) (x:Oper×Pr),(OL P vs' L)[i]? =some x->i<m/\x.1=zT l i:=fun vs' i x hx=>by
  rw[OL,xaT]at hx
  cases hy:L[i]? with
  |none=>rw[hy]at hx;cases hx
  |some y=>rw[hy]at hx;cases hx;exact hH i y hy
 refine zkC m (fun D env w=>(∀t,(∀i,i<m->D i=true->(zT l i).dst≠some t)->env t=env0 t)/\∃vs',(∀p,p<n0->vs' p=vs p)/\St we Se (MS vs' (gD (dU D) rs)++mE) (Γ++[Gm (OL P vs' L) D env]) w) hm hc hd ?_ ?_ ?_
 ·intro w hw;refine⟨fun t _=>rfl,vs,fun _ _=>rfl,?_⟩;have:dU (fun _=>false)=fun r=>r.a.isNone:=by
   funext r;unfold dU;cases r.a<;>cases r.c<;>rfl
  rw[this,hms];exact hw.weak fun S w h=>zD.append h ⟨fun i x t hi=>(by cases hi),trivial⟩
 ·rintro D i env w hR hE hlow hK hv ⟨hD,vs',hS,hT⟩;have hil':i<l.length:=by lia
  obtain⟨x,hxi⟩:=hG i hR;obtain⟨I,hI⟩:∃I,is[i]? =some I:=⟨_,xaa<|by lia⟩;obtain⟨o1,o2,o3,o4,hM⟩:=sI L is 0 [] i _ I hF hxi hI;rw[xaN]at hM o4;have hn:∀j,vH l 16 i j=true->D j=true:=fun j hj=>My hK hv 16 j hj;have hU:∀k,D k=true->vH l 16 k i≠true:=fun k hk hr=>by
   have:=Eu hv 16 k i hk hr;rw[hE]at this;cases this
  have hW:∀r∈rs,(r.c=some i/\i∉r.rd/\r.a≠some i/\dU D r=true/\dU (Bh D i) r=false)\/(r.a=some i/\r.c≠some i/\i∉r.rd/\dU D r=false/\dU (Bh D i) r=true)\/
   (i∈r.rd/\r.c≠some i/\r.a≠some i/\dU D r=true/\dU (Bh D i) r=true)\/(r.c≠some i/\r.a≠some i/\i∉r.rd/\dU D r=dU (Bh D i) r):=by
   intro r hr;have hA:vH l 16 i i≠true:=fun h=>by have:=hn i h;rw[hE]at this;cases this
   have hq:∀j,j≠i->Bh D i j=D j:=fun j hj=>NS hj;by_cases hf:r.c=some i
   ·obtain⟨c1,c2,c3⟩:=hp.c r hr i hf;have hu:i∉r.rd:=fun h=>hA<|c3 i h;have hb:r.a≠some i:=fun h=>hA<|c2 i h;refine .inl ⟨hf,hu,hb,?_,?_⟩
    ·unfold dU;rw[hf];simp only[hE,Bool.not_false,Bool.and_true]
     cases ha:r.a with
     |none=>rfl
     |some j=>exact hn j<|c2 j ha
    ·unfold dU;rw[hf];simp only[fW,xdL,Bool.and_false]
   ·by_cases hb:r.a=some i
    ·obtain⟨a1,a2⟩:=hp.a r hr i hb;have hu:i∉r.rd:=fun h=>hA<|a2 i h;refine .inr (.inl ⟨hb,hf,hu,?_,?_⟩)
     ·unfold dU;rw[hb];simp only[hE,Bool.false_and]
     ·unfold dU;rw[hb];simp only[fW,Bool.true_and]
      cases hg:r.c with
      |none=>rfl
      |some k=>
       simp only;rw[hq k<|fun e=>hf<|by rw[hg,e]]
       cases hY:D k with
       |false=>rfl
       |true=>exact absurd ((hp.c r hr k hg).2.1 i hb)<|hU k hY
    ·have hZ:∀k,r.c=some k->i∈r.rd->D k=false:=fun k hk hi=>by
      cases hY:D k with
      |false=>rfl
      |true=>exact absurd ((hp.c r hr k hk).2.2 i hi)<|hU k hY
     have hN:dU (Bh D i) r=dU D r:=by
      unfold dU
      cases ha:r.a with
      |none=>
       cases hg:r.c with
       |none=>rfl
       |some k=>simp only;rw[hq k<|fun e=>hf<|by rw[hg,e]]
      |some j=>
       cases hg:r.c with
       |none=>simp only;rw[hq j<|fun e=>hb<|by rw[ha,e]]
       |some k=>simp only;rw[hq j (fun e=>hb<|by rw[ha,e]),hq k<|fun e=>hf<|by rw[hg,e]]
     by_cases hu:i∈r.rd
     ·have:dU D r=true:=by
       unfold dU;have e1:(match r.c with|none=>false|some k=>D k)=false:=by
        cases hg:r.c with
        |none=>rfl
        |some k=>exact hZ k hg hu
       rw[e1];simp only[Bool.not_false,Bool.and_true]
       cases ha:r.a with
       |none=>rfl
       |some j=>exact hn j<|(hp.a r hr j ha).2 i hu
      exact .inr (.inr (.inl ⟨hu,hf,hb,this,hN.trans this⟩))
     ·exact .inr (.inr (.inr ⟨hf,hb,hu,hN.symm⟩))
  obtain⟨rest,h4,p1,p2⟩:=GM hW;have hV:∀S:Nat->Prop,∀w:World,(Gm (OL P vs' L) D env).p S w->X0 (KV P vs'<|mV (L.take i) []) env0 env S w (xbC l.toArray<|zT l i):=fun S w h5=>by
   rw[zcr];have:=zcZ hc (opre vs') (opre' vs') hR hE hK hv hD h5;rw[show OL P vs' (L.take i)=(OL P vs' L).take i by unfold OL;rw[List.map_take]];exact this
  have hO:St we Se (MS vs' (Ai i rs++cY i rs)++(mE++MS vs' rest)) (zbH (KV P vs'<|mV (L.take i) []) env0 env (xbC l.toArray<|zT l i)::(Γ++[Gm (OL P vs' L) D env])) w:=by
   refine St.weak (hT.perm ?_) fun S w h=>⟨hV S w (zD.right (Γ:=Γ) h).1,h⟩;have e1:(MS vs'<|gD (dU D) rs).Perm (MS vs' (Ai i rs++cY i rs)++MS vs' rest):=by
    unfold MS;rw[<-xbg,xaj];exact p1.map _
   refine(xfk mE e1).trans ?_;rw[xaj];exact xcg _ List.perm_append_comm
  have hM:=hM vs' hS env (MS vs' rest) [Gm (OL P vs' L) D env] w hO;have hX:∀(v:Value) (t:Tmp),(∀i',i'<m->Bh D i i'=true->(zT l i').dst≠some t)->put env (zT l i).dst v t=env0 t:=fun v t ht=>by
   rw[cX<|ht i hR<|fW D i];exact hD t fun j hj hDj=>ht j hj<|zdT hDj
  have close:∀(v:Value) (w':World) (vs2:Nat->Value),(∀p,p<I.lo->vs2 p=vs' p)->St we Se (MS vs2 (oQ i rs)++(MS vs' (cY i rs)++(mE++MS vs' rest))) (zdW P vs2 v x++(Γ++[Gm (OL P vs' L) D env])) w'->
   ∃vs3,(∀p,p<n0->vs3 p=vs p)/\St we Se (MS vs3 (gD (dU<|Bh D i) rs)++mE) (Γ++[Gm (OL P vs3 L) (Bh D i)<|put env (zT l i).dst v]) w':=by
   intro v w' vs2 h6 hs;have e3:∃vs3:Nat->Value,vs3=fun p=>if I.lo<=p/\p<I.hi then vs2 p else vs' p:=⟨_,rfl⟩;obtain⟨vs3,e3⟩:=e3;have hP:∀p,p<I.hi->vs3 p=vs2 p:=fun p hp=>by
    rw[e3];simp only;split
    ·rfl
    ·next hc=>exact(h6 p<|by lia).symm
   have hB:∀p,¬(I.lo<=p/\p<I.hi)->vs3 p=vs' p:=fun p hp=>by
    rw[e3];exact ir hp
   refine⟨vs3,fun p hp=>(hB p<|by lia).trans<|hS p hp,?_⟩;have hC:∀r∈rs,dU D r=true->vs3 r.o=vs' r.o:=fun r hr hC=>hB r.o fun⟨g1,g2⟩=>by
    obtain⟨j,hj,hji⟩:=hp.n i I hI r hr g1 g2;unfold dU at hC;rw[hj,xam]at hC;rcases hji with rfl|hji
    ·have:=hC.1;simp only at this;rw[hE]at this;cases this
    ·exact hU j hC.1 hji
   have m1:MS vs3 (oQ i rs)=MS vs2 (oQ i rs):=wa fun e he=>hP e.1<|o4 e he;have m2:MS vs3 (cY i rs)=MS vs' (cY i rs):=wa fun e he=>by
    obtain⟨r,hr,h7⟩:=xfe.1 he;split at h7
    ·next hi=>
     cases h7;rcases hW r hr with⟨a1,a2,_⟩|⟨a1,a2,a3,_⟩|⟨a1,a2,a3,a4,_⟩|⟨a1,a2,a3,_⟩
     ·exact absurd hi a2
     ·exact absurd hi a3
     ·exact hC r hr a4
     ·exact absurd hi a3
    ·cases h7
   have m3:MS vs3 rest=MS vs' rest:=wa fun e he=>by
    obtain⟨r,hr,rfl,h1,_⟩:=h4 e he;exact hC r hr h1
   have hpm:(MS vs3 (gD (dU<|Bh D i) rs)++mE).Perm (MS vs2 (oQ i rs)++(MS vs' (cY i rs)++(mE++MS vs' rest))):=by
    rw[<-m1,<-m2,<-m3];have e1:(MS vs3<|gD (dU<|Bh D i) rs).Perm (MS vs3 (oQ i rs)++(MS vs3 (cY i rs)++MS vs3 rest)):=by
     unfold MS;rw[<-xbg,<-xbg];exact p2.map _
    refine(xfk mE e1).trans ?_;rw[xaj,xaj];exact xcg _<|xcg _ List.perm_append_comm
   refine St.weak (hs.perm hpm.symm) fun S w2 h=> ?_;have hΓ:=zD.right h;refine zD.append (zD.left hΓ) ⟨?_,trivial⟩;have h5:=(zD.right hΓ).1;intro j y t hj hy ht;rw[OL,xaT]at hy
   cases hz:L[j]? with
   |none=>rw[hz]at hy;cases hy
   |some z=>
    rw[hz]at hy;cases hy;obtain⟨hjm,hzo⟩:=hH j z hz;by_cases hji:j=i
    ·subst hji;rw[hxi]at hz;cases hz;have ht':(zT l j).dst=some t:=ht;show(prL P vs3 x).p S (put env (zT l j).dst v t) w2;rw[ht',pJ];intro e he;have:=jH.1 (zD.left h) _<|xap.2 ⟨e,he,rfl⟩;have h8:xN P vs3 e.2 v e.1=xN P vs2 e.2 v e.1:=by
      unfold xN;simp only[dK (P:=P) (vs':=vs3) (vs:=vs2) (d:=e.2) fun o ho=>hP o (o3 e he o ho).1]
     rw[h8];exact this
    ·rw[NS hji]at hj;have hne:(zT l i).dst≠some t:=hp.uniq j i t hjm hR hji<|hzo▸ht;show(prL P vs3 z.2).p S (put env (zT l i).dst v t) w2;rw[cX hne];intro e he;have:=h5 j (z.1,prL P vs' z.2) t hj (by rw[OL,xaT,hz];rfl) ht;have:=this e he;obtain⟨J,hJ⟩:∃J,is[j]? =some J:=⟨_,xaa<|by lia⟩;obtain⟨_,_,q3,_,_⟩:=sI L is 0 [] j _ J hF hz hJ;have h8:xN P vs3 e.2 (env t) e.1=xN P vs' e.2 (env t) e.1:=by
      unfold xN;simp only[dK (P:=P) (vs':=vs3) (vs:=vs') (d:=e.2) fun o ho=>hB o fun⟨g1,g2⟩=>by
       rcases hp.f i I j J hI hJ o (q3 e he o ho).2 g1 g2 with h|h
       ·exact hji h
       ·exact hU j hj h]
     rw[h8];exact this
  refine⟨fun hw=>(hM.1 hw).mono fun v w' ⟨vs2,h6,hs⟩=>⟨hX v,close v w' vs2 h6 hs⟩,fun hw=>⟨hX undef,?_⟩⟩;obtain⟨g1,g2,g3⟩:=hM.2 hw;refine close undef w vs' (fun _ _=>rfl) ?_;rw[g1,xbA]at hO;rw[g2];refine St.weak (show St we Se (MS vs' []++(MS vs' (cY i rs)++(mE++MS vs' rest))) _ w from hO) fun S w h=>zD.append (g3 S w) h.2
 ·rintro D env w hQ hlow ⟨hD,vs',hS,hT⟩;refine fin env w vs' hS ?_;have hav:gD (dU D) rs=gD (fun r=>r.c.isNone) rs:=by
   refine Cp fun r hr=> ?_;have:dU D r=r.c.isNone:=by
    unfold dU;have e1:(match r.a with|none=>true|some j=>D j)=true:=by
     cases ha:r.a with
     |none=>rfl
     |some j=>exact hQ j (hp.a r hr j ha).1
    rw[e1]
    cases hg:r.c with
    |none=>rfl
    |some k=>simp only[hQ k (hp.c r hr k hg).1];rfl
   exact this
  rw[hav]at hT;refine hT.weak fun S w h=>⟨?_,zD.left h⟩;refine Jh ts fun t _=> ?_;have:=OE (i:=m) (t:=t) (opre vs') (opre' vs') hD (zD.right (Γ:=Γ) h).1 (xab m) fun j hj _=>⟨fun _=>hj,fun _=>hQ j hj⟩;rw[zcr];rwa[xaQ<|by unfold OL;rw[xaP];lia]at this
end
end
section
section
variable{P:Program}{cf:Cf}{fr:Fr}{cx σ σ0:Sg}{vs vs':Nat->Value}{env env0:yR}{w:World}{R:Type}{r:R}
theorem Uz:∀{rg:List (Nat×Nat×Dv)}{e:Nat×Nat×Dv},e∈dd rg->e∈rg
 |a::r,e,h=>by
  rcases xad.1 h with rfl|h
  ·exact FS
  ·exact UV _<|Uz (xck.1 h).1
theorem C3:∀{rg:List (Nat×Nat×Dv)}{e:Nat×Nat×Dv},e∈dd rg->dk rg e.1 e.2.1=some e.2.2
 |(t,i,d)::r,e,h=>by
  rcases xad.1 h with rfl|h
  ·unfold dk;simp
  ·obtain⟨h1,h2⟩:=xck.1 h;unfold dk;simp only[xdn]at h2;rw[h2];exact C3 h1
theorem Aa:∀(ts:List Nat),Qe env (ts.map fun t=>(t,env t))
 |[]=>rfl
 |t::ts=>s9 rfl<|Aa ts
theorem Fb{rest:yR}:∀{ts:List Nat}{t:Nat},t∈ts->L (ts.map fun t=>(t,env t)) rest t=env t
 |s::ts,t,h=>by
  simp only[xbZ,L];cases hb:xao t s
  ·simp only[cond_false];rcases xad.1 h with rfl|h
   ·simp at hb
   ·exact Fb h
  ·rw[yc hb];rfl
theorem Hj:∀(l:List Oper) (al:List (Nat×Operand)) {σ:Sg},Zc P fr cx σ env w->Zc P fr cx (zeZ cf cx l al σ) env w
 |[],_,_,h=>h
 |o::r,al,σ,h=>Hj r _<|tj _ h
theorem N0{N:Nat}{l:List Oper}(h:(l.all fun o=>qx N o.dst)=true)(m:Nat):((l.drop m).all fun o=>qx N o.dst)=true:=by grind [xaS,xeM]
theorem c8:∀(l:List Nat) {σ:Sg},aW P fr cx σ vs env w->aW P fr cx (ru σ l) vs env w
 |[],_,h=>h
 |o::r,_,h=>c8 r<|BM h
theorem FO:∀(l:List Nat) (σ:Sg),(ru σ l).nx=σ.nx
 |[],_=>rfl
 |o::r,σ=>by
  show(ru (Ib σ o) r).nx=_;rw[FO r];unfold Ib;split<;>rfl
structure RX1(i:Nat)(r r':Rb):Prop where
 a:r'.a=r.a
 o:r'.o=r.o
 x:r'.x=r.x
 c1:∀k,r.c=some k->r'.c=some k
 c2:r.c=none->∀k,r'.c=some k->i<=k
 d1:∀j∈r.rd,j∈r'.rd
 d2:∀j∈r'.rd,j∈r.rd\/i<=j
def RX(i:Nat):List Rb->List Rb->Prop
 |[],rs'=>∀r∈rs',(∃j,r.a=some j/\i<=j)/\(∀k,r.c=some k->i<=k)/\∀j∈r.rd,i<=j
 |_::_,[]=>False
 |r::rs,r'::rs'=>RX1 i r r'/\RX i rs rs'
def mx(i:Nat)(rs:List Rb):Prop:=∀r∈rs,(∀j,r.a=some j->j<i)/\(∀k,r.c=some k->k<i)/\∀j∈r.rd,j<i
theorem RX.refl(i:Nat):∀rs:List Rb,RX i rs rs
 |[]=>fun r hr=>absurd hr IR
 |r::rs=>⟨⟨rfl,rfl,rfl,fun _ h=>h,fun h k hk=>(by rw[h]at hk;cases hk),fun _ h=>h,fun _ h=> .inl h⟩,RX.refl i rs⟩
theorem MJ{i:Nat}{rs':List Rb}(h:RX (i+1) [] rs'):RX i [] rs'/\Ai i rs'=[]/\oQ i rs'=[]/\cY i rs'=[]:=by
 refine⟨fun r hr=> ?_,?_,?_,?_⟩
 ·obtain⟨⟨j,h1,h2⟩,h3,h4⟩:=h r hr;exact⟨⟨j,h1,by lia⟩,fun k hk=>by have:=h3 k hk;lia,fun j hj=>by have:=h4 j hj;lia⟩
 ·refine xdS.2 fun r hr=>ir fun e=> ?_;have:=(h r hr).2.1 i e;lia
 ·refine xdS.2 fun r hr=>ir fun e=> ?_;obtain⟨j,h1,h2⟩:=(h r hr).1;rw[e]at h1;cases h1;lia
 ·refine xdS.2 fun r hr=>ir fun e=> ?_;have:=(h r hr).2.2 i e;lia
theorem RX1.step{i:Nat}{r r1 r':Rb}(h:RX1 (i+1) r1 r')(ha:r1.a=r.a)(ho:r1.o=r.o)(hx:r1.x=r.x)(hc:∀k,r.c=some k->r1.c=some k)(hb:r.c=none->∀k,r1.c=some k->k=i)(hd:∀j∈r.rd,j∈r1.rd)(he:∀j∈r1.rd,j∈r.rd\/j=i):RX1 i r r':=
{
 a:=h.a.trans ha
 o:=h.o.trans ho
 x:=h.x.trans hx
 c1:=fun k hk=>h.c1 k<|hc k hk
 c2:=fun hn k hk=>by
  cases h1:r1.c with
  |none=>have:=h.c2 h1 k hk;lia
  |some q=>
   have:=h.c1 q h1;rw[hk]at this;cases this;have:=hb hn k h1;lia
 d1:=fun j hj=>h.d1 j<|hd j hj
 d2:=fun j hj=>by
  rcases h.d2 j hj with h1|h1
  ·rcases he j h1 with h2|h2
   ·exact .inl h2
   ·exact .inr<|by lia
  ·exact .inr<|by lia}
theorem O5{i:Nat}:∀{rs rs':List Rb},mx i rs->RX (i+1) rs rs'->RX i rs rs'/\Ai i rs'=[]/\oQ i rs'=[]/\cY i rs'=[]
 |[],rs',_,h=>MJ h
 |r::rs,[],_,h=>h.elim
 |r::rs,r'::rs',ho,⟨h1,h2⟩=>by
  obtain⟨g1,g2,g3,g4⟩:=O5 (rs:=rs) (fun q hq=>ho q<|UV _ hq) h2;obtain⟨q1,q2,q3⟩:=ho r<|FS;have e1:r'.c≠some i:=fun e=>by
   cases hc:r.c with
   |none=>have:=h1.c2 hc i e;lia
   |some k=>have:=h1.c1 k hc;rw[e]at this;cases this;have:=q2 i hc;lia
  have e2:r'.a≠some i:=fun e=>by rw[h1.a]at e;have:=q1 i e;lia
  have e3:i∉r'.rd:=fun e=>by
   rcases h1.d2 i e with h|h
   ·have:=q3 i h;lia
   ·lia
  refine⟨⟨h1.step rfl rfl rfl (fun _ h=>h) (fun hn k hk=>(by rw[hn]at hk;cases hk)) (fun _ h=>h)<|fun _ h=> .inl h,g1⟩,?_,?_,?_⟩
  ·unfold Ai at g2⊢;rw[xaO,ir e1];exact g2
  ·unfold oQ at g3⊢;rw[xaO,ir e2];exact g3
  ·unfold cY at g4⊢;rw[xaO,ir e3];exact g4
theorem zcP{i:Nat}{os:List Nat}:∀{rs rs':List Rb},mx i rs->RX (i+1) (ND i os rs) rs'->RX i rs rs'/\Ai i rs'=[]/\oQ i rs'=[]/\∀e∈aY os rs,e∈cY i rs'
 |[],rs',_,h=>by
  obtain⟨g1,g2,g3,_⟩:=MJ h;exact⟨g1,g2,g3,fun e he=>absurd he IR⟩
 |r::rs,[],_,h=>h.elim
 |r::rs,r'::rs',ho,⟨h1,h2⟩=>by
  obtain⟨g1,g2,g3,g4⟩:=zcP (rs:=rs) (fun q hq=>ho q<|UV _ hq) h2;obtain⟨q1,q2,q3⟩:=ho r<|FS;obtain⟨r1,ha⟩:∃r1,r1=(match r.c,dn os r.o with|none,true=>(⟨r.a,none,i::r.rd,r.o,r.x⟩:Rb)|_,_=>r):=⟨_,rfl⟩;have h1:RX1 (i+1) r1 r':=by rw[ha];exact h1
  have k1:r1.a=r.a/\r1.o=r.o/\r1.x=r.x/\r1.c=r.c/\(∀j∈r.rd,j∈r1.rd)/\(∀j∈r1.rd,j∈r.rd\/j=i):=by
   rw[ha];split
   ·next hc _=>exact⟨rfl,rfl,rfl,hc.symm,fun j hj=>UV _ hj,fun j hj=>(xad.1 hj).symm⟩
   ·exact⟨rfl,rfl,rfl,rfl,fun _ h=>h,fun _ h=> .inl h⟩
  obtain⟨ka,ko,kx,kc,kd,kd2⟩:=k1;have e1:r'.c≠some i:=fun e=>by
   cases hc:r.c with
   |none=>have:=h1.c2 (kc.trans hc) i e;lia
   |some k=>have:=h1.c1 k<|kc.trans hc;rw[e]at this;cases this;have:=q2 i hc;lia
  have e2:r'.a≠some i:=fun e=>by rw[h1.a,ka]at e;have:=q1 i e;lia
  refine⟨⟨h1.step ka ko kx (fun k hk=>kc.trans hk) (fun hn k hk=>by rw[kc,hn]at hk;cases hk) kd kd2,g1⟩,?_,?_,?_⟩
  ·unfold Ai at g2⊢;rw[xaO,ir e1];exact g2
  ·unfold oQ at g3⊢;rw[xaO,ir e2];exact g3
  ·intro e he;unfold aY at he;unfold cY at g4⊢;rw[xaO];split at he
   ·next hc hh=>
    have hi:i∈r'.rd:=h1.d1 i (by rw[ha,hc,hh];exact FS);rw[iq hi];rcases xad.1 he with rfl|he
    ·rw[h1.o,h1.x,ko,kx];exact FS
    ·exact UV _<|g4 e he
   ·split
    ·exact g4 e he
    ·exact UV _<|g4 e he
theorem zbW{i:Nat}:∀{ob:List (Nat×Od)}{rs':List Rb},RX (i+1) (zfE i ob) rs'->RX i [] rs'/\Ai i rs'=[]/\oQ i rs'=ob/\cY i rs'=[]
 |[],rs',h=>MJ h
 |e::ob,[],h=>h.elim
 |e::ob,r'::rs',⟨h1,h2⟩=>by
  obtain⟨g1,g2,g3,g4⟩:=zbW (ob:=ob) h2;have e1:r'.c≠some i:=fun e=>by have:=h1.c2 rfl i e;lia
  have e2:r'.a=some i:=h1.a;have e3:i∉r'.rd:=fun e=>by
   rcases h1.d2 i e with h|h
   ·cases h
   ·lia
  refine⟨fun r hr=> ?_,?_,?_,?_⟩
  ·rcases xad.1 hr with rfl|hr
   ·exact⟨⟨i,e2,xab _⟩,fun k hk=>by have:=h1.c2 rfl k hk;lia,fun j hj=>by
     rcases h1.d2 j hj with h|h
     ·cases h
     ·lia⟩
   ·exact g1 r hr
  ·unfold Ai at g2⊢;rw[xaO,ir e1];exact g2
  ·unfold oQ at g3⊢;rw[xaO,iq e2,g3,h1.o,h1.x]
  ·unfold cY at g4⊢;rw[xaO,ir e3];exact g4
theorem TQ{i:Nat}{os:List Nat}{ob:List (Nat×Od)}:∀{rs rs':List Rb},mx i rs->RX (i+1) (NB i os rs++zfE i ob) rs'->RX i rs rs'/\Ai i rs'=aY os rs/\oQ i rs'=ob/\cY i rs'=[]
 |[],rs',_,h=>zbW h
 |r::rs,[],_,h=>h.elim
 |r::rs,r'::rs',ho,⟨h1,h2⟩=>by
  obtain⟨g1,g2,g3,g4⟩:=TQ (rs:=rs) (fun q hq=>ho q<|UV _ hq) h2;obtain⟨q1,q2,q3⟩:=ho r<|FS;obtain⟨r1,ha⟩:∃r1,r1=(match r.c,dn os r.o with|none,true=>(⟨r.a,some i,r.rd,r.o,r.x⟩:Rb)|_,_=>r):=⟨_,rfl⟩;have h1:RX1 (i+1) r1 r':=by rw[ha];exact h1
  have k1:r1.a=r.a/\r1.o=r.o/\r1.x=r.x/\r1.rd=r.rd/\(∀k,r.c=some k->r1.c=some k)/\(r.c=none->∀k,r1.c=some k->k=i):=by
   rw[ha];split
   ·next hc _=>exact⟨rfl,rfl,rfl,rfl,fun k hk=>(by rw[hc]at hk;cases hk),fun _ k hk=>(by cases hk;rfl)⟩
   ·exact⟨rfl,rfl,rfl,rfl,fun _ h=>h,fun hn k hk=>(by rw[hn]at hk;cases hk)⟩
  obtain⟨ka,ko,kx,kd,kc,kc2⟩:=k1;have e2:r'.a≠some i:=fun e=>by rw[h1.a,ka]at e;have:=q1 i e;lia
  have e3:i∉r'.rd:=fun e=>by
   rcases h1.d2 i e with h|h
   ·rw[kd]at h;have:=q3 i h;lia
   ·lia
  refine⟨⟨h1.step ka ko kx kc kc2 (fun j hj=>by rw[kd];exact hj) (fun j hj=>by rw[kd]at hj;exact .inl hj),g1⟩,?_,?_,?_⟩
  ·have no:r1=r->r'.c≠some i:=fun hb e=>by
    rw[hb]at h1
    cases hc:r.c with
    |none=>have:=h1.c2 hc i e;lia
    |some k=>have:=h1.c1 k hc;rw[e]at this;cases this;have:=q2 i hc;lia
   have hv:aY os (r::rs)=(match r.c,dn os r.o with|none,true=>(r.o,r.x)::aY os rs|_,_=>aY os rs):=rfl;have hd:Ai i (r'::rs')=if r'.c=some i then(r'.o,r'.x)::Ai i rs' else Ai i rs':=by
    unfold Ai;rw[xaO];split<;>next h=>split at h<;>simp_all
   rw[hd,hv,g2]
   cases hc:r.c with
   |some k=>
    rw[ir<|no<|by rw[ha,hc]]
   |none=>
    cases hh:dn os r.o with
    |false=>rw[ir<|no<|by rw[ha,hc,hh]]
    |true=>
     have:r'.c=some i:=h1.c1 i (by rw[ha,hc,hh]);rw[iq this,h1.o,h1.x,ko,kx]
  ·unfold oQ at g3⊢;rw[xaO,ir e2];exact g3
  ·unfold cY at g4⊢;rw[xaO,ir e3];exact g4
theorem zb6{i:Nat}:∀{ob:List (Nat×Od)}{rs':List Rb},RX i (zj6 ob) rs'->gD (fun r=>r.a.isNone) rs'=ob
 |[],rs',h=>xdS.2 fun r hr=>by
  obtain⟨⟨j,h1,_⟩,_⟩:=h r hr;simp[h1]
 |e::ob,[],h=>h.elim
 |e::ob,r'::rs',⟨h1,h2⟩=>by
  have ih:=zb6 (ob:=ob) h2;unfold gD at ih⊢;have:r'.a=none:=h1.a;simp only[xaO,this,Option.isNone_none,if_true];rw[ih,h1.o,h1.x]
theorem zdY{i:Nat}{os:List Nat}{rs:List Rb}(h:mx i rs):mx (i+1) (ND i os rs):=by
 induction rs with
 |nil=>exact fun r hr=>absurd hr IR
 |cons r rs ih=>
  intro q hq;unfold ND at hq;rcases xad.1 hq with rfl|hq
  ·obtain⟨q1,q2,q3⟩:=h r<|FS;split
   ·exact⟨fun j hj=>(by have:=q1 j hj;lia),fun k hk=>(by cases hk),fun j hj=>by
     rcases xad.1 hj with rfl|hj
     ·lia
     ·have:=q3 j hj;lia⟩
   ·exact⟨fun j hj=>by have:=q1 j hj;lia,fun k hk=>by have:=q2 k hk;lia,fun j hj=>by have:=q3 j hj;lia⟩
  ·exact ih (fun q hq=>h q<|UV _ hq) q hq
theorem zeM{i:Nat}{os:List Nat}{rs:List Rb}(h:mx i rs):mx (i+1) (NB i os rs):=by
 induction rs with
 |nil=>exact fun r hr=>absurd hr IR
 |cons r rs ih=>
  intro q hq;unfold NB at hq;rcases xad.1 hq with rfl|hq
  ·obtain⟨q1,q2,q3⟩:=h r<|FS;split
   ·exact⟨fun j hj=>by have:=q1 j hj;lia,fun k hk=>by cases hk;lia,fun j hj=>by have:=q3 j hj;lia⟩
   ·exact⟨fun j hj=>by have:=q1 j hj;lia,fun k hk=>by have:=q2 k hk;lia,fun j hj=>by have:=q3 j hj;lia⟩
  ·exact ih (fun q hq=>h q<|UV _ hq) q hq
theorem zfw{i:Nat}{ob:List (Nat×Od)}{rs:List Rb}(h:mx (i+1) rs):mx (i+1) (rs++zfE i ob):=fun q hq=>by
 rcases Nm.1 hq with hq|hq
 ·exact h q hq
 ·obtain⟨e,_,rfl⟩:=xap.1 hq;exact⟨fun j hj=>by cases hj;lia,fun k hk=>(by cases hk),fun j hj=>absurd hj IR⟩
theorem zgI{i:Nat}{rs:List Rb}(h:mx i rs):mx (i+1) rs:=fun r hr=>by
 obtain⟨q1,q2,q3⟩:=h r hr;exact⟨fun j hj=>by have:=q1 j hj;lia,fun k hk=>by have:=q2 k hk;lia,fun j hj=>by have:=q3 j hj;lia⟩
theorem ziN{i n:Nat}{os:List Nat}{rs:List Rb}(h:∀r∈rs,r.o<n):∀r∈ND i os rs,r.o<n:=by
 induction rs with
 |nil=>exact fun r hr=>absurd hr IR
 |cons r rs ih=>
  intro q hq;unfold ND at hq;rcases xad.1 hq with rfl|hq
  ·have:=h r<|FS;split<;>exact this
  ·exact ih (fun q hq=>h q<|UV _ hq) q hq
theorem zi6{i n:Nat}{os:List Nat}{rs:List Rb}(h:∀r∈rs,r.o<n):∀r∈NB i os rs,r.o<n:=by
 induction rs with
 |nil=>exact fun r hr=>absurd hr IR
 |cons r rs ih=>
  intro q hq;unfold NB at hq;rcases xad.1 hq with rfl|hq
  ·have:=h r<|FS;split<;>exact this
  ·exact ih (fun q hq=>h q<|UV _ hq) q hq
theorem zbB{n:Nat}{os:List Nat}:∀{rs:List Rb},(∀r∈rs,r.o<n)->∀e∈aY os rs,e.1<n
 |[],_,e,he=>absurd he IR
 |r::rs,h,e,he=>by
  have ih:=zbB (os:=os) (rs:=rs) fun q hq=>h q<|UV _ hq;unfold aY at he;split at he
  ·rcases xad.1 he with rfl|he
   ·exact h r<|FS
   ·exact ih e he
  ·exact ih e he
theorem PF:∀(rs:List Rb),Lq rs=gD (fun r=>r.c.isNone) rs
 |[]=>rfl
 |r::rs=>by
  have ih:=PF rs;unfold gD at ih⊢;unfold Lq
  cases hc:r.c with
  |none=>simp only[xaO,hc,Option.isNone_none,if_true];rw[ih]
  |some k=>simp only[xaO,hc,Option.isNone_some,xak,if_false];exact ih
theorem JW{ts:List Tmp}:∀{rg:List (Nat×Nat×Dv)}{e:Nat×Nat×Dv},e∈JT ts rg->e∈rg/\dn ts e.1=true
 |(t,i,v)::r,e,h=>by
  unfold JT at h;split at h
  ·next hh=>
   rcases xad.1 h with rfl|h
   ·exact⟨FS,hh⟩
   ·obtain⟨h1,h2⟩:=JW h;exact⟨UV _ h1,h2⟩
  ·obtain⟨h1,h2⟩:=JW h;exact⟨UV _ h1,h2⟩
theorem cn{ts:List Tmp}{t i:Nat}(ht:dn ts t=true):∀{rg:List (Nat×Nat×Dv)},dk (JT ts rg) t i=dk rg t i
 |[]=>rfl
 |(t',i',v)::r=>by
  unfold JT;split
  ·unfold dk;rw[cn ht]
  ·next hh=>
   rw[cn ht];conv=>rhs;unfold dk
   rw[u7<|fun e=>by rw[e,ht]at hh;cases hh];rfl
theorem Pw{t i:Nat}:∀{a b:List (Nat×Nat×Dv)},dk (a++b) t i=match dk a t i with|some d=>some d|none=>dk b t i
 |[],b=>rfl
 |(t',i',v)::a,b=>by
  show(bif xao t' t && xao i' i then some v else dk (a++b) t i)=(match(bif xao t' t && xao i' i then some v else dk a t i)with|some d=>some d|none=>dk b t i);cases hb:xao t' t && xao i' i
  ·simp only[cond_false];exact Pw
  ·simp only[cond_true]
theorem zdV{l:List Nat}{t:Nat}(h:dn l t=true):t∈l:=by grind [dn,yc,xeQ]
theorem iw:∀{l:List (Nat×Dv)}{e:Nat×Dv}{p:Nat},e∈l->wu e.2=some p->p∈dQ l
 |(i,v)::r,e,p,h,hp=>by
  unfold dQ;rcases xad.1 h with rfl|h
  ·have hp:wu v=some p:=hp;rw[hp];exact FS
  ·have:=iw h hp;split
   ·exact UV _ this
   ·exact this
theorem zaW{d:Option Tmp}{rg:List (Nat×Nat×Dv)}{e:Nat×Dv}(h:e∈nN d rg):∃t,d=some t/\(t,e.1,e.2)∈rg:=by
 unfold nN at h;split at h
 ·next t=>
  obtain⟨q,hq,he⟩:=xfe.1 h;split at he
  ·next hb=>
   cases he;rw[<-yc hb];exact⟨_,rfl,hq⟩
  ·cases he
 ·cases h
def MR(P:Program)(vs:Nat->Value)(n0:Nat)(Γ:List FF)(env0:yR)(cx σ:Sg)(KL:List (Tmp×List (Nat×Dv))):Prop:=∀vs',(∀p,p<n0->vs' p=vs p)->L9 P vs' Γ env0 cx σ (KV P vs' KL)
def Pe(cx:Sg)(KL:List (Tmp×List (Nat×Dv))):Prop:=∀e∈KL,Yf cx.rg e.1=true
theorem iM{KL:List (Tmp×List (Nat×Dv))}{l:List (Nat×Dv)}{d:Option Tmp}(hd:wv cx d=true)(h:Pe cx KL):Pe cx (DM d l KL):=by
 cases d with
 |none=>exact h
 |some s=>
  intro e he;rcases xad.1 he with rfl|he
  ·exact hd
  ·exact h e he
theorem re{n0:Nat}{Γ:List FF}{KL:List (Tmp×List (Nat×Dv))}{l:List (Nat×Dv)}{o:Oper}(hd:wv cx o.dst=true)(h:MR P vs n0 Γ env0 cx σ KL):MR P vs n0 Γ env0 cx (σ.put o.dst l) (DM o.dst l KL):=fun vs' hv=>by
 rw[zbY];exact tv hd (h vs' hv) fun S v w hv=>hv
theorem Ec(hT:y4 P cf.tt)(hL:jT P cf.tt)(hC:∀s∈cf.cs,y9 P s)(hX:Ak P cf){all:List Oper}{fz:List Nat}{k:Sg->List Rb->List Oi->Option R}{Γ:List FF}{n0:Nat}(hu:∀e∈cx.ob,e.1<n0):∀{os:List Oper}{i:Nat}{σ:Sg}{rs:List Rb}{is:List Oi}{KL:List (Tmp×List (Nat×Dv))},
 Ra cf cx all fz os i σ rs is k=some r->MR P vs n0 Γ env0 cx σ KL->Pe cx KL->σ.ob=[]->Bd cx σ->(∀r∈rs,r.o<σ.nx)->mx i rs->n0<=σ.nx->
 ∃(Ls:List (List<|Nat×Dv)) (is':List Oi) (σ':Sg) (rs':List Rb),Ls.length=os.length/\is'.length=os.length/\k σ' rs' (is++is')=some r/\RX i rs rs'/\
  zeY P all.toArray fr.we fr.Se (MS vs cx.ob++fr.F) Γ env0 vs n0 rs' ((os.zip Ls).zip is') i KL/\MR P vs n0 Γ env0 cx σ' (mV (os.zip Ls) KL)/\Pe cx (mV (os.zip Ls) KL)/\σ'.ob=[]/\Bd cx σ'/\(∀r∈rs',r.o<σ'.nx)/\n0<=σ'.nx
 |[],i,σ,rs,is,KL,h,hi,hn,ho,hB,hr,hO,h0=>⟨[],[],σ,rs,rfl,rfl,by rw[xbQ];exact h,RX.refl _ _,trivial,hi,hn,ho,hB,hr,h0⟩
 |o::os,i,σ,rs,is,KL,h,hi,hn,ho,hB,hr,hO,h0=>by
  unfold Ra at h;obtain⟨hd,h⟩:=yn h;obtain⟨σ1,b,h,hN,hD,hP,hH,hQ⟩:=HZ h hB;have hc:∀{vs' env S w},(∀p,p<n0->vs' p=vs p)->zD S Γ w->X0 (KV P vs' KL) env0 env S w (xbC all.toArray o)->∀t∈xbC all.toArray o,Lk P vs' env S w cx σ t:=fun{vs' env S w} hv hΓ hh t ht=>hi vs' hv env S w hΓ t<|Yn hh t ht;cases b
  ·have h':MR P vs n0 Γ env0 cx (σ1.put o.dst [(0,.un)]) (DM o.dst [(0,.un)] KL):=re hd fun vs' hv env S w hΓ t ht=>hH P vs' env S w t<|hi vs' hv env S w hΓ t ht;obtain⟨Ls,is',σ',rs',h1,h2,h3,h4,h5,h6,h7,h8,h9,hy,hz⟩:=Ec hT hL hC hX hu (os:=os) h h' (iM hd hn) (hN.trans ho) (iu hP fun e he p hp=>by obtain rfl:=xai.1 he;cases hp) (fun r hs=>by show r.o<σ1.nx;rw[hD];exact hr r hs) (zgI hO) (by show n0<=σ1.nx;rw[hD];exact h0);obtain⟨g1,g2,g3,g4⟩:=O5 hO h4;refine⟨[(0,.un)]::Ls,⟨σ1.nx,σ1.nx,[]⟩::is',σ',rs',by simp[h1],by simp[h2],by rw[<-h3];simp,g1,⟨⟨(by show n0<=σ1.nx;rw[hD];exact h0),xab _,fun e he p hp=>(by obtain rfl:=xai.1 he;cases hp),fun e he=>(by rw[g3]at he;cases he),fun vs' hv env F G w hb=>⟨fun hw=> ?_,fun _=>⟨g2,g3,fun S w=>⟨rfl,trivial⟩⟩⟩⟩,h5⟩,h6,h7,h8,h9,hy,hz⟩;exfalso;obtain⟨S,_,hΓ⟩:=hb.ex;have:=hQ P vs' env S w fun t ht=>hc hv (zD.left hΓ.2) hΓ.1 t ht;rw[hw]at this;cases this
  ·obtain⟨σ2,h,ho2,hx2,hg,hR⟩:=OZ h hP;have hI:∀vs' env S w t,Lk P vs' env S w cx σ t->Lk P vs' env S w cx σ2 t:=fun vs' env S w t ht=>hR P vs' env S w t<|hH P vs' env S w t ht;have hS:MR P vs n0 Γ env0 cx σ2 KL:=fun vs' hv env S w hΓ t ht=>hI vs' env S w t<|hi vs' hv env S w hΓ t ht;have hj:σ2.nx=σ.nx:=hx2.trans hD;have hJ:∀{vs' env S w},(∀p,p<n0->vs' p=vs p)->zD S Γ w->X0 (KV P vs' KL) env0 env S w (xbC all.toArray o)->yH all.toArray env o=true:=fun{vs' env S w} hv hΓ hh=>hQ P vs' env S w fun t ht=>hc hv hΓ hh t ht;generalize hA:xbC all.toArray o=ts at h hc hJ;generalize hos:UY ts σ2.rg=osn at h;generalize hbz:fzB fz o.dst=bz at h;cases hM:zfS cf cx ⟨σ2.nx,σ2.rg,aY osn rs⟩ bz o.dst o.op<;>rw[hM]at h
   ·simp only[NI]at h;obtain⟨l,h,hes⟩:=zaz (P:=P) (d:=o.dst) (ty:=o.type) (pos:=o.pos) (aft:=o.after) (g:=o.guard) (F:=[]) hT hL hC hX h;obtain⟨hl,h⟩:=yn h;obtain⟨Ls,is',σ',rs',h1,h2,h3,h4,h5,h6,h7,h8,h9,hy,hz⟩:=Ec hT hL hC hX hu (os:=os) h (re hd hS) (iM hd hn) (ho2.trans<|hN.trans ho) (iu hg<|Cm hl) (ziN fun r hs=>by show r.o<σ2.nx;rw[hj];exact hr r hs) (zdY hO) (by show n0<=σ2.nx;rw[hj];exact h0);obtain⟨g1,g2,g3,g4⟩:=zcP hO h4;refine⟨l::Ls,⟨σ2.nx,σ2.nx,dQ l⟩::is',σ',rs',by simp[h1],by simp[h2],by rw[<-h3];simp,g1,⟨⟨(by show n0<=σ2.nx;rw[hj];exact h0),xab _,fun e he p hp=>⟨Cm hl e he p hp,iw he hp⟩,fun e he=>(by rw[g3]at he;cases he),fun vs' hv env F G w hb=>⟨fun _=> ?_,fun hw=> ?_⟩⟩,h5⟩,h6,h7,h8,h9,hy,hz⟩
    ·rw[g2]at hb;rw[g3];obtain⟨k1,k2,k3,S,k4,k5,k6,k7,k8⟩:=hb;have hE:MS vs' cx.ob=MS vs cx.ob:=wa fun e he=>hv _<|hu e he;refine(hes env w S vs' k5 (ur.2 fun mf hmf=> ?_) fun t ht=> ?_).mono ?_
     ·rcases Nm.1 hmf with hmf|hmf
      ·obtain⟨e,he,rfl⟩:=xap.1 hmf;exact ur.1 k7 _<|Nm.2 (.inl<|xap.2 ⟨e,g4 e he,rfl⟩)
      ·rw[xbQ]at hmf;have hmf:mf∈MS vs' cx.ob:=hmf;rw[hE]at hmf;exact ur.1 k7 _<|Nm.2 (.inr<|Nm.2 (.inl<|Nm.2 (.inl hmf)))
     ·have hh:X0 (KV P vs' KL) env0 env S w (xbC all.toArray o):=k8.1;exact hI vs' env S w t<|hc hv (zD.left k8.2) (hA▸hh) t<|hA▸Nm.2 (.inl ht)
     ·rintro v w' ⟨hx,hf⟩;refine⟨vs',fun _ _=>rfl,k1.trans hx,k2,k3,S,k4,fun k hk=>k5 k<|xan hx.size hk,k6,yB.keep hx.to (fun m hm i hi=>hx.block i (yB.lt k7 m hm i hi) trivial) k7,zD.append (jH.2 fun f hf'=> ?_)<|zD.keep hx.to k8.2⟩;obtain⟨e,he,rfl⟩:=xap.1 hf';exact hf e he
    ·exfalso;obtain⟨S,_,hΓ⟩:=hb.ex;have hh:X0 (KV P vs' KL) env0 env S w (xbC all.toArray o):=hΓ.1;have:=hJ hv (zD.left hΓ.2)<|hA▸hh;rw[hw]at this;cases this
   ·simp only[NI]at h;obtain⟨τ,h,hle,hm⟩:=zgm (P:=P) (cx:=⟨0,[],cx.ob⟩) (d:=o.dst) (ty:=o.type) (pos:=o.pos) (aft:=o.after) (g:=o.guard) hT hL hC hX (by cases o.dst<;>rfl) h;obtain⟨τ2,hτ⟩:∃τ2,τ2=zi3 bz o.dst τ:=⟨_,rfl⟩;simp only at h;rw[<-hτ]at h;have hU:τ2.nx=τ.nx:=by rw[hτ];cases bz<;>first|rfl|exact FO _ _
    have hK:∀{frm:Fr}{vs2:Nat->Value}{env w},aW P frm ⟨0,[],cx.ob⟩ τ vs2 env w->aW P frm ⟨0,[],cx.ob⟩ τ2 vs2 env w:=fun{frm vs2 env w} hq=>by rw[hτ];cases bz<;>first|exact hq|exact c8 _ hq
    unfold zgh at h;obtain⟨hl,h⟩:=yn h;rw[xam]at hl;obtain⟨hl,hF⟩:=hl;have hF:∀e∈τ2.ob,e.1<τ2.nx:=fun e he=>by
     have:=xaS.1 hF e he;have:=xbM this;lia
    have ha:σ2.nx<=τ2.nx:=by rw[hU];exact hle
    have hi3:MR P vs n0 Γ env0 cx ⟨τ2.nx,vj σ2.rg o.dst<|nN o.dst τ2.rg,[]⟩ (DM o.dst (nN o.dst τ2.rg) KL):=fun vs' hv=>re (l:=nN o.dst τ2.rg) hd hS vs' hv;have hB3:Bd cx ⟨τ2.nx,vj σ2.rg o.dst<|nN o.dst τ2.rg,[]⟩:=by
     refine⟨fun e he=>absurd he IR,fun e he=>xal (hg.o2 e he) ha,fun e he p hp=> ?_,fun e he p hp=>xal (hg.r2 e he p hp) ha⟩;have he:e∈vj σ2.rg o.dst (nN o.dst τ2.rg):=he;unfold vj at he;split at he
     ·rcases Nm.1 he with he|he
      ·obtain⟨e',he',rfl⟩:=xap.1 he;exact Cm hl e' he' p hp
      ·exact xal (hg.r1 e (xck.1 he).1 p hp) ha
     ·exact xal (hg.r1 e he p hp) ha
    obtain⟨Ls,is',σ',rs',h1,h2,h3,h4,h5,h6,h7,h8,h9,hy,hz⟩:=Ec hT hL hC hX hu (os:=os) h hi3 (iM hd hn) rfl hB3 (fun q hq=>by
     rcases Nm.1 hq with hq|hq
     ·exact xal (zi6 (n:=σ2.nx) (fun r hs=>by rw[hj];exact hr r hs) q hq) ha
     ·obtain⟨e,he,rfl⟩:=xap.1 hq;exact hF e he) (zfw (zeM hO)) (xan (by rw[hj];exact h0) ha)
    obtain⟨g1,g2,g3,g4⟩:=TQ hO h4;refine⟨nN o.dst τ2.rg::Ls,⟨σ2.nx,τ2.nx,dQ<|nN o.dst τ2.rg⟩::is',σ',rs',by simp[h1],by simp[h2],by rw[<-h3];simp,g1,⟨⟨(by show n0<=σ2.nx;rw[hj];exact h0),ha,fun e he p hp=>⟨Cm hl e he p hp,iw he hp⟩,fun e he=>hF e (by rw[g3]at he;exact he),fun vs' hv env F G w hb=>⟨fun _=> ?_,fun hw=> ?_⟩⟩,h5⟩,h6,h7,h8,h9,hy,hz⟩
    ·rw[g2,g4,xbQ]at hb;rw[g3,g4];have hE:∀{vs2:Nat->Value},(∀p,p<n0->vs2 p=vs p)->MS vs2 cx.ob=MS vs cx.ob:=fun hv=>wa fun e he=>hv _<|hu e he;have hV:aW P ⟨fr.we,fr.Se,fr.F++F,Γ++G⟩ ⟨0,[],cx.ob⟩ ⟨σ2.nx,dd<|JT ts<|σ2.rg++cx.rg,aY osn rs⟩ vs' env w:=by
      refine⟨⟨fun e he=>zbB (fun r hs=>by rw[hj];exact hr r hs) e he,hg.o2,fun e he p hp=> ?_,fun e he=>absurd he IR⟩,?_⟩
      ·have:=(JW<|Uz he).1;rcases Nm.1 this with h|h
       ·exact hg.r1 e h p hp
       ·exact hg.r2 e h p hp
      ·show St fr.we fr.Se (MS vs' (aY osn rs)++(MS vs' cx.ob++(fr.F++F))) (RS P vs' env (dd<|JT ts<|σ2.rg++cx.rg)++([]++(Γ++G))) w;rw[hE hv,<-xaj<|MS vs cx.ob];refine hb.weak fun S w hΓ=>zD.append (jH.2 fun f hf=> ?_) hΓ.2;obtain⟨e,he,rfl⟩:=xap.1 hf;have hh:X0 (KV P vs' KL) env0 env S w (xbC all.toArray o):=hΓ.1;have hW:=(JW<|Uz he).2;have hY:=C3 he;rw[cn hW,Pw]at hY;exact hI vs' env S w e.1 (hc hv (zD.left hΓ.2) (hA▸hh) e.1<|zdV hW) e.2.1 e.2.2 hY
     refine(hm _ vs' env w hV).mono ?_;rintro v w' ⟨vs2,hZ,hrv⟩;obtain⟨_,hG⟩:=hK hrv;refine⟨vs2,hZ,?_⟩;have hG:St fr.we fr.Se (MS vs2 τ2.ob++(MS vs2 cx.ob++(fr.F++F))) (RS P vs2 (put env o.dst v) τ2.rg++([]++(Γ++G))) w':=hG;rw[hE (vs2:=vs2)<|fun p hp=>(hZ p<|xal hp (by show n0<=σ2.nx;rw[hj];exact h0)).trans<|hv p hp,<-xaj<|MS vs cx.ob]at hG;refine St.weak (show St fr.we fr.Se (MS vs2 τ2.ob++(MS vs' []++(MS vs cx.ob++fr.F++F))) _ w' from hG) fun S w hΓ=>zD.append (jH.2 fun f hf=> ?_)<|zD.right hΓ;obtain⟨e,he,rfl⟩:=xap.1 hf;obtain⟨t,ht,hm'⟩:=zaW he;have:=Ju (zD.left hΓ) hm';rw[ht,pJ]at this;exact this
    ·exfalso;obtain⟨S,_,hΓ⟩:=hb.ex;have hh:X0 (KV P vs' KL) env0 env S w (xbC all.toArray o):=hΓ.1;have:=hJ hv (zD.left hΓ.2)<|hA▸hh;rw[hw]at this;cases this
theorem zir(hm:P.follows .mixedOrders=true)(hT:y4 P cf.tt)(hL:jT P cf.tt)(hC:∀s∈cf.cs,y9 P s)(hX:Ak P cf){N:Nd}{id m:Nat}{l:List Oper}{Q:Qs}{k:Sg->Option R}
 (hK:∀σ',k σ'=some r->∀env' w,eW cx env env'->Zc P fr cx σ' env' w->Q .normal env' w) (hN:(l.all fun o=>qx N.n o.dst)=true) (hc:YL l m=true) (h:zia cf cx id l m σ k=some r) (hR:Zc P fr cx σ env w):Wp P N (.region id l.toArray true) Q env w:=by
 unfold zia at h;simp only at h;obtain⟨hA,vs,hs⟩:=hR;obtain⟨ha,hu⟩:=c8 (UY (zhQ cf id) σ.rg) ⟨hA,hs⟩;generalize ru σ (UY (zhQ cf id) σ.rg)=σ0 at h ha hu;have hM:m<=l.length:=(jY hc).1
 obtain⟨Ls,is,σ',rs,h1,h2,h3,h4,h5,hw,hy,hO,hp,hB,hP⟩:=Ec (P:=P) (fr:=fr) (vs:=vs) (env0:=env) (Γ:=GS P vs env fr cx σ0) (n0:=σ0.nx) (KL:=[]) hT hL hC hX ha.o2 h
  (fun vs' hv env' S w' hΓ t ht i dv hd=>by
   have ht:env' t=env t:=ht;rw[ht];have hg:get cx σ0 t i=some dv:=hd;have:=Yd hΓ t i dv hg;have hD:xN P vs' dv (env t) i=xN P vs dv (env t) i:=by
    unfold xN;simp only[dK (P:=P) (vs':=vs') (vs:=vs) (d:=dv) fun o ho=>hv o (by
     rcases Fv hg with hm|hm
     ·exact ha.r1 _ hm o ho
     ·exact ha.r2 _ hm o ho)]
   rw[hD];exact this) (fun _ he=>absurd he IR) rfl ⟨fun _ he=>absurd he IR,ha.o2,ha.r1,ha.r2⟩ (fun q hq=>by
    obtain⟨e,he,rfl⟩:=xap.1 hq;exact ha.o1 e he) (fun q hq=>by
    obtain⟨e,he,rfl⟩:=xap.1 hq;exact⟨fun j hj=>(by cases hj),fun j hj=>(by cases hj),fun j hj=>absurd hj IR⟩) (xab _)
 simp only[xbA]at h3;obtain⟨hx,h3⟩:=yn h3;have hE:=zb6 h4;refine zh8 (we:=fr.we) (Se:=fr.Se) (ms:=OS vs fr cx σ0.ob) (mE:=MS vs cx.ob++fr.F) m Ls is rs (σ'.rg.map (·.1)++cx.rg.map (·.1)) vs σ0.nx hm hc (by rw[h1,xav];lia) (by rw[h2,xav];lia) hx (by rw[hE]) hN h5 ?_ w hu;intro env1 w1 vs' hr hl;have hn:Lq rs=gD (fun r=>r.c.isNone) rs:=PF rs;have hz:∀e∈Lq rs,e.1<σ'.nx:=fun e he=>by
  rw[hn]at he;obtain⟨q,hq,he⟩:=xfe.1 he;split at he
  ·cases he;exact hB q hq
  ·cases he
 obtain⟨S1,_,hF⟩:=hl.ex;have hG:eW cx env env1:=fun e0 hi=>by
  have h1:=Yn hF.1 e0.1<|Nm.2 (.inr<|xap.2 ⟨e0,hi,rfl⟩);unfold Zj at h1;have hf:(KV P vs'<|mV ((l.take m).zip Ls) []).find? (fun x=>xao x.1 e0.1)=none:=by
   rw[List.find?_eq_none];intro e he hb;obtain⟨e1,hH,rfl⟩:=xap.1 he;have:=hy e1 hH;simp only[Yf,xaS]at this;have:=this e0 hi;rw[yc hb]at this;simp at this
  rw[hf]at h1;exact h1
 refine ry (P:=P) (fr:=fr) hT hL hC hX hK hG (N0 hN m) h3 ⟨⟨hz,hp.o2,fun e he=>hp.r1 e<|Uz he,hp.r2⟩,vs',?_⟩;show St fr.we fr.Se (MS vs' (Lq rs)++(MS vs' cx.ob++fr.F)) (RS P vs' env1 (dd σ'.rg)++(RS P vs' env1 cx.rg++fr.G)) w1;rw[hn,wa (ob:=cx.ob) fun e he=>hr _<|ha.o2 e he];refine hl.weak fun S w2 hΓ=> ?_;have hk:=Yn hΓ.1;have hI:∀t∈cx.rg.map (·.1),env1 t=env t:=fun t ht=>by
  have h1:=hk t<|Nm.2 (.inr ht);unfold Zj at h1;have hf:(KV P vs'<|mV ((l.take m).zip Ls) []).find? (fun x=>xao x.1 t)=none:=by
   rw[List.find?_eq_none];intro e he hb;obtain⟨e0,hi,rfl⟩:=xap.1 he;have:=hy e0 hi;obtain⟨e',hJ,rfl⟩:=xap.1 ht;simp only[Yf,xaS]at this;have:=this e' hJ;rw[yc hb]at this;simp at this
  rw[hf]at h1;exact h1
 refine zD.append ?_<|zD.append ?_<|zD.right<|zD.right hΓ.2
 ·refine jH.2 fun f hf=> ?_;obtain⟨e,he,rfl⟩:=xap.1 hf;have hg:get cx σ' e.1 e.2.1=some e.2.2:=by unfold get;rw[C3 he]
  exact hw vs' hr env1 S w2 hΓ.2 e.1 (hk e.1<|Nm.2 (.inl<|xap.2 ⟨e,Uz he,rfl⟩)) _ _ hg
 ·rw[qU (vs:=vs) (env:=env) (fun e he o ho=>hr o<|ha.r2 e he o ho) fun e he=>hI e.1<|xap.2 ⟨e,he,rfl⟩];exact zD.left<|zD.right hΓ.2
theorem zab(hm:P.follows .mixedOrders=true)(hT:y4 P cf.tt)(hL:jT P cf.tt)(hC:∀s∈cf.cs,y9 P s)(hX:Ak P cf){N:Nd}{id:Nat}{l:List Oper}{draw:Bool}{Q:Qs}{k:Sg->Option R}
 (hK:∀σ',k σ'=some r->∀env' w,eW cx env env'->Zc P fr cx σ' env' w->Q .normal env' w) (hN:(l.all fun o=>qx N.n o.dst)=true) (h:zhz cf cx id l draw σ k=some r) (hR:Zc P fr cx σ env w):Wp P N (.region id l.toArray draw) Q env w:=by
 unfold zhz at h;cases draw
 ·exact fun a h1 h2 h3=>wpIn_region_lit<|ry hT hL hC hX hK eW.refl hN h hR a h1 h2 h3
 ·simp only[NI]at h;obtain⟨hc,h⟩:=yn h;generalize MU l l.length l.length=m at hc h;cases hw:zkA cf id<;>rw[hw]at h
  case true=>exact zir hm hT hL hC hX hK hN hc h hR
  simp only at h;have hi:=Hj (cf:=cf) (l.take m) [] hR;generalize zeZ cf cx (l.take m) [] σ=σ0 at h hi;obtain⟨hB,vs,hr⟩:=hi;have hy:m<=l.length:=(jY hc).1
  obtain⟨Φs,σ',hl,hj,h,hn,hs,hu,ha⟩:=LV (P:=P) (fr:=fr) (vs:=vs) (env0:=env) (σ0:=σ0) (Γ:=GS P vs env fr cx σ0) (K:=[]) hT hL hC hX h
   (fun env' S w' hΓ t ht i dv hd=>by
    have ht:env' t=env t:=ht;rw[ht];exact Yd hΓ t i dv hd) (fun _ he=>absurd he IR) rfl hB
  refine MG (we:=fr.we) (Se:=fr.Se) (ms:=OS vs fr cx σ0.ob) (Γ:=GS P vs env fr cx σ0) m Φs (σ'.rg.map (·.1)++cx.rg.map (·.1)) hm hc (by rw[hl,xav];lia) hN hj ?_ w hr;intro S w1 env1 hS hΓ hh;have hk:=Yn hh;have ho:∀t∈cx.rg.map (·.1),env1 t=env t:=fun t ht=>by
   have h1:=hk t<|Nm.2 (.inr ht);unfold Zj at h1;have hf:(Gf ((l.take m).zip Φs) []).find? (fun x=>xao x.1 t)=none:=by
    rw[List.find?_eq_none];intro e he hb;have:=hs e he;obtain⟨e',hv,rfl⟩:=xap.1 ht;simp only[Yf,xaS]at this;have:=this e' hv;rw[yc hb]at this;simp at this
   rw[hf]at h1;exact h1
  have hd:zD S (RS P vs env1<|dd σ'.rg) w1:=jH.2 fun f hf=>by
   obtain⟨e,he,rfl⟩:=xap.1 hf;have hg:get cx σ' e.1 e.2.1=some e.2.2:=by unfold get;rw[C3 he]
   exact hn env1 S w1 hΓ e.1 (hk e.1<|Nm.2 (.inl<|xap.2 ⟨e,Uz he,rfl⟩)) _ _ hg
  have hx:zD S (RS P vs env1 cx.rg) w1:=by
   rw[qU (env:=env) (fun _ _ _ _=>rfl) fun e he=>ho e.1<|xap.2 ⟨e,he,rfl⟩];exact zD.left<|zD.right hΓ
  refine⟨GS P vs env1 fr cx ⟨σ'.nx,dd σ'.rg,σ'.ob⟩,(σ'.rg.map (·.1)++cx.rg.map (·.1)).map fun t=>(t,env1 t),zD.append hd<|zD.append hx<|zD.right<|zD.right hΓ,Aa _,fun rest w2 hp=> ?_⟩;refine ry (P:=P) (fr:=fr) hT hL hC hX hK (fun e0 hq=>(Fb<|Nm.2 (.inr<|xap.2 ⟨e0,hq,rfl⟩)).trans<|ho e0.1<|xap.2 ⟨e0,hq,rfl⟩) (N0 hN m) h ⟨⟨ha.o1,ha.o2,fun e he=>ha.r1 e<|Uz he,ha.r2⟩,vs,?_⟩;have e1:RS P vs (L ((σ'.rg.map (·.1)++cx.rg.map (·.1)).map fun t=>(t,env1 t)) rest) (dd σ'.rg)=RS P vs env1 (dd σ'.rg):=qU (fun _ _ _ _=>rfl) fun e he=>Fb<|Nm.2 (.inl<|xap.2 ⟨e,Uz he,rfl⟩);have e2:RS P vs (L ((σ'.rg.map (·.1)++cx.rg.map (·.1)).map fun t=>(t,env1 t)) rest) cx.rg=RS P vs env1 cx.rg:=qU (fun _ _ _ _=>rfl) fun e he=>Fb<|Nm.2 (.inr<|xap.2 ⟨e,he,rfl⟩);show St _ _ (OS vs fr cx σ'.ob) (RS P vs _ (dd σ'.rg)++(RS P vs _ cx.rg++fr.G)) w2;rw[e1,e2,hu];exact hp
end
end
section
section
variable{P:Program}{cf:Cf}{fr:Fr}{cx kp σ:Sg}{vs vs':Nat->Value}{env env0:yR}{w:World}{R:Type}{r:R}
def zdL(u:Value)(r:Nat):Option Value:=(vg u)[r]?
def tfF:(f:TF)->f.D->(Nat->Value)->Value->Value->FF
 |.d t,x,_,_,v=>fV t.rep x v
 |.q t,x,_,_,v=>fP t.rep x v
 |.own _ _,_,_,u,v=>sa<|v=u
 |.var _ _,_,_,u,v=>sa (v=u/\∃b,v=.pointer (some ⟨b,0,none⟩))
 |.mat _ _ _,_,_,u,v=>sa<|v=y5 u
 |.matv _ _ _,x,_,u,v=>sa<|FI (y5 u) x.2.1 x.2.2 v
 |.row j,r,U,_,v=>sa<|zdL (U j) r=some v
 |.view j,r,U,_,v=>sa<|FI (y5<|U j) r.1 r.2 v
 |.bo _ _ _,_,_,u,v=>sa<|v=y5 u
def ME:(f:TF)->f.D->Value->List MF
 |.own t E,xs,u=>[mO t.rep E u xs]
 |.var t E,z,u=>[mP t.rep.c E u z]
 |.mat t E E1,x,u=>[mm t.rep E E1 u x.1 x.2]
 |.matv t E E1,x,u=>[mm t.rep E E1 u x.1.1 x.1.2]
 |.bo t E E0,xs,u=>[mBo t.rep E E0 u xs]
 |_,_,_=>[]
def dsF(U:Nat->Value)(env:yR):(l:List (Nat×TF))->Wh l->Nat->List FF
 |[],_,_=>[]
 |[a],x,i=>[tfF a.2 x U (U i)<|env a.1]
 |a::b::r,x,i=>tfF a.2 x.1 U (U i) (env a.1)::dsF U env (b::r) x.2 (i+1)
def XD(U:Nat->Value):(l:List (Nat×TF))->Wh l->Nat->List MF
 |[],_,_=>[]
 |[a],x,i=>ME a.2 x<|U i
 |a::b::r,x,i=>ME a.2 x.1 (U i)++XD U (b::r) x.2 (i+1)
def Xo(f:TF)(dv:Option Dv)(vs:Nat->Value)(v:Value):Value:=match f,dv with
 |.mat _ _ _,some .nil=>UC v []
 |.mat _ _ _,some (.mw o)=>vs o
 |.matv _ _ _,some (.mv o _ _)=>vs o
 |.bo _ _ _,some (.mw o)=>vs o
 |_,_=>v
def Ja(cx σ:Sg)(ds:List (Nat×TF))(vs:Nat->Value)(env:yR)(j:Nat):Value:=match ds[j]? with
 |some (t,f)=>Xo f (get cx σ t 0) vs<|env t
 |none=>undef
theorem St.mid{we:World}{Se:Nat->Prop}{A B:List MF}{m:MF}{Γ:List FF}{w:World}(h:St we Se (A++m::B) Γ w):St we Se (m::(A++B)) Γ w:=St.perm h xcu
theorem DQ:∀{os l:List Nat},rZ os l=true->∀o∈l,dn os o=false
 |os,o::r,h,p,hp=>by
  simp only[rZ,xam,xdn]at h;rcases xad.1 hp with rfl|hp
  ·exact h.1
  ·exact DQ h.2 p hp
theorem NC{ds:List (Nat×TF)}{t:Nat}{f:TF}{k:f.D->List Nat->Option R}(h:cP cx σ ds t f k=some r):∃x os,k x os=some r/\(∀j,Ae f=some j->j<ds.length)/\
 (∀(P:Program) vs env S w,(∀t,Lk P vs env S w cx σ t)->(tfF f x (Ja cx σ ds vs env) (Xo f (get cx σ t 0) vs<|env t)<|env t).p S w)/\
 (∀(P:Program) vs (fr:Fr) env (A:List MF) (Γ:List FF) w (os':List Nat),(∀S w,zD S Γ w->Lk P vs env S w cx σ t)->(∀o∈os,dn os' o=false)->St fr.we fr.Se (A++OS vs fr cx (w6 σ.ob os')) Γ w->
  St fr.we fr.Se (ME f x (Xo f (get cx σ t 0) vs<|env t)++(A++OS vs fr cx (w6 σ.ob<|os++os'))) Γ w):=by
 have nr:∀{f:TF},(∀j,Ae f≠some j)->∀j,Ae f=some j->j<ds.length:=fun h j e=>absurd e<|h j
 cases f with
 |d s=>
  obtain⟨y,h,hy⟩:=zaY h;refine⟨y,[],h,nr (fun j e=>by cases e),fun P vs env S w hl=> ?_,fun P vs fr env A Γ w os' _ _ h=>h⟩
  cases hg:get cx σ t 0 with
  |none=>rename_i h0;simp only[cP]at h0;rw[hg]at h0;cases h0
  |some v=>exact hy P vs S w v _ hg<|hl t 0 v hg
 |q s=>
  simp only[cP]at h;split at h
  ·next s' x hg=>
   obtain⟨e,h⟩:=yo h;subst e;exact⟨_,[],h,nr (fun j e=>by cases e),fun P vs env S w hl=>hl t 0 _ hg,fun P vs fr env A Γ w os' _ _ h=>h⟩
  ·cases h
 |own s E=>
  simp only[cP]at h;split at h
  ·next o hg=>
   split at h
   ·next s' E' xs ho=>
    obtain⟨hE,h1⟩:=yn h;have hE:=yc hE;subst hE;obtain⟨e,h2⟩:=yo h1;cases e;refine⟨_,[o],h2,nr (fun j e=>by cases e),fun _ _ _ _ _ _=>by simp only[hg,Xo];exact rfl,fun P vs fr env A Γ w os' hl hn ha=> ?_⟩;have hp:=kN (vs:=vs) (fr:=fr) (cx:=cx)<|(kz<|hn o<|FS).trans ho;have h3:=St.mid<|St.perm ha<|xcg _ hp;obtain⟨S,_,hΓ⟩:=ha.ex;have hv:env t=vs o:=hl S w hΓ 0 _ hg;simp only[hg,Xo];show St _ _ (mO s.rep E (env t) _::(A++_)) _ _;rw[hv];exact h3
   ·cases h
  ·next hg=>
   refine⟨_,[],h,nr (fun j e=>by cases e),fun _ _ _ _ _ _=>by simp only[hg,Xo];exact rfl,fun P vs fr env A Γ w os' hl hn ha=> ?_⟩;obtain⟨S,_,hΓ⟩:=ha.ex;have hv:env t=.slice none 0 0:=hl S w hΓ 0 _ hg;simp only[hg,Xo];show St _ _ (mO s.rep E (env t) _::(A++_)) _ _;rw[hv];exact ha.nilO
  ·cases h
 |var s E=>
  simp only[cP]at h;split at h
  ·next o s0 hg=>
   split at h
   ·next s' E' z ho=>
    obtain⟨hE,h1⟩:=yn h;have hE:=yc hE;subst hE;obtain⟨e,h2⟩:=yo h1;subst e;refine⟨_,[o],h2,nr (fun j e=>by cases e),fun P vs env S w hl=> ?_,fun P vs fr env A Γ w os' hl hn ha=> ?_⟩
    ·obtain⟨h3,b,h4⟩:=hl t 0 _ hg;simp only[hg,Xo];exact⟨rfl,b,h3.trans h4⟩
    ·have hp:=kN (vs:=vs) (fr:=fr) (cx:=cx)<|(kz<|hn o<|FS).trans ho;have h3:=St.mid<|St.perm ha<|xcg _ hp;obtain⟨S,_,hΓ⟩:=ha.ex;have hv:env t=vs o:=(hl S w hΓ 0 _ hg).1;simp only[hg,Xo];show St _ _ (mP s'.rep.c E (env t) _::(A++_)) _ _;rw[hv];exact h3
   ·cases h
  ·cases h
 |mat s E E1=>
  simp only[cP]at h;split at h
  ·next o hg=>
   split at h
   ·next s' E' F' xss ix ho=>
    obtain⟨hE,h1⟩:=yn h;rw[xam]at hE;have hc:=yc hE.1;have hd:=yc hE.2;subst hc;subst hd;obtain⟨e,h2⟩:=yo h1;cases e;refine⟨_,[o],h2,nr (fun j e=>by cases e),fun P vs env S w hl=> ?_,fun P vs fr env A Γ w os' hl hn ha=> ?_⟩
    ·simp only[hg,Xo];exact hl t 0 _ hg
    ·have hp:=kN (vs:=vs) (fr:=fr) (cx:=cx)<|(kz<|hn o<|FS).trans ho;simp only[hg,Xo];have h3:=St.mid<|St.perm ha<|xcg _ hp;exact h3
   ·cases h
  ·next hg=>
   refine⟨_,[],h,nr (fun j e=>by cases e),fun P vs env S w hl=>by simp only[hg,Xo];exact rfl,fun P vs fr env A Γ w os' hl hn ha=> ?_⟩;obtain⟨S,_,hΓ⟩:=ha.ex;have hv:env t=.slice none 0 0:=hl S w hΓ 0 _ hg;simp only[hg,Xo];refine Lr (u:=UC (env t) []) rfl ?_;show St _ _ (mO (Zm []) E (env t) []::(A++_)) _ _;rw[hv];exact ha.nilO
  ·cases h
 |matv s E E1=>
  simp only[cP]at h;split at h
  ·next o lo n hg=>
   split at h
   ·next s' E' F' xss ix ho=>
    obtain⟨hE,h1⟩:=yn h;rw[xam]at hE;have hc:=yc hE.1;have hd:=yc hE.2;subst hc;subst hd;obtain⟨e,h2⟩:=yo h1;cases e;refine⟨_,[o],h2,nr (fun j e=>by cases e),fun P vs env S w hl=> ?_,fun P vs fr env A Γ w os' hl hn ha=> ?_⟩
    ·simp only[hg,Xo];exact hl t 0 _ hg
    ·have hp:=kN (vs:=vs) (fr:=fr) (cx:=cx)<|(kz<|hn o<|FS).trans ho;simp only[hg,Xo];have h3:=St.mid<|St.perm ha<|xcg _ hp;exact h3
   ·cases h
  ·cases h
 |row j=>
  simp only[cP]at h
  have fin:∀(o o' p:Nat),j<ds.length->get cx σ t 0=some (.rw o p)->xao o o'=true->k p []=some r->(∀vs env,Ja cx σ ds vs env j=vs o')->∃(x:Nat) (os:List Nat),k x os=some r/\(∀i,Ae (TF.row j)=some i->i<ds.length)/\
   (∀(P:Program) vs env S w,(∀t,Lk P vs env S w cx σ t)->(tfF (.row j) x (Ja cx σ ds vs env) (Xo (.row j) (get cx σ t 0) vs<|env t)<|env t).p S w)/\
   (∀(P:Program) vs (fr:Fr) env (A:List MF) (Γ:List FF) w (os':List Nat),(∀S w,zD S Γ w->Lk P vs env S w cx σ t)->(∀o∈os,dn os' o=false)->St fr.we fr.Se (A++OS vs fr cx (w6 σ.ob os')) Γ w->
    St fr.we fr.Se (ME (.row j) x (Xo (.row j) (get cx σ t 0) vs<|env t)++(A++OS vs fr cx (w6 σ.ob<|os++os'))) Γ w):=by
   intro o o' p he hg h2 h3 h4;refine⟨p,[],h3,fun i e=>by cases e;exact he,fun P vs env S w hl=> ?_,fun P vs fr env A Γ w os' _ _ h=>h⟩;have h5:(vg<|vs o)[p]? =some (env t):=hl t 0 _ hg;rw[yc h2]at h5;show zdL (Ja cx σ ds vs env j) p=some (env t);rw[h4];exact h5
  split at h
  ·next o p s _ _ _ hg hj=>
   split at h
   ·next o' hs=>
    obtain⟨hb,h⟩:=yn h;exact fin o o' p (xau.1 hj).1 hg hb h fun vs env=>by unfold Ja;rw[hj];simp only[hs,Xo]
   ·cases h
  ·next o p s _ _ _ hg hj=>
   split at h
   ·next o' lo n hs=>
    obtain⟨hb,h⟩:=yn h;exact fin o o' p (xau.1 hj).1 hg hb h fun vs env=>by unfold Ja;rw[hj];simp only[hs,Xo]
   ·cases h
  ·cases h
 |view j=>
  simp only[cP]at h
  have fin:∀(o o' p q:Nat),j<ds.length->get cx σ t 0=some (.mv o p q)->xao o o'=true->k (p,q) []=some r->(∀vs env,Ja cx σ ds vs env j=vs o')->∃(x:Nat×Nat) (os:List Nat),k x os=some r/\(∀i,Ae (TF.view j)=some i->i<ds.length)/\
   (∀(P:Program) vs env S w,(∀t,Lk P vs env S w cx σ t)->(tfF (.view j) x (Ja cx σ ds vs env) (Xo (.view j) (get cx σ t 0) vs<|env t)<|env t).p S w)/\
   (∀(P:Program) vs (fr:Fr) env (A:List MF) (Γ:List FF) w (os':List Nat),(∀S w,zD S Γ w->Lk P vs env S w cx σ t)->(∀o∈os,dn os' o=false)->St fr.we fr.Se (A++OS vs fr cx (w6 σ.ob os')) Γ w->
    St fr.we fr.Se (ME (.view j) x (Xo (.view j) (get cx σ t 0) vs<|env t)++(A++OS vs fr cx (w6 σ.ob<|os++os'))) Γ w):=by
   intro o o' p q he hg h2 h3 h4;refine⟨(p,q),[],h3,fun i e=>by cases e;exact he,fun P vs env S w hl=> ?_,fun P vs fr env A Γ w os' _ _ h=>h⟩;have h5:FI (y5<|vs o) p q (env t):=hl t 0 _ hg;rw[yc h2]at h5;show FI (y5<|Ja cx σ ds vs env j) p q (env t);rw[h4];exact h5
  split at h
  ·next o p q s _ _ _ hg hj=>
   split at h
   ·next o' hs=>
    obtain⟨hb,h⟩:=yn h;exact fin o o' p q (xau.1 hj).1 hg hb h fun vs env=>by unfold Ja;rw[hj];simp only[hs,Xo]
   ·cases h
  ·next o p q s _ _ _ hg hj=>
   split at h
   ·next o' lo n hs=>
    obtain⟨hb,h⟩:=yn h;exact fin o o' p q (xau.1 hj).1 hg hb h fun vs env=>by unfold Ja;rw[hj];simp only[hs,Xo]
   ·cases h
  ·cases h
 |bo s E E0=>
  simp only[cP]at h;split at h
  ·next o hg=>
   split at h
   ·next s' E' F' xs ho=>
    obtain⟨hE,h1⟩:=yn h;rw[xam]at hE;have hc:=yc hE.1;have hd:=yc hE.2;subst hc;subst hd;obtain⟨e,h2⟩:=yo h1;cases e;refine⟨_,[o],h2,nr (fun j e=>by cases e),fun P vs env S w hl=> ?_,fun P vs fr env A Γ w os' hl hn ha=> ?_⟩
    ·simp only[hg,Xo];exact hl t 0 _ hg
    ·have hp:=kN (vs:=vs) (fr:=fr) (cx:=cx)<|(kz<|hn o<|FS).trans ho;simp only[hg,Xo];have h3:=St.mid<|St.perm ha<|xcg _ hp;exact h3
   ·cases h
  ·cases h
theorem ou{ds:List (Nat×TF)}{i:Nat}{t:Nat}{f:TF}{env:yR}(h:ds[i]? =some (t,f)):Ja cx σ ds vs env i=Xo f (get cx σ t 0) vs (env t):=by unfold Ja;rw[h]
theorem zgk{ds:List (Nat×TF)}:∀{l:List (Nat×TF)}{i:Nat}{k:Wh l->List Nat->Option R},(∀j a,l[j]? =some a->ds[i+j]? =some a)->gat cx σ ds l k=some r->∃x os,k x os=some r/\(∀a∈l,∀j,Ae a.2=some j->j<ds.length)/\
 (∀(P:Program) vs env S w,(∀t,Lk P vs env S w cx σ t)->zD S (dsF (Ja cx σ ds vs env) env l x i) w)/\
 (∀(P:Program) vs (fr:Fr) env (Γ:List FF) w,(∀S w,zD S Γ w->∀t,Lk P vs env S w cx σ t)->St fr.we fr.Se (OS vs fr cx σ.ob) Γ w->St fr.we fr.Se (XD (Ja cx σ ds vs env) l x i++OS vs fr cx (w6 σ.ob os)) Γ w)
 |[],i,k,_,h=>⟨(),[],h,fun _ h=>absurd h IR,fun _ _ _ _ _ _=>trivial,fun _ _ _ _ _ _ _ h=>h⟩
 |[a],i,k,hd,h=>by
  obtain⟨x,os,h1,h0,h2,h3⟩:=NC (h:cP cx σ ds a.1 a.2 k=some r);have ha:ds[i]? =some (a.1,a.2):=hd 0 a rfl;refine⟨x,os,h1,fun b hb j e=> ?_,fun P vs env S w hl=>⟨?_,trivial⟩,fun P vs fr env Γ w hl he=> ?_⟩
  ·obtain rfl:=xai.1 hb;exact h0 j e
  ·rw[ou ha];exact h2 P vs env S w hl
  ·have:=h3 P vs fr env [] Γ w [] (fun S w hΓ=>hl S w hΓ a.1) (fun _ _=>rfl) he;rw[xbQ]at this;show St _ _ (ME a.2 x (Ja cx σ ds vs env i)++_) _ _;rw[ou ha];exact this
 |a::b::l,i,k,hd,h=>by
  obtain⟨x,o,h1,h0,h2,h3⟩:=NC (h:cP cx σ ds a.1 a.2 _=some r);obtain⟨y,os,h4,hf,h5,h6⟩:=zgk (l:=b::l) (i:=i+1) (fun j c hj=>by
   have:=hd (j+1) c (by simpa using hj);rw[show i+1+j=i+(j+1)by lia];exact this) h1
  obtain⟨hn,h4⟩:=yn h4;have ha:ds[i]? =some (a.1,a.2):=hd 0 a rfl;refine⟨(x,y),o++os,h4,fun c hc j e=> ?_,fun P vs env S w hl=>⟨?_,h5 P vs env S w hl⟩,fun P vs fr env Γ w hl he=> ?_⟩
  ·rcases xad.1 hc with rfl|hc
   ·exact h0 j e
   ·exact hf c hc j e
  ·rw[ou ha];exact h2 P vs env S w hl
  ·have:=h3 P vs fr env (XD (Ja cx σ ds vs env) (b::l) y<|i+1) Γ w os (fun S w hΓ=>hl S w hΓ a.1) (DQ hn)<|h6 P vs fr env Γ w hl he;show St _ _ ((ME a.2 x (Ja cx σ ds vs env i)++XD (Ja cx σ ds vs env) (b::l) y (i+1))++_) _ _;rw[ou ha,xaj];exact this
def nvs(vs:Nat->Value)(U:Nat->Value)(n:Nat):Nat->Value:=fun k=>if k<n then vs k else U (k-n)
theorem Nt{n0:Nat}:∀{l:List (Nat×TF)}{x:Wh l}{o:Nat},∀e∈(bS n0 l x o).2,o<=e.1/\e.1<o+l.length
 |[],_,_,e,he=>absurd he IR
 |[(t,f)],x,o,e,he=>by
  cases f<;>simp only[bS,mN]at he<;>first|exact absurd he IR|(obtain rfl:=xai.1 he;exact⟨xab _,xca _⟩)
 |(t,f)::b::l,x,o,e,he=>by
  have ih:∀e∈(bS n0 (b::l) x.2<|o+1).2,o<=e.1/\e.1<o+((t,f)::b::l).length:=fun e he=>by
   have:=Nt e he;simp only[xaq]at this⊢;lia
  cases f<;>simp only[bS,mN]at he<;>first
   |exact ih e he
   |exact(xad.1 he).elim (fun he=>by subst he;exact⟨xab _,by simp only[xaq];lia⟩)<|fun he=>ih e he
theorem Lb{n0 o p n:Nat}{f:TF}{x:f.D}(hn:∀j,Ae f=some j->j<n)(h:wu (mN n0 o f x).1=some p):p=o\/p<n0+n:=by
 cases f<;>simp only[mN,wu,xay,reduceCtorEq]at h
 ·exact .inl h.symm
 ·exact .inl h.symm
 ·exact .inl h.symm
 ·exact .inl h.symm
 ·next j=>have:=hn j rfl;exact .inr<|by lia
 ·next j=>have:=hn j rfl;exact .inr<|by lia
 ·exact .inl h.symm
theorem Ey{n0 n:Nat}:∀{l:List (Nat×TF)}{x:Wh l}{o:Nat},(∀a∈l,∀j,Ae a.2=some j->j<n)->∀e∈(bS n0 l x o).1,∀p,wu e.2.2=some p->p<o+l.length\/p<n0+n
 |[],_,_,_,e,he=>absurd he IR
 |[(t,f)],x,o,hn,e,he=>by
  intro p hp;obtain rfl:=xai.1 (show e∈[(t,0,(mN n0 o f x).1)]from he);rcases Lb (hn _<|FS) hp with rfl|h
  ·exact .inl<|xca _
  ·exact .inr h
 |(t,f)::b::l,x,o,hn,e,he=>by
  intro p hp;have he:e=(t,0,(mN n0 o f x.1).1)\/e∈(bS n0 (b::l) x.2<|o+1).1:=xad.1 he;rcases he with rfl|he
  ·rcases Lb (hn _<|FS) hp with rfl|h
   ·exact .inl<|by simp only[xaq];lia
   ·exact .inr h
  ·rcases Ey (fun a ha=>hn a<|UV _ ha) e he p hp with h|h
   ·simp only[xaq]at h⊢;exact .inl<|by lia
   ·exact .inr h
theorem Dj{U:Nat->Value}{n0:Nat}:∀{l:List (Nat×TF)}{x:Wh l}{o i:Nat},(∀j,j<l.length->vs (o+j)=U (i+j))->MS vs (bS n0 l x o).2=XD U l x i
 |[],_,_,_,_=>rfl
 |[(t,f)],x,o,i,h=>by
  have h0:vs o=U i:=h 0 (by simp);cases f<;>simp only[bS,mN,MS,xbZ,xex,Qv,XD,ME,h0]
 |(t,f)::b::l,x,o,i,h=>by
  have h0:vs o=U i:=h 0 (by simp);have ih:MS vs (bS n0 (b::l) x.2<|o+1).2=XD U (b::l) x.2 (i+1):=Dj fun j hj=>by
   have:=h (j+1) (by simpa using hj);rw[show o+1+j=o+(j+1)by lia,show i+1+j=i+(j+1)by lia];exact this
  unfold MS at ih;cases f<;>simp only[bS,mN,MS,xbZ,Qv,XD,ME,h0,ih,xbA,xfw]
theorem BC{U:Nat->Value}{n0 n:Nat}{f:TF}{x:f.D}{o t:Nat}{u:Value}{S:Nat->Prop}(hv:vs o=u)(hn:∀j,Ae f=some j->j<n)(hU:∀j,j<n->vs (n0+j)=U j)(h:(tfF f x U u<|env t).p S w):(xN P vs (mN n0 o f x).1 (env t) 0).p S w:=by
 subst hv;cases f
 ·exact h
 ·exact h
 ·exact h
 ·obtain⟨h1,b,h2⟩:=h;exact⟨h1,b,h1.symm.trans h2⟩
 ·exact h
 ·exact h
 ·next j=>
  have h:zdL (U j) x=some (env t):=h;show zdL (vs<|n0+j) x=some (env t);rw[hU j<|hn j rfl];exact h
 ·next j=>
  have h:FI (y5<|U j) x.1 x.2 (env t):=h;show FI (y5<|vs<|n0+j) x.1 x.2 (env t);rw[hU j<|hn j rfl];exact h
 ·exact h
theorem Ml{U:Nat->Value}{n0 n:Nat}(hU:∀j,j<n->vs (n0+j)=U j):∀{l:List (Nat×TF)}{x:Wh l}{o i:Nat}{S:Nat->Prop},(∀a∈l,∀j,Ae a.2=some j->j<n)->(∀j,j<l.length->vs (o+j)=U (i+j))->zD S (dsF U env l x i) w->zD S (RS P vs env (bS n0 l x o).1) w
 |[],_,_,_,_,_,_,_=>trivial
 |[(t,f)],x,o,i,S,hn,h,hf=>⟨BC (h 0<|by simp) (hn _<|FS) hU hf.1,trivial⟩
 |(t,f)::b::l,x,o,i,S,hn,h,hf=>⟨BC (h 0<|by simp) (hn _<|FS) hU hf.1,Ml hU (fun a ha=>hn a<|UV _ ha) (fun j hj=>by
  have:=h (j+1) (by simpa using hj);rw[show o+1+j=o+(j+1)by lia,show i+1+j=i+(j+1)by lia];exact this) hf.2⟩
theorem SV:∀{ns:List (Nat×NF)},zdX cx σ ns=true->∀t f,(t,f)∈ns->(match f,get cx σ t 0 with
 |.kb b,some (.kb c)=>b==c
 |.nil,some .nil=>true
 |.ci x,some (.d .i y)=>eqI x y
 |.cu x,some (.d .u y)=>eqU x y
 |.al s,some (.ow o)=>(match get cx σ s 0 with
  |some (.ow o')=>xao o o'
  |_=>false)
 |.al s,some (.vs o _)=>(match get cx σ s 0 with
  |some (.vs o' _)=>xao o o'
  |_=>false)
 |.al s,some (.mw o)=>(match get cx σ s 0 with
  |some (.mw o')=>xao o o'
  |_=>false)
 |_,_=>false)=true
 |(t',f')::r,h,t,f,hm=>by
  unfold zdX at h;rw[xam]at h;rcases xad.1 hm with ha|hm
  ·cases ha;exact h.1
  ·exact SV h.2 t f hm
theorem O9{rg:List (Nat×Nat×Dv)}{S:Nat->Prop}(hr:zD S (RS P vs env rg) w):∀{ns:List (Nat×NF)},(∀t f,(t,f)∈ns->match f with
 |.kb b=>env t=.bool b
 |.nil=>env t=.slice none 0 0
 |.ci x=>(fV eI x<|env t).p S w
 |.cu x=>(fV eU x<|env t).p S w
 |.al s=>env t=env s)->zD S (RS P vs env (Fe rg ns)) w
 |[],_=>hr
 |(t,f)::r,h=>by
  have ih:=O9 hr (ns:=r) fun t f hm=>h t f<|UV _ hm;have h0:=h t f<|FS;unfold Fe;show zD S (RS P vs env<|_++_) w;rw[show RS P vs env (_++Fe rg r)=RS P vs env _++RS P vs env (Fe rg r)from xbg];refine zD.append ?_ ih;cases f
  ·exact⟨h0,trivial⟩
  ·exact⟨h0,trivial⟩
  ·exact⟨h0,trivial⟩
  ·exact⟨h0,trivial⟩
  ·next s=>
   simp only;split
   ·next v hv=>
    have:=Ju hr<|nY hv;have h0:env t=env s:=h0;refine⟨?_,trivial⟩;show(xN P vs v (env t) 0).p S w;rw[h0];exact this
   ·trivial
theorem Ic{rg:List (Nat×Nat×Dv)}{n:Nat}(hr:∀e∈rg,∀p,wu e.2.2=some p->p<n):∀{ns:List (Nat×NF)},∀e∈Fe rg ns,∀p,wu e.2.2=some p->p<n
 |[],e,he=>hr e he
 |(t,f)::r,e,he=>by
  intro p hp;unfold Fe at he;rcases Nm.1 he with he|he
  ·cases f
   ·obtain rfl:=xai.1 he;cases hp
   ·obtain rfl:=xai.1 he;cases hp
   ·obtain rfl:=xai.1 he;cases hp
   ·obtain rfl:=xai.1 he;cases hp
   ·simp only at he;split at he
    ·next v hv=>
     obtain rfl:=xai.1 he;exact hr _ (nY hv) p hp
    ·exact absurd he IR
  ·exact Ic hr e he p hp
theorem uu:∀(l:List (Nat×TF)) {σ:Sg},Zc P fr cx σ env w->Zc P fr cx (S6 cx σ l) env w
 |[],_,h=>h
 |(t,.d _)::r,_,h=>uu r<|DR _ h
 |(t,.q _)::r,_,h=>uu r h
 |(t,.own _ _)::r,_,h=>uu r h
 |(t,.var _ _)::r,_,h=>uu r h
 |(t,.mat _ _ _)::r,_,h=>uu r h
 |(t,.matv _ _ _)::r,_,h=>uu r h
 |(t,.row _)::r,_,h=>uu r h
 |(t,.view _)::r,_,h=>uu r h
 |(t,.bo _ _ _)::r,_,h=>uu r h
theorem St.dropM{we:World}{Se:Nat->Prop}{Γ:List FF}{w:World}:∀{A B C:List MF},St we Se (A++(B++C)) Γ w->St we Se (A++C) Γ w
 |A,[],C,h=>h
 |A,b::B,C,h=>St.dropM (B:=B)<|St.drop (i:=0)<|St.mid h
end
end
section
section
variable{P:Program}{cf:Cf}{fr:Fr}{cx kp σ:Sg}{vs vs':Nat->Value}{env env0:yR}{w:World}{R:Type}{r:R}{N:Nd}{Q:Qs}
theorem aq{a b:List (Nat×Nat×Dv)}:RS P vs env (a++b)=RS P vs env a++RS P vs env b:=xbg
theorem lO{sh:Sh}{k:Wh sh.ds->Option R}(h:ig (jE cx kp) sh σ k=some r)(hK:Bd cx kp):∃x,k x=some r/\∀(fr:Fr) env w,Zc P fr (jE cx kp) σ env w->Zc P fr cx (Qy sh x kp) env w:=by
 unfold ig at h;simp only at h;obtain⟨hr,h⟩:=yn h;obtain⟨x,os,h1,h0,h2,h3⟩:=zgk (ds:=sh.ds) (i:=0) (fun j a hj=>by rw[xaN];exact hj) h;refine⟨x,h1,fun fr env w hR=> ?_⟩;have hs:=uu sh.ds hR;generalize S6 (jE cx kp) σ sh.ds=σ1 at*
 obtain⟨hB,vs,ht⟩:=hs;have hf:=h3 P vs fr env (GS P vs env fr (jE cx kp) σ1) w (fun S w hΓ=>Yd hΓ) ht;have hi:=St.dropM hf;generalize hu:Ja (jE cx kp) σ1 sh.ds vs env=U at*
 have hc:∀o,o<kp.nx->nvs vs U kp.nx o=vs o:=fun o ho=>iq ho;have hd:∀j,j<sh.ds.length->nvs vs U kp.nx (kp.nx+j)=U (0+j):=fun j hj=>by
  unfold nvs;rw[zC,show kp.nx+j-kp.nx=j by lia,xaN]
 have hv:=fun e he=>Nt (n0:=kp.nx) (l:=sh.ds) (x:=x) (o:=kp.nx) e he;have hk:∀e∈(bS kp.nx sh.ds x kp.nx).1,∀p,wu e.2.2=some p->p<kp.nx+sh.ds.length:=fun e he p hp=>by
  rcases Ey (n0:=kp.nx) (n:=sh.ds.length) (l:=sh.ds) (x:=x) (o:=kp.nx) h0 e he p hp with h|h<;>exact h
 refine⟨⟨fun e he=> ?_,fun e he=> ?_,fun e he p hp=> ?_,fun e he p hp=> ?_⟩,nvs vs U kp.nx,?_⟩
 ·rcases Nm.1 he with he|he
  ·exact(hv e he).2
  ·exact xal (hK.o1 e he)<|xbO _ _
 ·exact xal (hK.o2 e he)<|xbO _ _
 ·rcases Nm.1 he with he|he
  ·rcases Nm.1 he with he|he
   ·exact Ic (fun e he p hp=>hk e he p hp) e he p hp
   ·exact hk e he p hp
  ·exact xal (hK.r1 e he p hp)<|xbO _ _
 ·exact xal (hK.r2 e he p hp)<|xbO _ _
 ·have e1:OS (nvs vs U kp.nx) fr cx ((bS kp.nx sh.ds x kp.nx).2++kp.ob)=XD U sh.ds x 0++(MS vs (kp.ob++cx.ob)++fr.F):=by
   show MS _ (_++kp.ob)++(MS _ cx.ob++_)=_
   rw[show MS (nvs vs U kp.nx) ((bS kp.nx sh.ds x kp.nx).2++kp.ob)=MS _ _++MS _ _ from xbg,Dj hd,wa fun e he=>hc _<|hK.o1 e he,wa (ob:=cx.ob) fun e he=>hc _<|hK.o2 e he,
    show MS vs (kp.ob++cx.ob)=MS _ _++MS _ _ from xbg,xaj,xaj]
  show St _ _ (OS (nvs vs U kp.nx) fr cx<|(bS kp.nx sh.ds x kp.nx).2++kp.ob) _ _;rw[e1];refine hi.weak fun S w hΓ=> ?_;have hl:∀t,Lk P vs env S w (jE cx kp) σ1 t:=Yd hΓ;have hy:zD S (RS P (nvs vs U kp.nx) env (bS kp.nx sh.ds x kp.nx).1) w:=Ml (U:=U) (n:=sh.ds.length) (fun j hj=>by rw[hd j hj,xaN]) h0 hd (by rw[<-hu];exact h2 P vs env S w hl);have hq:zD S (RS P vs env kp.rg++RS P vs env cx.rg) w:=by
   have:=zD.left<|zD.right hΓ;rwa[show RS P vs env (jE cx kp).rg=RS P vs env kp.rg++RS P vs env cx.rg from xbg]at this
  have hn:=O9 hy (ns:=sh.ns) fun t f hm=>by
   have hg:=SV hr t f hm;cases f
   ·split at hg<;>simp_all
    next b c h3=>exact hl t 0 _ h3
   ·split at hg<;>simp_all
    next h3=>exact hl t 0 _ h3
   ·split at hg<;>simp_all
    next a b h3=>
    have:=hl t 0 _ h3;simp only[eqI,decide_eq_true_eq]at hg;rw[hg];exact this
   ·split at hg<;>simp_all
    next a b h3=>
    have:=hl t 0 _ h3;simp only[eqU,decide_eq_true_eq]at hg;rw[hg];exact this
   ·next s=>
    cases hb:get (jE cx kp) σ1 t 0 with
    |none=>rw[hb]at hg;cases hg
    |some v=>
     rw[hb]at hg;cases v<;>simp only[xak]at hg
     ·next o=>
      cases ha:get (jE cx kp) σ1 s 0 with
      |none=>rw[ha]at hg;cases hg
      |some v'=>
       rw[ha]at hg;cases v'<;>simp only[xak]at hg;have a1:env t=vs o:=hl t 0 _ hb;have a2:=hl s 0 _ ha;have:=yc hg;subst this;exact a1.trans (show env s=_ from a2).symm
     ·next o _=>
      cases ha:get (jE cx kp) σ1 s 0 with
      |none=>rw[ha]at hg;cases hg
      |some v'=>
       rw[ha]at hg;cases v'<;>simp only[xak]at hg;have a1:env t=vs o:=(hl t 0 _ hb).1;have a2:=(hl s 0 _ ha).1;have:=yc hg;subst this;exact a1.trans a2.symm
     ·next o=>
      cases ha:get (jE cx kp) σ1 s 0 with
      |none=>rw[ha]at hg;cases hg
      |some v'=>
       rw[ha]at hg;cases v'<;>simp only[xak]at hg;have a1:env t=y5 (vs o):=hl t 0 _ hb;have a2:=hl s 0 _ ha;have:=yc hg;subst this;exact a1.trans (show env s=_ from a2).symm
  show zD S (RS P _ env ((Fe (bS kp.nx sh.ds x kp.nx).1 sh.ns++(bS kp.nx sh.ds x kp.nx).1)++kp.rg)++(RS P _ env cx.rg++fr.G)) w;refine zD.append ?_<|zD.append ?_<|zD.right<|zD.right hΓ
  ·rw[aq,aq];refine zD.append (zD.append hn hy) ?_;rw[qU (fun e he p hp=>hc _<|hK.r1 e he p hp)<|fun _ _=>rfl];exact zD.left hq
  ·rw[qU (fun e he p hp=>hc _<|hK.r2 e he p hp)<|fun _ _=>rfl];exact zD.right hq
theorem N5{a t:Tg}(h:SI a t=true):a=t:=by
 cases a<;>cases t<;>first|rfl|cases h|skip
 rw[yc (show xao _ _=true from h)]
theorem PB{t:Tg}(hK:Bd cx kp):∀{l:List (Tg×Sh)}{k:SmD l->Option R},zao (jE cx kp) σ t l k=some r->∃(y:SmD l) (σt:Sg),k y=some r/\(∀{R':Type} (K:Tg->Sg->Option R'),GY kp K l y=K t σt)/\∀(fr:Fr) env w,Zc P fr (jE cx kp) σ env w->Zc P fr cx σt env w
 |[],k,h=>by cases h
 |[a],k,h=>by
  obtain⟨ht,h⟩:=yn h;obtain⟨x,h1,h2⟩:=lO (P:=P) h hK;have:=N5 ht;subst this;exact⟨x,_,h1,fun K=>rfl,h2⟩
 |a::b::l,k,h=>by
  unfold zao at h;cases ht:SI a.1 t<;>rw[ht]at h
  ·obtain⟨y,σt,h1,h2,h3⟩:=PB hK (l:=b::l) h;exact⟨.inr y,σt,h1,fun K=>h2 K,h3⟩
  ·obtain⟨x,h1,h2⟩:=lO (P:=P) h hK;have:=N5 ht;subst this;exact⟨.inl x,_,h1,fun K=>rfl,h2⟩
abbrev Qd:=Exit->List Nat->yR->World->Prop
def wM(D:Nat):MF where
 blk k:=k=D
 p _ w:=w.heap[D]? =some (.deferred<|some [])
 keep h _ hb:=(hb D rfl).trans h
 sub h _:=h
 lt h k hk:=by subst hk;exact(xbm.1 h).1
def mkD(D:Nat):Deferred:={target:=.collected D,args:= #[]}
def Nd.wd(N:Nd)(Ds:List Nat):Nd:=⟨N.n,Ds.map mkD,N.rd⟩
def Fr.wd(fr:Fr)(Ds:List Nat):Fr:=⟨fr.we,fr.Se,Ds.map wM++fr.F,fr.G⟩
def zfR(N:Nd)(Q:Qd):Exit->Act->World->Prop:=fun e a w=>a.tmps.size=N.n/\∃Ds:List Nat,a.defers=Ds.map mkD/\Q e Ds (yz a) w
def Fm(P:Program)(N:Nd)(c:Code)(Q:Qd)(Ds:List Nat)(env:yR)(w:World):Prop:=
 ∀a:Act,a.tmps.size=N.n->a.defers=Ds.map mkD->yz a=env->c.wpIn N.F 0 P (zfR N Q) a w
section
variable{N:Nd}{Q Q':Qd}{Ds:List Nat}
theorem zib{c:Code}(h:Wp P (N.wd Ds) c (fun e env w=>Q e Ds env w) env w):Fm P N c Q Ds env w:=fun a h1 h2 h3=>wpIn_mono (h a h1 h2 h3) fun e a' w' ⟨q1,q2,q3⟩=>⟨q1,Ds,q2,q3⟩
def zgo(K:List Nat->yR->World->Prop)(Q:Qd):Qd
 |.normal,Ds,env,w=>K Ds env w
 |e,Ds,env,w=>Q e Ds env w
def EK(id:Nat)(Q:Qd):Qd
 |.exit id',Ds,env,w=>bif xao id' id then Q .normal Ds env w else Q (.exit id') Ds env w
 |e,Ds,env,w=>Q e Ds env w
def zky(Q:Qd):Qd
 |.goto _,_,_,_=>False
 |e,Ds,env,w=>Q e Ds env w
theorem oj{x y:Code}(h:Fm P N x (zgo (Fm P N y Q) Q) Ds env w):Fm P N (.seq x y) Q Ds env w:=by
 intro a h1 h2 h3;refine wpIn_seq<|wpIn_mono (h a h1 h2 h3) ?_;intro e a' w' ⟨q1,Ds',q2,q3⟩;cases e<;>first|exact q3 a' q1 q2 rfl|exact⟨q1,Ds',q2,q3⟩
theorem zbU{c:Code}(h:Fm P N c Q Ds env w)(hq:∀e Ds env w,Q e Ds env w->Q' e Ds env w):Fm P N c Q' Ds env w:=
 fun a h1 h2 h3=>wpIn_mono (h a h1 h2 h3) fun e a' w' ⟨q1,Ds',q2,q3⟩=>⟨q1,Ds',q2,hq e _ _ _ q3⟩
theorem Cz{id:Nat}{c:Code}(h:Fm P N c (EK id Q) Ds env w):Fm P N (.block id c) Q Ds env w:=by
 intro a h1 h2 h3;refine wpIn_block<|wpIn_mono (h a h1 h2 h3) ?_;intro e a' w' ⟨q1,Ds',q2,q3⟩
 cases e with
 |exit i=>
  simp only[EK]at q3;simp only[Exit.inBlock];cases hb:xao i id
  ·rw[hb]at q3;rw[ir<|fun e=>by subst e;simp at hb];exact⟨q1,Ds',q2,q3⟩
  ·rw[hb]at q3;rw[iq<|xcM hb];exact⟨q1,Ds',q2,q3⟩
 |_=>exact⟨q1,Ds',q2,q3⟩
theorem R9{c:Code}(h:Fm P N c (zky Q) Ds env w):Fm P N (.scope c) Q Ds env w:=by
 intro a h1 h2 h3;refine NU<|wpIn_mono (h a h1 h2 h3) ?_;intro e a' w' ⟨q1,Ds',q2,q3⟩;cases e<;>first|exact⟨q1,Ds',q2,q3⟩|exact q3.elim
theorem HR{c:Code}{G:Type}(I:G->List Nat->yR->World->Prop)(μ:G->Nat)(g₀:G)(h₀:I g₀ Ds env w)(round:∀g Ds env w,I g Ds env w->Fm P N c (zgo (fun Ds' env' w'=>∃g',I g' Ds' env' w'/\μ g'<μ g) Q) Ds env w):Fm P N (.loop c) Q Ds env w:=by
 intro a h1 h2 h3;refine NG (fun g a w=>a.tmps.size=N.n/\∃Ds:List Nat,a.defers=Ds.map mkD/\I g Ds (yz a) w) μ g₀ ⟨h1,Ds,h2,h3▸h₀⟩ ?_;intro g a w ⟨h1,Ds,h2,hI⟩;refine wpIn_mono (round g Ds (yz a) w hI a h1 h2 rfl) ?_;intro e a' w' ⟨q1,Ds',q2,q3⟩
 cases e with
 |normal=>obtain⟨g',o1,o2⟩:=q3;exact⟨g',⟨q1,Ds',q2,o1⟩,o2⟩
 |_=>exact⟨q1,Ds',q2,q3⟩
theorem tu{c:Operand}{x y:Code}(hc:ev env c=.bool true)(h:Fm P N x Q Ds env w):Fm P N (.cond c x y) Q Ds env w:=
 fun a h1 h2 h3=>wpIn_cond_true (by rw[aI,h3];exact hc)<|h a h1 h2 h3
theorem rP{c:Operand}{x y:Code}(hc:ev env c=.bool false)(h:Fm P N y Q Ds env w):Fm P N (.cond c x y) Q Ds env w:=
 fun a h1 h2 h3=>wpIn_cond_false (by rw[aI,h3];exact hc)<|h a h1 h2 h3
end
theorem B9{α:Type _}(p:α->Bool):∀l:List α,l.Perm ((l.filter fun a=> !p a)++l.filter p)
 |[]=>xdC _
 |a::l=>by
  have ih:=B9 p l;rw[xdk,xdk];cases hp:p a
  ·simpa using ih.cons a
  ·simp only[xdL,xak,if_false,if_true];exact(ih.cons a).trans xcu.symm
theorem sj{ag ro:List Nat}(h:Zc P fr cx σ env w):Bd cx (keep σ ag ro)/\Zc P fr (jE cx<|keep σ ag ro) (rest σ ag ro) env w:=by
 obtain⟨hB,vs,ha⟩:=h;have hb:Bd cx (keep σ ag ro):=⟨fun e he=>hB.o1 e (xck.1 he).1,hB.o2,fun e he=>hB.r1 e (xck.1 he).1,hB.r2⟩;refine⟨hb,⟨fun e he=>hB.o1 e (xck.1 he).1,fun e he=> ?_,fun e he=>hB.r1 e (xck.1 he).1,fun e he=> ?_⟩,vs,?_⟩
 ·rcases Nm.1 he with he|he
  ·exact hb.o1 e he
  ·exact hb.o2 e he
 ·rcases Nm.1 he with he|he
  ·exact hb.r1 e he
  ·exact hb.r2 e he
 ·have hp:(OS vs fr cx σ.ob).Perm (OS vs fr (jE cx<|keep σ ag ro) (rest σ ag ro).ob):=by
   show List.Perm (MS vs σ.ob++(MS vs cx.ob++fr.F)) (MS vs (rest σ ag ro).ob++(MS vs ((keep σ ag ro).ob++cx.ob)++fr.F));have e:MS vs (rest σ ag ro).ob++(MS vs ((keep σ ag ro).ob++cx.ob)++fr.F)=(MS vs (rest σ ag ro).ob++MS vs (keep σ ag ro).ob)++(MS vs cx.ob++fr.F):=by
    rw[show MS vs ((keep σ ag ro).ob++cx.ob)=MS _ _++MS _ _ from xbg];simp only[xaj]
   rw[e];refine xfk _ ?_;have:=(B9 (fun e:Nat×Od=>dn (Bu σ ro) e.1) σ.ob).map<|Qv vs;rw[xbg]at this;exact this
  refine(St.perm ha hp).sub' ?_;intro f hf;rcases Nm.1 hf with hf|hf
  ·obtain⟨e,he,rfl⟩:=xap.1 hf;exact Nm.2 (.inl<|xap.2 ⟨e,(xck.1 he).1,rfl⟩)
  ·rcases Nm.1 hf with hf|hf
   ·obtain⟨e,he,rfl⟩:=xap.1 hf;rcases Nm.1 he with he|he
    ·exact Nm.2 (.inl<|xap.2 ⟨e,(xck.1 he).1,rfl⟩)
    ·exact Nm.2 (.inr<|Nm.2 (.inl<|xap.2 ⟨e,he,rfl⟩))
   ·exact Nm.2 (.inr<|Nm.2 (.inr hf))
end
end
section
def KA(l:Nat)(r:Loop):MF where
 blk k:=k=l
 p _ w:=w.heap[l]? =some (.loop r)
 keep h _ hb:=(hb l rfl).trans h
 sub h _:=h
 lt h k hk:=by subst hk;exact(xbm.1 h).1
def mFF(Γ:List FF):MF where
 blk _:=False
 p S w:=zD S Γ w
 keep h k _:=zD.keep k h
 sub h k:=zD.sub k h
 lt _ _ hk:=hk.elim
section
variable{we:World}{Se:Nat->Prop}{ms:List MF}{Γ Δ:List FF}{w:World}
theorem St.ffIn(h:St we Se ms (Δ++Γ) w):St we Se (mFF Δ::ms) Γ w:=by
 obtain⟨h1,h2,h3,S,h4,h5,h6,h7,h8⟩:=h;refine⟨h1,h2,⟨fun k hk=>hk.elim,h3⟩,S,h4,h5,fun m hm k hk=> ?_,⟨zD.left h8,h7⟩,zD.right h8⟩;rcases xad.1 hm with rfl|hm
 ·exact hk.elim
 ·exact h6 m hm k hk
theorem St.ffOut(h:St we Se (mFF Δ::ms) Γ w):St we Se ms (Δ++Γ) w:=by
 obtain⟨h1,h2,h3,S,h4,h5,h6,h7,h8⟩:=h;exact⟨h1,h2,h3.2,S,h4,h5,fun m hm=>h6 m<|UV _ hm,h7.2,zD.append h7.1 h8⟩
theorem St.putObj{l:Nat}{m m':MF}{o:Obj}(h:St we Se (m::ms) Γ w)(hb:∀k,m.blk k↔k=l)(he:∀k,m'.blk k->k=l)(hp:∀S w',w'.heap[l]? =some o->m'.p S w'):St we Se (m'::ms) Γ (w.putObj l o):=by
 obtain⟨h1,h2,h3,S,h4,h5,h6,h7,h8⟩:=h;have hl:=h6 m (FS) l<|(hb l).2 rfl;have hf:l<w.heap.size:=yB.lt h7 m (FS) l<|(hb l).2 rfl;have hd:(w.putObj l o).heap.size=w.heap.size:=World.putObj_size;have ha:∀k,k≠l->(w.putObj l o).heap[k]? =w.heap[k]? :=fun k hk=>World.putObj_heap_other hk;have hk:yw S w (w.putObj l o):=⟨rfl,rfl,rfl,Nat.le_of_eq hd.symm,fun k _ hS=>ha k fun e=>hl.1<|e▸hS⟩;have hx:QF we (w.putObj l o):=⟨h1.os,h1.tape,h1.output,xan h1.size<|Nat.le_of_eq hd.symm,fun k hk hS=>(ha k fun e=>by lia).trans<|h1.block k hk hS⟩;refine⟨hx,h2,⟨fun k hk m2 hm2=>h3.1 k ((hb k).2<|he k hk) m2 hm2,h3.2⟩,S,h4,fun k hk=>h5 k (by rw[hd]at hk;exact hk),fun m2 hm2 k hc=> ?_,⟨hp S _<|World.putObj_heap_same hf,yB.keep hk (fun m2 hm2 k hc=>ha k fun e=> ?_) h7.2⟩,zD.keep hk h8⟩
 ·rcases xad.1 hm2 with rfl|hm2
  ·exact h6 m (FS) k<|(hb k).2<|he k hc
  ·exact h6 m2 (UV _ hm2) k hc
 ·subst e;exact h3.1 k ((hb k).2 rfl) m2 hm2 hc
theorem St.allocObj{o:Obj}{m:MF}(h:St we Se ms Γ w)(hb:∀k,m.blk k->k=w.heap.size)(hp:∀S w',w'.heap[w.heap.size]? =some o->m.p S w'):St we Se (m::ms) Γ (w.alloc o):=by
 obtain⟨h1,h2,h3,S,h4,h5,h6,h7,h8⟩:=h;have he:(w.alloc o).heap.size=w.heap.size+1:=World.size_alloc ..;have vo:∀k,k<w.heap.size->(w.alloc o).heap[k]? =w.heap[k]? :=fun k hk=>by
  show(w.heap.push o)[k]? =_;rw[Array.getElem?_push];rw[zC]
 have hd:(w.alloc o).heap[w.heap.size]? =some o:=World.alloc_heap_new w o;let S':Nat->Prop:=fun k=>S k/\k≠w.heap.size
 have hk:yw S' w (w.alloc o):=⟨rfl,rfl,rfl,by lia,fun k hk _=>vo k hk⟩;have hc:∀k,k<w.heap.size->S k->S' k:=fun k hk hS=>⟨hS,by lia⟩;refine⟨⟨h1.os,h1.tape,h1.output,by have:=h1.size;lia,fun k hk hS=>(vo k<|xal hk h1.size).trans<|h1.block k hk hS⟩,h2,⟨fun k hk m2 hm2 ha=> ?_,h3⟩,S',fun k hk=>h4 k hk.1,fun k hk=>⟨h5 k (by lia),by lia⟩,fun m2 hm2 k ha=> ?_,⟨hp _ _ hd,yB.keep hk (fun m2 hm2 k ha=>vo k<|yB.lt h7 m2 hm2 k ha)<|yB.sub hc h7⟩,zD.keep hk<|zD.sub hc h8⟩
 ·have:=yB.lt h7 m2 hm2 k ha;have:=hb k hk;lia
 ·rcases xad.1 hm2 with rfl|hm2
  ·exact⟨fun hS=>hS.2<|hb k ha,by have:=hb k ha;have:=h1.size;lia⟩
  ·exact⟨fun hS=>(h6 m2 hm2 k ha).1 hS.1,(h6 m2 hm2 k ha).2⟩
end
section
variable{P:Program}{cf:Cf}{fr:Fr}{cx kp σ:Sg}{vs vs':Nat->Value}{env env':yR}{w:World}
theorem FH{cx σ:Sg}(h:Bd cx σ):Bd (jE cx σ) ⟨σ.nx,[],[]⟩where
 o1:=fun _ he=>absurd he IR
 o2:=fun e he=>by
  rcases Nm.1 he with he|he
  ·exact h.o1 e he
  ·exact h.o2 e he
 r1:=fun _ he=>absurd he IR
 r2:=fun e he=>by
  rcases Nm.1 he with he|he
  ·exact h.r1 e he
  ·exact h.r2 e he
def gL(f:TF)(v u:Value):Prop:=match f with
 |.own _ _=>v=u
 |.var _ _=>v=u/\∃b,v=.pointer (some ⟨b,0,none⟩)
 |.mat _ _ _=>v=y5 u
 |.bo _ _ _=>v=y5 u
 |_=>False
def Qf(ds:List (Nat×TF))(env:yR)(U:Nat->Value):Prop:=∀(j t:Nat) (f:TF),ds[j]? =some (t,f)->gL f (env t) (U j)
theorem C6:∀{ds:List (Nat×TF)},KB ds=true->∀(j t:Nat) (f:TF),ds[j]? =some (t,f)->(∃s E,f=.own s E)\/(∃s E,f=.var s E)\/(∃s E F,f=.mat s E F)\/(∃s E F,f=.bo s E F)
 |[],_,j,t,f,h=>by simp at h
 |(t',f')::ds,hm,0,t,f,h=>by
  simp only[xbE,xay,xcx]at h;obtain⟨rfl,rfl⟩:=h;cases f'<;>simp only[KB,xak]at hm
  ·exact .inl ⟨_,_,rfl⟩
  ·exact .inr (.inl ⟨_,_,rfl⟩)
  ·exact .inr (.inr (.inl ⟨_,_,_,rfl⟩))
  ·exact .inr (.inr (.inr ⟨_,_,_,rfl⟩))
 |(t',f')::ds,hm,j+1,t,f,h=>by
  refine C6 (ds:=ds) ?_ j t f (by simpa using h);cases f'<;>simp only[KB,xak]at hm<;>exact hm
theorem IX{ds:List (Nat×TF)}(hm:KB ds=true):∀a∈ds,∀j,Ae a.2=some j->j<ds.length:=fun a ha j e=>by
 obtain⟨i,hi⟩:=List.mem_iff_getElem?.1 ha;rcases C6 hm i a.1 a.2 hi with⟨_,_,h⟩|⟨_,_,h⟩|⟨_,_,_,h⟩|⟨_,_,_,h⟩<;>rw[h]at e<;>cases e
theorem O6{U:Nat->Value}{S:Nat->Prop}:∀{ds:List (Nat×TF)}{x:Wh ds}{i:Nat},(∀(j t:Nat) (f:TF),ds[j]? =some (t,f)->gL f (env t) (U<|i+j))->zD S (dsF U env ds x i) w
 |[],_,_,_=>trivial
 |[(t,f)],x,i,h=>by
  have h0:=h 0 t f rfl;refine⟨?_,trivial⟩;cases f<;>first|exact h0|exact h0.elim
 |(t,f)::b::l,x,i,h=>by
  have h0:=h 0 t f rfl;refine⟨?_,O6 fun j t f hj=>by
   have:=h (j+1) t f (by simpa using hj);rw[show i+1+j=i+(j+1)by lia];exact this⟩
  cases f<;>first|exact h0|exact h0.elim
theorem zbI{n0:Nat}:∀{ds:List (Nat×TF)}{x:Wh ds}{o j t:Nat}{f:TF},ds[j]? =some (t,f)->∃y:f.D,(t,0,(mN n0 (o+j) f y).1)∈(bS n0 ds x o).1
 |[],_,_,_,_,_,h=>by simp at h
 |[(t',f')],x,o,0,t,f,h=>by
  simp only[xbE,xay,xcx]at h;obtain⟨rfl,rfl⟩:=h;exact⟨x,FS⟩
 |[(t',f')],x,o,j+1,t,f,h=>by simp at h
 |(t',f')::b::l,x,o,0,t,f,h=>by
  simp only[xbE,xay,xcx]at h;obtain⟨rfl,rfl⟩:=h;exact⟨x.1,FS⟩
 |(t',f')::b::l,x,o,j+1,t,f,h=>by
  obtain⟨y,hy⟩:=zbI (n0:=n0) (ds:=b::l) (x:=x.2) (o:=o+1) (j:=j) (t:=t) (f:=f) (by simpa using h);rw[show o+1+j=o+(j+1)by lia]at hy;exact⟨y,UV _ hy⟩
theorem zcw{ds:List (Nat×TF)}{x:Wh ds}{n:Nat}{S:Nat->Prop}(hm:KB ds=true)(h:zD S (RS P vs env (bS n ds x n).1) w):Qf ds env fun j=>vs (n+j):=by
 intro j t f hj;obtain⟨y,hy⟩:=zbI (n0:=n) (x:=x) (o:=n) hj;have:=Ju h hy;rcases C6 hm j t f hj with⟨_,_,rfl⟩|⟨_,_,rfl⟩|⟨_,_,_,rfl⟩|⟨_,_,_,rfl⟩
 ·exact this
 ·obtain⟨h1,b,h2⟩:=this;exact⟨h1,b,h1.trans h2⟩
 ·exact this
 ·exact this
theorem zfV{ds:List (Nat×TF)}{x:Wh ds}(hm:KB ds=true)(o1:∀e∈kp.ob,e.1<kp.nx+ds.length)(o2:∀e∈cx.ob,e.1<kp.nx+ds.length)(r1:∀e∈kp.rg,∀o,wu e.2.2=some o->o<kp.nx+ds.length)(r2:∀e∈cx.rg,∀o,wu e.2.2=some o->o<kp.nx+ds.length):Bd cx (Qy ⟨ds,[]⟩ x kp):=by
 refine⟨fun e he=> ?_,o2,fun e he p hp=> ?_,r2⟩
 ·rcases Nm.1 he with he|he
  ·exact(Nt (n0:=kp.nx) (l:=ds) (x:=x) (o:=kp.nx) e he).2
  ·exact o1 e he
 ·have hr:∀e∈(bS kp.nx ds x kp.nx).1,∀p,wu e.2.2=some p->p<kp.nx+ds.length:=fun e he p hp=>by
   rcases Ey (n0:=kp.nx) (n:=ds.length) (l:=ds) (x:=x) (o:=kp.nx) (IX hm) e he p hp with h|h<;>exact h
  rcases Nm.1 he with he|he
  ·rcases Nm.1 he with he|he
   ·exact hr e he p hp
   ·exact hr e he p hp
  ·exact r1 e he p hp
theorem SR{ds:List (Nat×TF)}{x:Wh ds}(hm:KB ds=true)(hc:Qf ds env fun j=>vs<|kp.nx+j)(hb:Bd cx (Qy ⟨ds,[]⟩ x kp))
 (hd:St fr.we fr.Se (XD (fun j=>vs<|kp.nx+j) ds x 0++(MS vs kp.ob++(MS vs cx.ob++fr.F))) (RS P vs env kp.rg++(RS P vs env cx.rg++fr.G)) w):Zc P fr cx (Qy ⟨ds,[]⟩ x kp) env w:=by
 refine⟨hb,vs,?_⟩;have ha:∀j,j<ds.length->vs (kp.nx+j)=(fun j=>vs<|kp.nx+j) (0+j):=fun j _=>by simp only[xaN]
 have e1:OS vs fr cx (Qy ⟨ds,[]⟩ x kp).ob=XD (fun j=>vs<|kp.nx+j) ds x 0++(MS vs kp.ob++(MS vs cx.ob++fr.F)):=by
  show MS vs ((bS kp.nx ds x kp.nx).2++kp.ob)++(MS vs cx.ob++fr.F)=_;rw[show MS vs ((bS kp.nx ds x kp.nx).2++kp.ob)=MS vs (bS kp.nx ds x kp.nx).2++MS vs kp.ob from xbg,Dj (U:=fun j=>vs<|kp.nx+j) (i:=0) ha,xaj]
 show St _ _ (OS vs fr cx (Qy ⟨ds,[]⟩ x kp).ob) _ _;rw[e1];refine hd.weak fun S w hΓ=> ?_;have hy:zD S (RS P vs env (bS kp.nx ds x kp.nx).1) w:=Ml (U:=fun j=>vs<|kp.nx+j) (n:=ds.length) (i:=0) (fun j _=>rfl) (IX hm) ha (O6 fun j t f hj=>by rw[xaN];exact hc j t f hj);show zD S (RS P vs env (((bS kp.nx ds x kp.nx).1++(bS kp.nx ds x kp.nx).1)++kp.rg)++(RS P vs env cx.rg++fr.G)) w;rw[aq,aq];exact zD.append (zD.append (zD.append hy hy)<|zD.left hΓ)<|zD.right hΓ
theorem Pc{ds:List (Nat×TF)}{x:Wh ds}{n:Nat}(hm:KB ds=true)(hR:Zc P fr cx (Qy ⟨ds,[]⟩ x ⟨n,[],[]⟩) env w):∃vs,Qf ds env (fun j=>vs<|n+j)/\Bd cx (Qy ⟨ds,[]⟩ x ⟨n,[],[]⟩)/\St fr.we fr.Se (XD (fun j=>vs<|n+j) ds x 0++(MS vs cx.ob++fr.F)) (RS P vs env cx.rg++fr.G) w:=by
 obtain⟨hB,vs,ha⟩:=hR;obtain⟨S,_,hΓ⟩:=ha.ex;have h1:zD S (RS P vs env<|((bS n ds x n).1++(bS n ds x n).1)++[]) w:=zD.left hΓ;rw[aq,aq]at h1;refine⟨vs,zcw hm<|zD.right<|zD.left h1,hB,?_⟩;have e1:OS vs fr cx (Qy ⟨ds,[]⟩ x ⟨n,[],[]⟩).ob=XD (fun j=>vs<|n+j) ds x 0++(MS vs cx.ob++fr.F):=by
  show MS vs ((bS n ds x n).2++[])++(MS vs cx.ob++fr.F)=_;rw[xbQ,Dj (U:=fun j=>vs<|n+j) (i:=0) fun j _=>by simp only[xaN]]
 have h2:St fr.we fr.Se (OS vs fr cx (Qy ⟨ds,[]⟩ x ⟨n,[],[]⟩).ob) (GS P vs env fr cx<|Qy ⟨ds,[]⟩ x ⟨n,[],[]⟩) w:=ha;rw[e1]at h2;exact h2.weak fun S w h=>zD.right h
theorem Hr{U:Nat->Value}{a:Nat×TF}:∀{l:List (Nat×TF)}{y:a.2.D}{x:Wh l}{i:Nat},XD U (a::l) (Cv y x) i=ME a.2 y (U i)++XD U l x (i+1)
 |[],y,x,i=>by show ME a.2 y (U i)=_++[];rw[xbQ]
 |_::_,y,x,i=>rfl
theorem aE{U V:Nat->Value}:∀{l:List (Nat×TF)}{x:Wh l}{i k:Nat},(∀j,j<l.length->U (i+j)=V (k+j))->XD U l x i=XD V l x k
 |[],_,_,_,_=>rfl
 |[a],x,i,k,h=>by
  have h0:U i=V k:=h 0 (by simp);show ME a.2 x (U i)=ME a.2 x (V k);rw[h0]
 |a::b::l,x,i,k,h=>by
  have h0:U i=V k:=h 0 (by simp);show ME a.2 x.1 (U i)++XD U (b::l) x.2 (i+1)=ME a.2 x.1 (V k)++XD V (b::l) x.2 (k+1);rw[h0,aE (l:=b::l) (x:=x.2) (i:=i+1) (k:=k+1) fun j hj=>by
   have:=h (j+1) (by simpa using hj);rw[show i+1+j=i+(j+1)by lia,show k+1+j=k+(j+1)by lia];exact this]
theorem zbx{a:Nat×TF}:∀{l:List (Nat×TF)} (z:Wh (a::l)),z=Cv (bW z).1 (bW z).2
 |[],_=>rfl
 |_::_,_=>rfl
theorem Eg{we:World}{Se:Nat->Prop}{A B:List MF}{G:List FF}{l:Nat}{m m':MF}{o:Obj}(h:Zc P ⟨we,Se,A++m::B,G⟩ cx σ env w)(hb:∀k,m.blk k↔k=l)(ha:∀k,m'.blk k->k=l)(hp:∀S w',w'.heap[l]? =some o->m'.p S w'):Zc P ⟨we,Se,A++m'::B,G⟩ cx σ env (w.putObj l o):=by
 obtain⟨hB,vs,hc⟩:=h;refine⟨hB,vs,?_⟩;have h1:St we Se ((MS vs σ.ob++(MS vs cx.ob++A))++m::B) (GS P vs env ⟨we,Se,A++m::B,G⟩ cx σ) w:=by
  have:St we Se (MS vs σ.ob++(MS vs cx.ob++(A++m::B))) (GS P vs env ⟨we,Se,A++m::B,G⟩ cx σ) w:=hc;simpa only[xaj]using this
 have h2:=St.putObj (St.mid h1) hb ha hp;have h3:St we Se ((MS vs σ.ob++(MS vs cx.ob++A))++m'::B) (GS P vs env ⟨we,Se,A++m::B,G⟩ cx σ) (w.putObj l o):=h2.perm xcu.symm;show St we Se (MS vs σ.ob++(MS vs cx.ob++(A++m'::B))) _ _;simpa only[xaj]using h3
theorem zby{n:Nat}{S:Nat->Prop}:∀{ds:List (Nat×TF)}{i:Nat},KB ds=true->(∀(j t:Nat) (f:TF),ds[j]? =some (t,f)->gL f (env t) (vs<|n+(i+j)))->zD S (RS P vs env<|nV ds<|n+i) w
 |[],_,_,_=>trivial
 |(t,f)::r,i,hm,h=>by
  have h0:=h 0 t f rfl;have ih:KB r=true->zD S (RS P vs env<|nV r<|n+i+1) w:=fun hm=>zby (i:=i+1) hm fun j t f hj=>by
   have:=h (j+1) t f (by simpa using hj);rw[show i+1+j=i+(j+1)by lia];exact this
  cases f<;>simp only[KB,xak]at hm
  ·exact⟨h0,ih hm⟩
  ·exact⟨h0.1,ih hm⟩
  ·exact⟨h0,ih hm⟩
  ·exact⟨h0,ih hm⟩
theorem Lu:∀{ds:List (Nat×TF)}{n:Nat},∀e∈nV ds n,∀o,wu e.2.2=some o->o<n+ds.length
 |[],_,e,he=>absurd he IR
 |(t,f)::r,n,e,he=>by
  intro o ho;have ih:e∈nV r (n+1)->o<n+((t,f)::r).length:=fun he=>by
   have:=Lu e he o ho;simp only[xaq];lia
  cases f<;>rcases xad.1 he with rfl|he<;>first|exact ih he|(cases ho;simp only[xaq];lia)
theorem pT:∀{ds:List (Nat×TF)}{n j t:Nat}{f:TF},ds[j]? =some (t,f)->∃e∈nV ds n,e.1=t
 |[],_,_,_,_,h=>by simp at h
 |(t',f')::r,n,0,t,f,h=>by
  simp only[xbE,xay,xcx]at h;obtain⟨rfl,rfl⟩:=h;cases f'<;>exact⟨_,FS,rfl⟩
 |(t',f')::r,n,j+1,t,f,h=>by
  obtain⟨e,he,h1⟩:=pT (ds:=r) (n:=n+1) (j:=j) (t:=t) (f:=f) (by simpa using h);cases f'<;>exact⟨e,UV _ he,h1⟩
theorem zdN{a:Nat×TF}{ds:List (Nat×TF)}(h:zcY (a::ds)=true){j t:Nat}{f:TF}(hj:ds[j]? =some (t,f)):t≠a.1:=by
 simp only[zcY,TU,xam,xaS]at h;have:=h.1 (t,f)<|xbx hj;intro e;subst e;simp at this
end
end
section
def CG(P:Program)(cf:Cf)(n:Nat)(c:Code):Prop:=∀{R:Type}{r:R}{fr:Fr}{cx σ:Sg}{K:Tg->Sg->Option R}{Q:Qd}{N:Nd},N.n=n->(N.rd=none\/ED c=true)->aR cf c cx σ K=some r->∀{Ds:List Nat}{env:yR}{w:World},
 (∀t σ',K t σ'=some r->∀Ds' env' w',eW cx env env'->Zc P (fr.wd Ds') cx σ' env' w'->Q (tgE t) Ds' env' w')->Zc P (fr.wd Ds) cx σ env w->Fm P N c Q Ds env w
def zj3:Value->List Value
 |.tuple us=>us.toList
 |_=>[]
def ZY(u:Value)(k:Nat):Value:=(zj3 u).getD k undef
def Ga(vs:Nat->Value)(m:Nat):Value:=.tuple ((xbb m).map vs).toArray
theorem zdH{vs:Nat->Value}{m k:Nat}(h:k<m):ZY (Ga vs m) k=vs k:=by
 simp[ZY,Ga,zj3,H1,h]
def tgC:Tg->Code
 |.n=> .skip
 |.x i=> .exit i
 |.r=> .ret
section
variable{P:Program}{cf:Cf}{fr:Fr}{cx cx' kp σ:Sg}{vs vs':Nat->Value}{env env':yR}{w:World}{we:World}{Se:Nat->Prop}{F:List MF}{G:List FF}{n D l:Nat}{ds:List (Nat×TF)}{x:Wh ds}{u:Value}{rc:Loop}
def RI(P:Program)(env:yR)(cx':Sg)(n:Nat)(ds:List (Nat×TF))(D l:Nat)(rc:Loop)(x:Wh ds)(u:Value):MF:=
 GG (mPr (Qf ds env fun j=>ZY u<|n+j)::mFF (RS P (ZY u) env cx'.rg)::KA l rc::wM D::(XD (fun j=>ZY u<|n+j) ds x 0++MS (ZY u) cx'.ob))
theorem PR(h:St we Se (RI P env cx' n ds D l rc x u::F) G w):Qf ds env (fun j=>ZY u<|n+j)/\St we Se (KA l rc::wM D::(XD (fun j=>ZY u<|n+j) ds x 0++(MS (ZY u) cx'.ob++F))) (RS P (ZY u) env cx'.rg++G) w:=by
 obtain⟨h1,h2⟩:=St.unpr<|St.grp.1 h;refine⟨h1,?_⟩;have h3:=St.ffOut (show St we Se (mFF (RS P (ZY u) env cx'.rg)::(KA l rc::wM D::(XD (fun j=>ZY u<|n+j) ds x 0++MS (ZY u) cx'.ob)++F)) G w from h2);simpa only[xbI,xaj]using h3
theorem zcL(ha:Qf ds env fun j=>vs<|n+j)(ho:∀e∈cx'.ob,e.1<n)(hr:∀e∈cx'.rg,∀o,wu e.2.2=some o->o<n)(h:St we Se (KA l rc::wM D::(XD (fun j=>vs<|n+j) ds x 0++(MS vs cx'.ob++F))) (RS P vs env cx'.rg++G) w):
 St we Se (RI P env cx' n ds D l rc x (Ga vs<|n+ds.length)::F) G w:=by
 have e0:∀k,k<n+ds.length->ZY (Ga vs<|n+ds.length) k=vs k:=fun k hk=>zdH hk;have e1:RS P (ZY<|Ga vs<|n+ds.length) env cx'.rg=RS P vs env cx'.rg:=qU (fun e he o ho=>e0 o (by have:=hr e he o ho;lia)) fun _ _=>rfl;have e2:MS (ZY<|Ga vs<|n+ds.length) cx'.ob=MS vs cx'.ob:=wa fun e he=>e0 e.1 (by have:=ho e he;lia);have e3:XD (fun j=>ZY (Ga vs<|n+ds.length)<|n+j) ds x 0=XD (fun j=>vs<|n+j) ds x 0:=aE fun j hj=>e0 _ (by lia);refine St.grp.2<|St.pr ?_ ?_
 ·intro j t f hj;have:=(xau.1 hj).1;show gL f (env t) (ZY (Ga vs<|n+ds.length)<|n+j);rw[e0 _<|by lia];exact ha j t f hj
 ·have h2:St we Se (mFF (RS P vs env cx'.rg)::(KA l rc::wM D::(XD (fun j=>vs<|n+j) ds x 0++MS vs cx'.ob)++F)) G w:=St.ffIn (by simpa only[xbI,xaj]using h);rw[e1,e2,e3];exact h2
theorem Ep{m:MF}{p:Prop}(h:Zc P fr cx σ env w)(hm:m∈fr.F)(hp:∀S,m.p S w->p):p:=by
 obtain⟨_,vs,_,_,_,S,_,_,_,h7,_⟩:=h;exact hp S<|ur.1 h7 m<|Nm.2 (.inr<|Nm.2 (.inr hm))
theorem ze7{it:Ba}{pt:Nat}{τ:Tg}{a c:Code}{N:Nat}{fn:FuncId}{tmps:Array Value}(hA:CG P cf N a)(hC:CG P cf N c)(hV:ED a=true)(hW:ED c=true)(hpt:pt<N)(hX:tmps.size=N)(hN:yz ⟨tmps,[]⟩=env)(hm:KB ds=true)
 (hY:zcY (jC pt it.t it.E ds).ds=true) (hH:Yf cx'.rg pt=true) (ho:∀e∈cx'.ob,e.1<n) (hr:∀e∈cx'.rg,∀o,wu e.2.2=some o->o<n):
 HV P l it.t.rep it.E (fun x u=>RI P env cx' n ds D l {state:=.ready,pending:=none,fn:=fn,tmps:=tmps,params:= #[pt],assign:=a,body:=c,defers:=D} x u)
  (fun x u=>RI P env cx' n ds D l {state:=.done,pending:=some<|tgC τ,fn:=fn,tmps:=tmps,params:= #[pt],assign:=a,body:=c,defers:=D} x u)
  (zj0 cx' n ds it.t it.E pt τ (fun cx σ K=>aR cf a cx σ K) fun cx σ K=>aR cf c cx σ K):=by
 obtain⟨rR,hg⟩:∃rR:Loop,rR={state:=.ready,pending:=none,fn:=fn,tmps:=tmps,params:= #[pt],assign:=a,body:=c,defers:=D}:=⟨_,rfl⟩;obtain⟨rB,hF⟩:∃rB:Loop,rB={rR with state:=.busy}:=⟨_,rfl⟩;rw[<-hg];intro ys x ys' q hq v u we Se F G w hZ;obtain⟨h0,h1⟩:=PR hZ;have hl:w.heap[l]? =some (.loop rR):=xV h1 (i:=0) rfl fun S hp=>hp;have hy:=run_yield (P:=P) (args:= #[v]) hl (by rw[hg];rfl);refine⟨fn,tmps.setIfInBounds pt v,a,c,by rw[hg]at hy;simpa using hy,roundIn_of_wpIn trivial ?_⟩;obtain⟨sh,hv⟩:∃sh,sh=jC pt it.t it.E ds:=⟨_,rfl⟩;have hlen:sh.ds.length=ds.length+1:=by rw[hv];rfl
 have hG:KB sh.ds=true:=by rw[hv];exact hm
 obtain⟨cp,hb⟩:∃cp,cp=cpR cx' n sh:=⟨_,rfl⟩;have hO:∀{j t:Nat}{f:TF},ds[j]? =some (t,f)->t≠pt:=fun hj=>zdN (a:=(pt,.own it.t it.E)) hY hj;obtain⟨env1,hi⟩:∃env1,env1=put env (some pt) v:=⟨_,rfl⟩;have e_pt:env1 pt=v:=by rw[hi];exact pJ
 have e_ne:∀t,t≠pt->env1 t=env t:=fun t ht=>by rw[hi];exact cX<|fun e=>ht<|by cases e;rfl
 have e_cx:∀e∈cx'.rg,env1 e.1=env e.1:=fun e he=>e_ne e.1 fun h=>by
  simp only[Yf,xaS]at hH;have:=hH e he;rw[h]at this;simp at this
 obtain⟨vs1,hx⟩:∃vs1:Nat->Value,vs1=fun k=>if k<n then ZY u k else if k=n then v else ZY u (k-1):=⟨_,rfl⟩;have v_lo:∀k,k<n->vs1 k=ZY u k:=fun k hk=>by rw[hx];exact iq hk
 have v_n:vs1 n=v:=by rw[hx];simp
 have v_hi:∀j,vs1 (n+(j+1))=ZY u (n+j):=fun j=>by
  rw[hx];simp only;rw[zC,zC,show n+(j+1)-1=n+j by lia]
 have hI:Qf sh.ds env1 fun j=>vs1 (n+j):=by
  rw[hv];intro j t f hj
  cases j with
  |zero=>
   simp only[jC,xbE,xay,xcx]at hj;obtain⟨rfl,rfl⟩:=hj;show env1 pt=vs1 (n+0);rw[e_pt,xbS,v_n]
  |succ j=>
   have hj:ds[j]? =some (t,f):=by simpa[jC]using hj
   show gL f (env1 t) (vs1<|n+(j+1));rw[v_hi,e_ne t<|hO hj];exact h0 j t f hj
 have hB:Bd cp ⟨n+sh.ds.length,[],[]⟩:=by
  rw[hb];refine⟨fun _ he=>absurd he IR,fun e he=> ?_,fun _ he=>absurd he IR,fun e he o hd=> ?_⟩
  ·have:=ho e he;show e.1<n+_;lia
  ·show o<n+_;rcases Nm.1 (show e∈nV sh.ds n++cx'.rg from he)with he|he
   ·exact Lu e he o hd
   ·have:=hr e he o hd;lia
 have h9:Zc P (Fr.wd ⟨we,Se,KA l rR::wM D::F,G⟩ []) cp (Qy sh (hv▸Cv (a:=(pt,.own it.t it.E)) ys x) ⟨n,[],[]⟩) env1 w:=by
  subst hv;refine SR (vs:=vs1) (kp:=⟨n,[],[]⟩) hG hI (zfV hG (fun _ he=>absurd he IR) (fun e he=>hB.o2 e he) (fun _ he=>absurd he IR) fun e he o hd=>hB.r2 e he o hd) ?_;have e1:XD (fun j=>vs1<|n+j) (jC pt it.t it.E ds).ds (Cv (a:=(pt,.own it.t it.E)) ys x) 0=mO it.t.rep it.E v ys::XD (fun j=>ZY u<|n+j) ds x 0:=by
   refine(Hr (U:=fun j=>vs1<|n+j) (a:=(pt,.own it.t it.E)) (l:=ds) (y:=ys) (x:=x) (i:=0)).trans ?_;show mO it.t.rep it.E (vs1<|n+0) ys::XD _ ds x (0+1)=_;rw[xbS,v_n,aE (U:=fun j=>vs1<|n+j) (V:=fun j=>ZY u<|n+j) (i:=0+1) (k:=0) fun j _=>by
    show vs1 (n+(0+1+j))=ZY u (n+(0+j));rw[show 0+1+j=j+1 by lia,v_hi,xaN]]
  have e2:MS vs1 cp.ob=MS (ZY u) cx'.ob:=by rw[hb];exact wa fun e he=>v_lo _<|ho e he
  show St we Se (XD (fun j=>vs1<|n+j) (jC pt it.t it.E ds).ds (Cv (a:=(pt,.own it.t it.E)) ys x) 0++([]++(MS vs1 cp.ob++([]++(KA l rR::wM D::F))))) ([]++(RS P vs1 env1 cp.rg++G)) w;rw[e1,e2];have h2:St we Se (mO it.t.rep it.E v ys::XD (fun j=>ZY u<|n+j) ds x 0++([]++(MS (ZY u) cx'.ob++([]++(KA l rR::wM D::F))))) (RS P (ZY u) env cx'.rg++G) w:=by
   refine h1.perm ?_;simp only[xbA,xbI];have p1:(KA l rR::wM D::(XD (fun j=>ZY u<|n+j) ds x 0++(MS (ZY u) cx'.ob++mO it.t.rep it.E v ys::F))).Perm (mO it.t.rep it.E v ys::(KA l rR::wM D::(XD (fun j=>ZY u<|n+j) ds x 0++(MS (ZY u) cx'.ob++F)))):=by
    have:=xcu (a:=mO it.t.rep it.E v ys) (l₁:=KA l rR::wM D::(XD (fun j=>ZY u<|n+j) ds x 0++MS (ZY u) cx'.ob)) (l₂:=F);simpa only[xbI,xaj]using this
   refine p1.trans<|List.Perm.cons _ ?_;have p2:([KA l rR,wM D]++((XD (fun j=>ZY u<|n+j) ds x 0++MS (ZY u) cx'.ob)++F)).Perm ((XD (fun j=>ZY u<|n+j) ds x 0++MS (ZY u) cx'.ob)++([KA l rR,wM D]++F)):=xdE ..;simpa only[xbI,xaj,xbA]using p2
  refine h2.weak (Δ:=RS P vs1 env1 cp.rg++G) fun S w ha=>zD.append ?_<|zD.right ha;rw[hb];show zD S (RS P vs1 env1<|nV (jC pt it.t it.E ds).ds n++cx'.rg) w;rw[aq];refine zD.append (zby (i:=0) hG fun j t f hj=>by rw[xaN];exact hI j t f hj) ?_;rw[qU (vs:=ZY u) (env:=env) (fun e he o hd=>v_lo o<|hr e he o hd) e_cx];exact zD.left ha
 obtain⟨N1,hw⟩:∃N1:Nd,N1=⟨N,[],some l⟩:=⟨_,rfl⟩;have hP:(⟨tmps.setIfInBounds pt v,[]⟩:Act).tmps.size=N1.n:=by rw[hw];simpa using hX
 have hQ:yz ⟨tmps.setIfInBounds pt v,[]⟩=env1:=by
  have:=Yq (a:=⟨tmps,[]⟩) (d:=some pt) (v:=v) (fun t ht=>by cases ht;show pt<tmps.size;lia);rw[hi,<-hN];exact this
 subst hv
 have h':=hA (N:=N1) (fr:=⟨we,Se,KA l rR::wM D::F,G⟩) (Ds:=[]) (by rw[hw]) (.inr hV) (show aR cf a cp _ _=some (ys',q)from by rw[hb];exact hq)
  (Q:=fun e Ds' env' w'=>e=.normal/\∃σ',aR cf c cp σ' (zgC cp ds it.t it.E pt τ)=some (ys',q)/\eW cp env1 env'/\Zc P (Fr.wd ⟨we,Se,KA l rR::wM D::F,G⟩ Ds') cp σ' env' w')
  (fun t σ' hk Ds' env' w' hs hR=>by
   cases t with
   |n=>exact⟨rfl,σ',by rw[hb];exact hk,hs,hR⟩
   |x i=>cases hk
   |r=>cases hk) h9
 have hS:=h' ⟨tmps.setIfInBounds pt v,[]⟩ hP rfl hQ;rw[hw]at hS;refine wpIn_mono hS ?_;rintro e a1 w1 ⟨q1,Ds',q2,rfl,σ',hk,hs,hR⟩;have hl1:w1.heap[l]? =some (.loop rR):=Ep hR (m:=KA l rR) (Nm.2 (.inr<|FS)) fun S hp=>hp;refine⟨w1.putObj l (.loop rB),by rw[hF];exact run_beginRound hl1 (by rw[hg]),?_⟩;have hR1:Zc P (Fr.wd ⟨we,Se,KA l rB::wM D::F,G⟩ Ds') cp σ' (yz a1) (w1.putObj l (.loop rB)):=Eg (A:=Ds'.map wM) (m:=KA l rR) (m':=KA l rB) (B:=wM D::F) hR (fun k=>Iff.rfl) (fun k h=>h) fun S w' h=>h
 have hwC:=hC (N:=N1) (fr:=⟨we,Se,KA l rB::wM D::F,G⟩) (Ds:=Ds') (by rw[hw]) (.inr hW) hk
  (Q:=fun e Ds'' env' w'=>∃t σ'',e=tgE t/\zgC cp ds it.t it.E pt τ t σ''=some (ys',q)/\eW cp (yz a1) env'/\Zc P (Fr.wd ⟨we,Se,KA l rB::wM D::F,G⟩ Ds'') cp σ'' env' w')
  (fun t σ'' hk Ds'' env' w' hs hR=>⟨t,σ'',rfl,hk,hs,hR⟩) hR1
 have hT:=hwC a1 (by rw[hw];exact q1) q2 rfl;rw[hw]at hT;refine wpIn_mono hT ?_;rintro e a2 w2 ⟨p1,Ds'',p2,t,σ'',rfl,hc,hs2,hn⟩;have hL:w2.heap[l]? =some (.loop rB):=Ep hn (m:=KA l rB) (Nm.2 (.inr<|FS)) fun S hp=>hp;have hM:=hs.trans hs2
 have close:∀(z:Wh (jC pt it.t it.E ds).ds) (rc:Loop),Zc P (Fr.wd ⟨we,Se,KA l rB::wM D::F,G⟩ Ds'') cp (Qy (jC pt it.t it.E ds) z ⟨n+(jC pt it.t it.E ds).ds.length,[],[]⟩) (yz a2) w2->
  ∃u',St we Se (RI P env cx' n ds D l rc (bW z).2 u'::mO it.t.rep it.E v (bW z).1::F) G (w2.putObj l (.loop rc)):=by
  intro z rc hu;have hRp:=Eg (A:=Ds''.map wM) (m:=KA l rB) (m':=KA l rc) (B:=wM D::F) hu (fun k=>Iff.rfl) (fun k h=>h) (o:=.loop rc) fun S w' h=>h;obtain⟨vs2,hD,hB2,hJ⟩:=Pc (ds:=(jC pt it.t it.E ds).ds) hG hRp;obtain⟨m,hm2⟩:∃m,m=n+(jC pt it.t it.E ds).ds.length:=⟨_,rfl⟩;rw[<-hm2]at hD hJ;have z0:vs2 m=v:=by
   have h2:yz a2 pt=vs2 (m+0):=hD 0 pt (.own it.t it.E) rfl;obtain⟨e,he,h3⟩:=pT (ds:=(jC pt it.t it.E ds).ds) (n:=n) (j:=0) (t:=pt) (f:=.own it.t it.E) rfl;have h4:=hM e (by rw[hb];exact Nm.2 (.inl he));rw[h3,e_pt]at h4;rw[xbS]at h2;exact h2.symm.trans h4
  obtain⟨vs3,hK⟩:∃vs3:Nat->Value,vs3=fun k=>if k<n then vs2 k else vs2 (m+1+(k-n)):=⟨_,rfl⟩;have w_lo:∀k,k<n->vs3 k=vs2 k:=fun k hk=>by rw[hK];exact iq hk
  have w_hi:∀j,vs3 (n+j)=vs2 (m+(j+1)):=fun j=>by
   rw[hK];simp only;rw[zC,show m+1+(n+j-n)=m+(j+1)by lia]
  have hU:Qf ds env fun j=>vs3 (n+j):=by
   intro j t f hj;have h2:=hD (j+1) t f (by simpa[jC]using hj);obtain⟨e,he,h3⟩:=pT (ds:=(jC pt it.t it.E ds).ds) (n:=n) (j:=j+1) (t:=t) (f:=f) (by simpa[jC]using hj);have h4:=hM e (by rw[hb];exact Nm.2 (.inl he));rw[h3,e_ne t<|hO hj]at h4;show gL f (env t) (vs3<|n+j);rw[w_hi,<-h4];exact h2
  refine⟨_,zcL (F:=mO it.t.rep it.E v (bW z).1::F) hU ho hr ?_⟩;have e1:XD (fun j=>vs2<|m+j) (jC pt it.t it.E ds).ds z 0=mO it.t.rep it.E v (bW z).1::XD (fun j=>vs3<|n+j) ds (bW z).2 0:=by
   refine(congrArg (fun z=>XD (fun j=>vs2<|m+j) (jC pt it.t it.E ds).ds z 0)<|zbx (a:=(pt,.own it.t it.E)) (l:=ds) z).trans ?_;refine(Hr (U:=fun j=>vs2<|m+j) (a:=(pt,.own it.t it.E)) (l:=ds) (y:=(bW (a:=(pt,.own it.t it.E)) z).1) (x:=(bW (a:=(pt,.own it.t it.E)) z).2) (i:=0)).trans ?_;show mO it.t.rep it.E (vs2<|m+0) (bW z).1::XD _ ds (bW z).2 (0+1)=_;rw[xbS,z0,aE (U:=fun j=>vs2<|m+j) (V:=fun j=>vs3<|n+j) (i:=0+1) (k:=0) fun j _=>by
    show vs2 (m+(0+1+j))=vs3 (n+(0+j));rw[show 0+1+j=j+1 by lia,xaN,w_hi]]
  have e2:MS vs2 cp.ob=MS vs3 cx'.ob:=by rw[hb];exact wa fun e he=>(w_lo _<|ho e he).symm
  have h5:St we Se (XD (fun j=>vs2<|m+j) (jC pt it.t it.E ds).ds z 0++(MS vs2 cp.ob++(Ds''.map wM++KA l rc::wM D::F))) (RS P vs2 (yz a2) cp.rg++G) (w2.putObj l (.loop rc)):=hJ;rw[e1,e2]at h5;have h6:St we Se ((mO it.t.rep it.E v (bW z).1::XD (fun j=>vs3<|n+j) ds (bW z).2 0++MS vs3 cx'.ob)++(KA l rc::wM D::F)) (RS P vs2 (yz a2) cp.rg++G) (w2.putObj l (.loop rc)):=St.dropM (B:=Ds''.map wM) (by simpa only[xaj]using h5);have h7:St we Se (KA l rc::wM D::(XD (fun j=>vs3<|n+j) ds (bW z).2 0++(MS vs3 cx'.ob++(mO it.t.rep it.E v (bW z).1::F)))) (RS P vs2 (yz a2) cp.rg++G) (w2.putObj l (.loop rc)):=by
   refine h6.perm ?_;have p1:((XD (fun j=>vs3<|n+j) ds (bW z).2 0++MS vs3 cx'.ob)++([KA l rc,wM D]++F)).Perm ([KA l rc,wM D]++((XD (fun j=>vs3<|n+j) ds (bW z).2 0++MS vs3 cx'.ob)++F)):=xdE ..;have p2:=xcu (a:=mO it.t.rep it.E v (bW z).1) (l₁:=KA l rc::wM D::(XD (fun j=>vs3<|n+j) ds (bW z).2 0++MS vs3 cx'.ob)) (l₂:=F);have p3:=(p1.cons<|mO it.t.rep it.E v (bW z).1).trans (by simpa only[xbI,xaj,xbA]using p2.symm);simpa only[xbI,xaj,xbA]using p3
  refine h7.weak fun S w ha=>zD.append ?_<|zD.right ha;have h8:zD S (RS P vs2 (yz a2)<|nV (jC pt it.t it.E ds).ds n++cx'.rg) w:=by
   have:=zD.left ha;rw[hb]at this;exact this
  rw[aq]at h8;rw[qU (vs:=vs2) (env:=yz a2) (fun e he o hd=>w_lo o<|hr e he o hd) fun e he=> ?_]
  ·exact zD.right h8
  ·have h4:=hM e (by rw[hb];exact Nm.2 (.inr he));rw[e_cx e he]at h4;exact h4.symm
 cases t with
 |n=>
  obtain⟨z,hz,hf⟩:=lO (P:=P) (cx:=cp) (kp:=⟨n+(jC pt it.t it.E ds).ds.length,[],[]⟩) (show ig (jE cp ⟨n+(jC pt it.t it.E ds).ds.length,[],[]⟩) (jC pt it.t it.E ds) σ'' (fun z=>some ((bW z).1,Sum.inl (bW z).2))=some (ys',q)from by rw[hb]at hc⊢;exact hc) hB;cases hz;have hu:=hf (Fr.wd ⟨we,Se,KA l rB::wM D::F,G⟩ Ds'') (yz a2) w2 (by rw[hb]at hn⊢;exact hn);refine⟨_,_,run_endRound none hL,rfl,?_⟩;have hE:({rB with state:=if(none:Option Code).isNone then .ready else .done,pending:=none}:Loop)=rR:=by rw[hF,hg];rfl
  rw[hE];exact close z rR hu
 |x i=>
  obtain⟨ht,hc⟩:=yn hc;obtain⟨z,hz,hf⟩:=lO (P:=P) (cx:=cp) (kp:=⟨n+(jC pt it.t it.E ds).ds.length,[],[]⟩) (show ig (jE cp ⟨n+(jC pt it.t it.E ds).ds.length,[],[]⟩) (jC pt it.t it.E ds) σ'' (fun z=>some ((bW z).1,Sum.inr (bW z).2))=some (ys',q)from by rw[hb]at hc⊢;exact hc) hB;cases hz;have hu:=hf (Fr.wd ⟨we,Se,KA l rB::wM D::F,G⟩ Ds'') (yz a2) w2 (by rw[hb]at hn⊢;exact hn);refine⟨_,_,run_endRound (some (.exit i)) hL,rfl,?_⟩;have hE:({rB with state:=if(some<|Code.exit i).isNone then .ready else .done,pending:=some (.exit i)}:Loop)={state:=.done,pending:=some<|tgC τ,fn:=fn,tmps:=tmps,params:= #[pt],assign:=a,body:=c,defers:=D}:=by rw[hF,hg,N5 ht];rfl
  rw[hE];exact close z _ hu
 |r=>
  obtain⟨ht,hc⟩:=yn hc;obtain⟨z,hz,hf⟩:=lO (P:=P) (cx:=cp) (kp:=⟨n+(jC pt it.t it.E ds).ds.length,[],[]⟩) (show ig (jE cp ⟨n+(jC pt it.t it.E ds).ds.length,[],[]⟩) (jC pt it.t it.E ds) σ'' (fun z=>some ((bW z).1,Sum.inr (bW z).2))=some (ys',q)from by rw[hb]at hc⊢;exact hc) hB;cases hz;have hu:=hf (Fr.wd ⟨we,Se,KA l rB::wM D::F,G⟩ Ds'') (yz a2) w2 (by rw[hb]at hn⊢;exact hn);refine⟨_,_,run_endRound (some .ret) hL,rfl,?_⟩;have hE:({rB with state:=if(some Code.ret).isNone then .ready else .done,pending:=some .ret}:Loop)={state:=.done,pending:=some<|tgC τ,fn:=fn,tmps:=tmps,params:= #[pt],assign:=a,body:=c,defers:=D}:=by rw[hF,hg,N5 ht];rfl
  rw[hE];exact close z _ hu
end
end
section
section
variable{P:Program}{cf:Cf}{fr:Fr}{cx σ:Sg}{env:yR}{w:World}{R:Type}{r:R}
theorem zei(hX:Ak P cf){g:Operand}{a c:Code}{N:Nd}{K:Tg->Sg->Option R}{Q:Qd}{s:Lp}{it:Ba}{y:UI it.dom}{τ:Tg}{pt:Nat}{ags:List Nat}{cs:List PD}{Ds:List Nat}
 (hA:CG P cf N.n a) (hC:CG P cf N.n c) (hP:ED a=true) (hQ:ED c=true) (hS:N.rd=none) (hT:pt<N.n) (hg:x8 cx σ g=some (.fn it.f cs)) (hU:it∈cf.is) (hy:Kh it.dom cs=some y) (hv:s.hd.ns=[])
 (h:Me cx σ K s it y τ pt ags (fun cx σ K=>aR cf a cx σ K) (fun cx σ K=>aR cf c cx σ K)=some r)
 (hK:∀t σ',K t σ'=some r->∀Ds' env' w',eW cx env env'->Zc P (fr.wd Ds') cx σ' env' w'->Q (tgE t) Ds' env' w') (hR:Zc P (fr.wd Ds) cx σ env w):Fm P N (.rangeFunc g #[pt] a c) Q Ds env w:=by
 obtain⟨⟨ds,ns⟩,sg⟩:=s;simp only at hv;subst hv;obtain⟨h8,hx⟩:=C5 hy;obtain⟨hB,vs,hz⟩:=hR;obtain⟨S0,_,hΓ⟩:=hz.ex;obtain⟨cvs,hD,h7,h9⟩:=zn hg<|z6 hΓ g;have hV:Zc P ⟨fr.we,fr.Se,Ds.map wM++fr.F,ua P it.dom y cvs++fr.G⟩ cx σ env w:=⟨hB,vs,hz.weak fun S w ha=>zD.append (zD.left ha) (zD.append (zD.left<|zD.right ha) (zD.append (by
  obtain⟨cvs',hE,hY,hF⟩:=zn hg<|z6 ha g;rw[hD]at hE;have:cvs=cvs':=by simpa using hE
  subst this;exact hx hY hF) (zD.right (zD.right ha))))⟩
 unfold Me at h;simp only at h;obtain⟨hi,h⟩:=yn h;simp only[xam]at hi;obtain⟨hm,hZ,hl⟩:=hi;obtain⟨hc,hG⟩:=sj (ag:=ags) (ro:=sg.ro) hV;obtain⟨kp,h0⟩:∃kp,kp=keep σ ags sg.ro:=⟨_,rfl⟩;rw[<-h0]at h hc hG hl;obtain⟨x0,h1,h2⟩:=lO (P:=P) (cx:=jE cx kp) (kp:=⟨kp.nx,[],[]⟩) h<|FH hc;obtain⟨r',h3,h4⟩:=rk h1;obtain⟨vs0,hH,h',hI⟩:=Pc (ds:=ds) hm<|h2 _ env w hG;obtain⟨hb,hJ⟩:=hX.is it hU;have ho:∀e∈(jE cx kp).ob,e.1<kp.nx:=fun e he=>by
  rcases Nm.1 he with he|he
  ·exact hc.o1 e he
  ·exact hc.o2 e he
 have hr:∀e∈(jE cx kp).rg,∀o,wu e.2.2=some o->o<kp.nx:=fun e he o hf=>by
  rcases Nm.1 he with he|he
  ·exact hc.r1 e he o hf
  ·exact hc.r2 e he o hf
 intro a0 g1 g2 g3;refine wpIn_rangeFunc ?_;intro fn hfn;rw[show N.F.round=none from hS];obtain⟨rR,hj⟩:∃rR:Loop,rR={state:=.ready,pending:=none,fn:=fn,tmps:=a0.tmps,params:= #[pt],assign:=a,body:=c,defers:=w.heap.size}:=⟨_,rfl⟩;obtain⟨rD,hn⟩:∃rD:Loop,rD={state:=.done,pending:=some<|tgC τ,fn:=fn,tmps:=a0.tmps,params:= #[pt],assign:=a,body:=c,defers:=w.heap.size}:=⟨_,rfl⟩;have hL:=run_enterLoop_outer (P:=P) (w:=w) fn a0.tmps #[pt] a c;rw[<-hj]at hL;have hW:St fr.we fr.Se (KA (w.heap.size+1) rR::wM w.heap.size::(XD (fun j=>vs0<|kp.nx+j) ds x0 0++(MS vs0 (jE cx kp).ob++(Ds.map wM++fr.F)))) (RS P vs0 env (jE cx kp).rg++(ua P it.dom y cvs++fr.G)) ((w.alloc (.deferred<|some [])).alloc (.loop rR)):=by
  have q1:=St.allocObj (o:=.deferred<|some []) (m:=wM w.heap.size) hI (fun k hk=>hk)<|fun S w' hw=>hw;have hM:(w.alloc (.deferred<|some [])).heap.size=w.heap.size+1:=World.size_alloc ..;refine St.allocObj (o:=.loop rR) (m:=KA (w.heap.size+1) rR) q1 (fun k hk=>by rw[hM];exact hk)<|fun S w' hw=> ?_;rw[hM]at hw;exact hw
 have h5:=zcL (x:=x0) hH ho hr hW;have hN:=ze7 (P:=P) (cf:=cf) (cx':=jE cx kp) (env:=env) (n:=kp.nx) (D:=w.heap.size) (l:=w.heap.size+1) (ds:=ds) (it:=it) (pt:=pt) (τ:=τ) (a:=a) (c:=c) (N:=N.n) (fn:=fn) (tmps:=a0.tmps) hA hC hP hQ hT g1 g3 hm hZ hl ho hr;rw[<-hj,<-hn]at hN;have hq:=hJ y _ _ _ _ _ x0 r' h3 (w.heap.size+1) cvs (by lia) hN _ fr.we fr.Se _ fr.G _ h5
 have close:∀(rc:Loop) (x:Wh ds) (u':Value) (w3:World),St fr.we fr.Se (RI P env (jE cx kp) kp.nx ds w.heap.size (w.heap.size+1) rc x u'::(Ds.map wM++fr.F)) fr.G w3->
  w3.heap[w.heap.size+1]? =some (.loop rc)/\∀o,Zc P (fr.wd (w.heap.size::Ds)) cx (Qy ⟨ds,[]⟩ x kp) env (w3.putObj (w.heap.size+1) (.loop o)):=by
  intro rc x u' w3 hs;obtain⟨h6,q1⟩:=PR hs;refine⟨xV q1 (i:=0) rfl fun S hp=>hp,fun o=> ?_⟩;have q2:=St.putObj (m':=KA (w.heap.size+1) o) (o:=.loop o) q1 (fun k=>Iff.rfl) (fun k hk=>hk)<|fun S w' hw=>hw;have q3:St fr.we fr.Se ([wM w.heap.size]++(XD (fun j=>ZY u'<|kp.nx+j) ds x 0++(MS (ZY u') (jE cx kp).ob++(Ds.map wM++fr.F)))) (RS P (ZY u') env (jE cx kp).rg++fr.G) (w3.putObj (w.heap.size+1) (.loop o)):=St.drop (i:=0) q2;refine SR (vs:=ZY u') hm h6 (zfV hm (fun e he=>xal (hc.o1 e he)<|xbO _ _) (fun e he=>xal (hc.o2 e he)<|xbO _ _) (fun e he o hf=>xal (hc.r1 e he o hf)<|xbO _ _) fun e he o hf=>xal (hc.r2 e he o hf)<|xbO _ _) ?_;have e1:MS (ZY u') (jE cx kp).ob=MS (ZY u') kp.ob++MS (ZY u') cx.ob:=xbg;have e2:RS P (ZY u') env (jE cx kp).rg=RS P (ZY u') env kp.rg++RS P (ZY u') env cx.rg:=xbg;rw[e1,e2]at q3;have q4:St fr.we fr.Se ((XD (fun j=>ZY u'<|kp.nx+j) ds x 0++(MS (ZY u') kp.ob++MS (ZY u') cx.ob))++([wM w.heap.size]++(Ds.map wM++fr.F))) ((RS P (ZY u') env kp.rg++RS P (ZY u') env cx.rg)++fr.G) (w3.putObj (w.heap.size+1) (.loop o)):=by
   refine q3.perm ?_;rw[<-xaj<|XD _ _ _ _];exact xdE ..
  show St fr.we fr.Se (XD _ ds x 0++(MS (ZY u') kp.ob++(MS (ZY u') cx.ob++((wM w.heap.size::Ds.map wM)++fr.F)))) (RS P (ZY u') env kp.rg++(RS P (ZY u') env cx.rg++fr.G)) _;simpa only[xaj,xbI,xbA]using q4
 refine⟨w.heap.size+1,[mkD w.heap.size],((w.alloc (.deferred<|some [])).alloc (.loop rR)),{target:=.fn (.func it.f) cvs.toArray,args:= #[.func (.yield<|w.heap.size+1) #[] #[]]},((w.alloc (.deferred<|some [])).alloc (.loop rR)),it.f,#[.func (.yield<|w.heap.size+1) #[] #[]]++cvs.toArray,((w.alloc (.deferred<|some [])).alloc (.loop rR)),hL,?_,fun _ _=>trivial,?_,fun e=>by simp[Nd.F,xfU]at e,?_⟩
 ·have:a0.eval g=.func (.func it.f) #[] cvs.toArray:=by rw[aI,g3];exact hD
  simp only[resolve,this];simp[go_sem]
 ·simp[invoke,go_sem,kS hb]
 ·have ht:(#[.func (.yield<|w.heap.size+1) #[] #[]]++cvs.toArray:Array Value)=(Value.func (.yield<|w.heap.size+1) #[] #[]::cvs).toArray:=by simp
  rw[ht];refine CallsIn.mono (callsIn_wide.2 hq) ?_;rintro e w3 ⟨⟨v,rfl⟩,u',hs⟩
  cases hO:r' with
  |inl x=>
   rw[hO]at hs h4;obtain⟨hu,hd⟩:=close rR x u' w3 hs;refine⟨none,_,by have:=run_endLoop (P:=P) hu (by rw[hj];simp);rw[hj]at this;exact this,?_⟩;exact⟨g1,w.heap.size::Ds,by show[mkD w.heap.size]++a0.defers=_;rw[g2];rfl,hK .n _ h4 _ _ _ (by rw[<-g3];exact eW.refl)<|by rw[<-g3]at hd;exact hd _⟩
  |inr x=>
   rw[hO]at hs h4;obtain⟨hu,hd⟩:=close rD x u' w3 hs;refine⟨some<|tgC τ,_,by have:=run_endLoop (P:=P) hu (by rw[hn];simp);rw[hn]at this;exact this,?_⟩;have fin:∀o,zfR N Q (tgE τ) {a0 with defers:=[mkD w.heap.size]++a0.defers} (w3.putObj (w.heap.size+1) (.loop o)):=fun o=>⟨g1,w.heap.size::Ds,by show[mkD w.heap.size]++a0.defers=_;rw[g2];rfl,hK τ _ h4 _ _ _ (by rw[<-g3];exact eW.refl)<|by rw[<-g3]at hd;exact hd _⟩
   cases τ with
   |n=>exact wpIn_skip<|fin _
   |x i=>exact wpIn_exit<|fin _
   |r=>exact wpIn_ret<|fin _
end
end
section
section
variable{P:Program}{cf:Cf}
theorem Ye(hm:P.follows .mixedOrders=true)(hT:y4 P cf.tt)(hL:jT P cf.tt)(hC:∀s∈cf.cs,y9 P s)(hX:Ak P cf){n:Nat}:∀(c:Code),MA n c=true->CG P cf n c
 |.skip,_,R,r,fr,cx,σ,K,Q,N,hN,ha,h,Ds,env,w,hK,hR=>fun _ h1 h2 h3=>wpIn_skip ⟨h1,Ds,h2,h3▸hK .n σ h Ds env w eW.refl hR⟩
 |.label _,_,R,r,fr,cx,σ,K,Q,N,hN,ha,h,Ds,env,w,hK,hR=>fun _ h1 h2 h3=>wpIn_label ⟨h1,Ds,h2,h3▸hK .n σ h Ds env w eW.refl hR⟩
 |.exit id,_,R,r,fr,cx,σ,K,Q,N,hN,ha,h,Ds,env,w,hK,hR=>fun _ h1 h2 h3=>wpIn_exit ⟨h1,Ds,h2,h3▸hK (.x id) σ h Ds env w eW.refl hR⟩
 |.ret,_,R,r,fr,cx,σ,K,Q,N,hN,ha,h,Ds,env,w,hK,hR=>fun _ h1 h2 h3=>wpIn_ret ⟨h1,Ds,h2,h3▸hK .r σ h Ds env w eW.refl hR⟩
 |.scope c,ho,R,r,fr,cx,σ,K,Q,N,hN,ha,h,Ds,env,w,hK,hR=>by
  refine R9<|Ye hm hT hL hC hX c ho (K:=K) hN ha h (fun t σ' hk Ds' env' w' hs hR=> ?_) hR;have:=hK t σ' hk Ds' env' w' hs hR;cases t<;>exact this
 |.region id ops dr,ho,R,r,fr,cx,σ,K,Q,N,hN,ha,h,Ds,env,w,hK,hR=>by
  subst hN;refine zib ?_;have:=zab (id:=id) (N:=N.wd Ds) (fr:=fr.wd Ds) hm hT hL hC hX (Q:=fun e env w=>Q e Ds env w) (k:=fun σ=>K .n σ) (fun σ' hk env' w' hs hR=>hK .n σ' hk Ds env' w' hs hR) ho h hR;rwa[xdh]at this
 |.cond c a b,ho,R,r,fr,cx,σ,K,Q,N,hN,ha,h,Ds,env,w,hK,hR=>by
  have ho:=(xam _ _).mp ho;have hd:N.rd=none\/ED a=true:=ha.imp id fun h=>((xam _ _).mp h).1;have hf:N.rd=none\/ED b=true:=ha.imp id fun h=>((xam _ _).mp h).2;simp only[aR]at h;obtain⟨hB,vs,ht⟩:=hR;have hR:Zc P (fr.wd Ds) cx σ env w:=⟨hB,vs,ht⟩;obtain⟨S,_,hΓ⟩:=ht.ex;split at h
  ·next hv=>exact tu (zn hv<|z6 hΓ c)<|Ye hm hT hL hC hX a ho.1 hN hd h hK hR
  ·next hv=>exact rP (zn hv<|z6 hΓ c)<|Ye hm hT hL hC hX b ho.2 hN hf h hK hR
  ·next x hv=>
   have hx:ev env c=.bool x:=gj<|zn hv<|z6 hΓ c;rcases Hd h with⟨rfl,h⟩|⟨rfl,h⟩
   ·exact tu hx<|Ye hm hT hL hC hX a ho.1 hN hd h hK hR
   ·exact rP hx<|Ye hm hT hL hC hX b ho.2 hN hf h hK hR
  ·cases h
 |.block id c,ho,R,r,fr,cx,σ,K,Q,N,hN,ha,h,Ds,env,w,hK,hR=>by
  refine Cz (Ye hm hT hL hC hX c ho (K:=fun t σ=>match t with
   |.x j=>NI (xao j id) (K .n σ)<|K (.x j) σ
   |t=>K t σ) hN ha h (fun t σ' hk Ds' env' w' hs hR=> ?_) hR)
  cases t with
  |n=>exact hK .n σ' hk Ds' env' w' hs hR
  |r=>exact hK .r σ' hk Ds' env' w' hs hR
  |x j=>
   simp only at hk;show EK id Q (.exit j) Ds' env' w';simp only[EK];cases hb:xao j id<;>rw[hb]at hk
   ·exact hK (.x j) σ' hk Ds' env' w' hs hR
   ·exact hK .n σ' hk Ds' env' w' hs hR
 |.seq a b,ho,R,r,fr,cx,σ,K,Q,N,hN,ha,h,Ds,env,w,hK,hR=>by
  have ho:=(xam _ _).mp ho;have hd:N.rd=none\/ED a=true:=ha.imp id fun h=>((xam _ _).mp h).1;have hf:N.rd=none\/ED b=true:=ha.imp id fun h=>((xam _ _).mp h).2;simp only[aR]at h;split at h
  ·refine oj<|Ye hm hT hL hC hX a ho.1 hN hd h (fun t σ' hk Ds' env' w' hs hR=> ?_) hR
   cases t with
   |n=>exact Ye hm hT hL hC hX b ho.2 hN hf hk (fun t σ2 hi Ds2 env2 w2 hj hn=>hK t σ2 hi Ds2 env2 w2 (hs.trans hj) hn) hR
   |x j=>exact hK (.x j) σ' hk Ds' env' w' hs hR
   |r=>exact hK .r σ' hk Ds' env' w' hs hR
  ·next s hs=>
   obtain⟨x,h1,h2⟩:=rk h;obtain⟨hc,hp⟩:=sj (ag:=Ag a) (ro:=s.ro) hR
   refine oj (zbU (Ye hm hT hL hC hX a ho.1 (Q:=fun e Ds env' w=>∃t σt,e=tgE t/\(match t with
    |.n=>aR cf b cx σt K
    |t=>K t σt)=some r/\eW cx env env'/\Zc P (fr.wd Ds) cx σt env' w) hN hd h1 (fun t σ' hk Ds' env' w' hs hR=> ?_) hp) ?_)
   ·obtain⟨y,σt,e1,e2,e3⟩:=PB (P:=P) hc hk;cases e1
    have e4:=(e2 fun t σ=>match t with
     |.n=>aR cf b cx σ K
     |t=>K t σ).symm.trans h2
    exact⟨t,σt,rfl,by cases t<;>exact e4,fun e he=>hs e<|Nm.2 (.inr he),e3 _ env' w' hR⟩
   ·rintro e Ds' env' w' ⟨t,σt,rfl,hk,hq,hR⟩
    cases t with
    |n=>exact Ye hm hT hL hC hX b ho.2 hN hf hk (fun t σ2 hi Ds2 env2 w2 hj hn=>hK t σ2 hi Ds2 env2 w2 (hq.trans hj) hn) hR
    |x j=>exact hK (.x j) σt hk Ds' env' w' hq hR
    |r=>exact hK .r σt hk Ds' env' w' hq hR
 |.loop c,ho,R,r,fr,cx,σ,K,Q,N,hN,ha,h,Ds,env,w,hK,hR=>by
  simp only[aR]at h;split at h
  ·cases h
  ·next s hs=>
   obtain⟨hc,hp⟩:=sj (ag:=Ag c) (ro:=s.sg.ro) hR;obtain⟨x,h1,h2⟩:=lO (P:=P) (cx:=jE cx<|keep σ (Ag c) s.sg.ro) (kp:=⟨(keep σ (Ag c) s.sg.ro).nx,[],[]⟩) h<|FH hc;obtain⟨s0,h3,h4⟩:=rk h1;refine HR (G:=Nat×Wh s.hd.ds) (fun g Ds env' w=>zm _ g.1 g.2=some s0/\eW cx env env'/\Zc P (fr.wd Ds) (jE cx<|keep σ (Ag c) s.sg.ro) (Qy s.hd g.2 ⟨(keep σ (Ag c) s.sg.ro).nx,[],[]⟩) env' w) (fun g=>g.1) (cf.fu,x) ⟨h3,eW.refl,h2 _ env w hp⟩ ?_;rintro⟨n',x⟩ Ds env1 w ⟨hl,hA,hR⟩
   cases n' with
   |zero=>exact(PX hl).elim
   |succ n'=>
    refine Ye hm hT hL hC hX c ho hN ha (OI hl) (fun t σ' hk Ds' env' w' hs hR=> ?_) hR;have hu:eW cx env env':=hA.trans fun e he=>hs e<|Nm.2 (.inr he);have fin:(∀(y:SmD s.sg.tg) (σt:Sg),some y=some s0->(∀{R':Type} (K:Tg->Sg->Option R'),GY (keep σ (Ag c) s.sg.ro) K s.sg.tg y=K t σt)->Zc P (fr.wd Ds') cx σt env' w'->Q (tgE t) Ds' env' w'):=fun y σt e1 e2 e3=>by
     cases e1;exact hK t σt (by rw[<-h4];exact(e2 K).symm) Ds' env' w' hu e3
    cases t with
    |n=>
     obtain⟨x',h5,h6⟩:=lO (P:=P) (cx:=jE cx<|keep σ (Ag c) s.sg.ro) (kp:=⟨(keep σ (Ag c) s.sg.ro).nx,[],[]⟩) hk<|FH hc;exact⟨(n',x'),⟨h5,hu,h6 _ env' w' hR⟩,xca n'⟩
    |x j=>
     obtain⟨y,σt,e1,e2,e3⟩:=PB (P:=P) hc hk;exact fin y σt e1 e2<|e3 _ env' w' hR
    |r=>
     obtain⟨y,σt,e1,e2,e3⟩:=PB (P:=P) hc hk;exact fin y σt e1 e2<|e3 _ env' w' hR
 |.rangeFunc g ps a c,ho,R,r,fr,cx,σ,K,Q,N,hN,ha,h,Ds,env,w,hK,hR=>by
  have ho:=(xam _ _).mp ho;have hw:=(xam _ _).mp ho.2;simp only[aR]at h;split at h
  ·next f cs s pt hg hs hI=>
   split at h
   ·next it τ sh hD hJ hE=>
    split at h
    ·next y hy=>
     obtain⟨hr,h⟩:=yn h;rw[xam]at hr;obtain⟨hF,hG⟩:=zbn hD;subst hG;have hz:ps= #[pt]:=by cases ps;simp_all
     subst hz;have hH:pt<n:=by
      have:=ho.1;simpa using this
     subst hN;exact zei hX (Ye hm hT hL hC hX a hw.1) (Ye hm hT hL hC hX c hw.2) hr.1 hr.2 (ha.resolve_right<|by simp[ED]) hH hg hF hy hE h hK hR
    ·cases h
   ·cases h
  ·cases h
 |.refuse _,_,R,r,fr,cx,σ,K,Q,N,hN,ha,h,_,_,_,_,_=>by cases h
 |.goto _,_,R,r,fr,cx,σ,K,Q,N,hN,ha,h,_,_,_,_,_=>by cases h
end
end
section
def qw:List Nat->World->World
 |[],w=>w
 |D::Ds,w=>qw Ds<|w.putObj D (.deferred none)
def pW:List Nat->World->Prop
 |[],_=>True
 |D::Ds,w=>w.heap[D]? =some (.deferred<|some [])/\pW Ds (w.putObj D (.deferred none))
def mTk(D:Nat):MF where
 blk k:=k=D
 p _ w:=w.heap[D]? =some (.deferred none)
 keep h _ hb:=(hb D rfl).trans h
 sub h _:=h
 lt h k hk:=by subst hk;exact(xbm.1 h).1
section
variable{P:Program}{cf:Cf}{fr:Fr}{cx σ:Sg}{env:yR}
theorem Vs:∀{Ds:List Nat}{w:World},Zc P (fr.wd Ds) cx σ env w->pW Ds w/\Zc P fr cx σ env (qw Ds w)
 |[],w,h=>⟨trivial,h⟩
 |D::Ds,w,h=>by
  have h1:w.heap[D]? =some (.deferred<|some []):=Ep h (m:=wM D) (FS) fun S hp=>hp;have h2:=Eg (A:=[]) (m:=wM D) (m':=mTk D) (B:=Ds.map wM++fr.F) h (fun k=>Iff.rfl) (fun k h=>h) (o:=.deferred none) fun S w' h=>h;have h3:Zc P (fr.wd Ds) cx σ env (w.putObj D (.deferred none)):=by
   obtain⟨hB,vs,ha⟩:=h2;refine⟨hB,vs,?_⟩;have h4:St fr.we fr.Se ((MS vs σ.ob++MS vs cx.ob)++([mTk D]++(Ds.map wM++fr.F))) (RS P vs env σ.rg++(RS P vs env cx.rg++fr.G)) (w.putObj D (.deferred none)):=by
    have:St fr.we fr.Se (MS vs σ.ob++(MS vs cx.ob++([]++mTk D::(Ds.map wM++fr.F)))) (RS P vs env σ.rg++(RS P vs env cx.rg++fr.G)) (w.putObj D (.deferred none)):=ha;simpa only[xaj,xbA,xfw]using this
   have h5:=St.dropM h4;show St fr.we fr.Se (MS vs σ.ob++(MS vs cx.ob++(Ds.map wM++fr.F))) (RS P vs env σ.rg++(RS P vs env cx.rg++fr.G)) _;simpa only[xaj]using h5
  obtain⟨h4,h5⟩:=Vs h3;exact⟨⟨h1,h4⟩,h5⟩
theorem Uf{F:Fence}{n:Nat}{fn:Func}{tmps:Array Value}{Q:Ending->World->Prop}:∀{Ds:List Nat}{w:World},pW Ds w->(∃v,(results fn tmps).run P (qw Ds w)=.ok v (qw Ds w)/\Q (.returned v) (qw Ds w))->LeavesInM F n P fn tmps Q (Ds.map mkD) .returning w
 |[],w,_,h=>h
 |D::Ds,w,hm,h=>⟨by simp,.inl ⟨D,_,rfl,run_takeDeferred hm.1,Uf hm.2 h⟩⟩
theorem QX{f:FuncId}{fn:Func}{c:Code}{args:List Value}{w:World}{Q:Ending->World->Prop}(hf:P.funcs[f]? =some fn)(hb:fn.body=some c)(hn:xfT args.length fn.ntmps=true)
 (h:∀rest,Fm P (Nd.of fn.ntmps) c (fun e Ds env w=>(e=.normal\/e=.ret)/\pW Ds w/\∀a:Act,yz a=env->∃v,(results fn a.tmps).run P (qw Ds w)=.ok v (qw Ds w)/\Q (.returned v) (qw Ds w)) [] (L ((args.zipIdx 0).map fun x=>(x.2,x.1)) rest) w):
 Calls P f args.toArray w Q:=by
 have hn:=xbM hn;refine callsIn_wide.1<|callsIn_of_wp_marks (n:=0) hf hb trivial ?_;have ha:Qe (yz ⟨args.toArray++xev (fn.ntmps-args.toArray.size) undef,[]⟩) ((args.zipIdx 0).map fun x=>(x.2,x.1)):=by
  refine b7 args 0 _ fun j=> ?_;rw[sL];simp[xbp,H1]
 refine wpIn_mono (h _ _ (by simp[Nd.of];lia) rfl (JL ha).symm) ?_;rintro e a' w' ⟨q1,Ds,q2,he,hm,hv⟩;obtain⟨v,h1,h2⟩:=hv a' rfl;rcases he with rfl|rfl
 ·show LeavesInM _ _ P fn a'.tmps Q a'.defers .returning w';rw[q2];exact Uf hm ⟨v,h1,h2⟩
 ·show LeavesInM _ _ P fn a'.tmps Q a'.defers .returning w';rw[q2];exact Uf hm ⟨v,h1,h2⟩
end
end
section
section
variable{P:Program}{cf:Cf}{fr:Fr}{σ:Sg}{vs:Nat->Value}{env:yR}{w:World}{R:Type}{r:R}
theorem HX{rest:yR}:∀{l:List Value}{i j:Nat}{v:Value},l[j]? =some v->L ((l.zipIdx i).map fun x=>(x.2,x.1)) rest (i+j)=v
 |a::l,i,0,v,h=>by
  simp only[xbE,xay]at h;simp[L,h]
 |a::l,i,j+1,v,h=>by
  simp only[List.zipIdx_cons,xbZ,L];rw[zas (show i+(j+1)≠i by lia)];have:=HX (rest:=rest) (l:=l) (i:=i+1) (j:=j) (v:=v) (by simpa using h);rw[show i+1+j=i+(j+1)by lia]at this;exact this
theorem NP:∀{dom:List AM}{x:UI dom}{i:Nat}{l:List Value},l.length=dom.length->(∀j v,l[j]? =some v->vs (i+j)=v)->MS vs (Wq dom x i).2=Y9 dom x l
 |[],_,_,_,_,_=>rfl
 |a::dom,x,i,[],hl,_=>by cases hl
 |a::dom,x,i,v::l,hl,h=>by
  have ih:MS vs (Wq dom x.2<|i+1).2=Y9 dom x.2 l:=NP (by simpa using hl) fun j v hj=>by
   have:=h (j+1) v (by simpa using hj);rw[<-this];congr 1;lia
  have h0:vs i=v:=h 0 v rfl
  cases a with
  |own t E=>
   show mO t.rep E (vs i) x.1::MS vs (Wq dom x.2<|i+1).2=mO t.rep E v x.1::Y9 dom x.2 l;rw[ih,h0]
  |_=>exact ih
theorem Nj{S:Nat->Prop}:∀{dom:List AM}{x:UI dom}{i:Nat}{l:List Value},l.length=dom.length->(∀j v,l[j]? =some v->vs (i+j)=v/\env (i+j)=v)->zD S (ua P dom x l) w->zD S (RS P vs env (Wq dom x i).1) w
 |[],_,_,_,_,_,_=>trivial
 |a::dom,x,i,[],hl,_,_=>by cases hl
 |a::dom,x,i,v::l,hl,h,hA=>by
  have ih:zD S (RS P vs env (Wq dom x.2<|i+1).1) w:=Nj (l:=l) (by simpa using hl) (fun j v hj=>by
   have:=h (j+1) v (by simpa using hj);rw[show i+1+j=i+(j+1)by lia];exact this) hA.2
  have h0:vs i=v/\env i=v:=h 0 v rfl;have ha:(amF P a x.1 v).p S w:=hA.1
  cases a with
  |d t=>exact⟨show(fV t.rep x.1<|env i).p S w by rw[h0.2];exact ha,ih⟩
  |q t=>exact⟨show(fP t.rep x.1<|env i).p S w by rw[h0.2];exact ha,ih⟩
  |own t E=>exact⟨show env i=vs i by rw[h0.1,h0.2],ih⟩
  |fn dom' cod'=>exact⟨show(fnF P dom' cod' x.1<|env i).p S w by rw[h0.2];exact ha,ih⟩
theorem Ns:∀{dom:List AM}{x:UI dom}{i:Nat},∀e∈(Wq dom x i).2,e.1<i+dom.length
 |[],_,_,e,he=>absurd he IR
 |a::dom,x,i,e,he=>by
  have ih:∀e∈(Wq dom x.2<|i+1).2,e.1<i+(a::dom).length:=fun e he=>by
   have:=Ns e he;simp only[xaq];lia
  cases a with
  |own t E=>
   rcases xad.1 (show e∈(i,Od.own t E x.1)::(Wq dom x.2<|i+1).2 from he)with rfl|he
   ·simp only[xaq];lia
   ·exact ih e he
  |_=>exact ih e he
theorem En:∀{dom:List AM}{x:UI dom}{i:Nat},∀e∈(Wq dom x i).1,∀p,wu e.2.2=some p->p<i+dom.length
 |[],_,_,e,he=>absurd he IR
 |a::dom,x,i,e,he=>by
  intro p hp;have ih:∀e∈(Wq dom x.2<|i+1).1,∀p,wu e.2.2=some p->p<i+(a::dom).length:=fun e he p hp=>by
   have:=En e he p hp;simp only[xaq];lia
  cases a with
  |own t E=>
   rcases xad.1 (show e∈(i,0,Dv.ow i)::(Wq dom x.2<|i+1).1 from he)with rfl|he
   ·cases hp;simp only[xaq];lia
   ·exact ih e he p hp
  |d t=>
   rcases xad.1 (show e∈(i,0,Dv.d t x.1)::(Wq dom x.2<|i+1).1 from he)with rfl|he
   ·cases hp
   ·exact ih e he p hp
  |q t=>
   rcases xad.1 (show e∈(i,0,Dv.q t x.1)::(Wq dom x.2<|i+1).1 from he)with rfl|he
   ·cases hp
   ·exact ih e he p hp
  |fn d c=>
   rcases xad.1 (show e∈(i,0,Dv.fp d c x.1)::(Wq dom x.2<|i+1).1 from he)with rfl|he
   ·cases hp
   ·exact ih e he p hp
theorem Uw:∀(l:List ResultVar) (ms:List RM) {σ:Sg},Zc P fr ⟨0,[],[]⟩ σ env w->Zc P fr ⟨0,[],[]⟩ (Ua σ l ms) env w
 |[],_,_,h=>by unfold Ua;exact h
 |.tmp t::l,[],_,h=>by unfold Ua;exact h
 |.tmp t::l,.d _::ms,_,h=>by unfold Ua;exact Uw l ms<|DR _ h
 |.tmp t::l,.own _ _::ms,_,h=>by unfold Ua;exact Uw l ms h
 |.cell t E::l,[],_,h=>by unfold Ua;exact h
 |.cell t E::l,m::ms,_,h=>by unfold Ua;exact Uw l ms h
theorem zb2(hT:y4 P cf.tt){rv:ResultVar}{m:RM}{k:m.D->List Nat->Option R}(h:DV cf σ rv m k=some r):∃x os,k x os=some r/\
 ∀vs (fr:Fr) env (A:List MF) (Γ:List FF) w (os':List Nat),(∀S w,zD S Γ w->∀t,Lk P vs env S w ⟨0,[],[]⟩ σ t)->(∀o∈os,dn os' o=false)->St fr.we fr.Se (A++OS vs fr ⟨0,[],[]⟩ (w6 σ.ob os')) Γ w->
  ∃v,zdB P w env rv v/\St fr.we fr.Se (rmM m x v++(A++OS vs fr ⟨0,[],[]⟩ (w6 σ.ob<|os++os'))) (rmF m x v++Γ) w:=by
 cases rv with
 |tmp t=>
  cases m with
  |d s=>
   simp only[DV]at h;have hc:=h;obtain⟨y,h,hy⟩:=zaY h;refine⟨y,[],h,fun vs fr env A Γ w os' hl _ ha=>⟨env t,rfl,?_⟩⟩;refine ha.weak fun S w hΓ=>⟨?_,hΓ⟩
   cases hg:get ⟨0,[],[]⟩ σ t 0 with
   |none=>rw[hg]at hc;cases hc
   |some v=>exact hy P vs S w v _ hg<|hl S w hΓ t 0 v hg
  |own s E=>
   simp only[DV]at h;obtain⟨x,os,h1,_,h2,h3⟩:=NC h;refine⟨x,os,h1,fun vs fr env A Γ w os' hl hn ha=>⟨env t,rfl,?_⟩⟩;exact h3 P vs fr env A Γ w os' (fun S w hΓ=>hl S w hΓ t) hn ha
 |cell t E=>
  cases m with
  |own s E'=>simp only[DV]at h;cases h
  |d s=>
   simp only[DV]at h;split at h
   ·next o s0 ti hg he=>
    split at h
    ·next s' E' z ho=>
     obtain⟨hE,h1⟩:=yn h;have hE:=yc hE;subst hE;obtain⟨e,h2⟩:=yo h1;cases e;obtain⟨e,h3⟩:=yo h2;cases e;refine⟨_,[o],h3,fun vs fr env A Γ w os' hl hn ha=> ?_⟩;have hp:=kN (vs:=vs) (fr:=fr) (cx:=⟨0,[],[]⟩)<|(kz<|hn o<|FS).trans ho;have h3:=St.mid<|St.perm ha<|xcg _ hp;obtain⟨S,_,hΓ⟩:=ha.ex;obtain⟨hv,b,hb⟩:=hl S w hΓ t 0 _ hg;obtain⟨⟨zero,ht,_⟩,_⟩:=hT E ti he;have h4:St fr.we fr.Se (mP ti.ty.rep.c E (vs o) z::(A++OS vs fr ⟨0,[],[]⟩ (yG (w6 σ.ob os') o))) Γ w:=h3;obtain⟨b',hd,h5⟩:=h4.openP 0 rfl;rw[hb]at hd;cases hd;refine zcl 0 h5 rfl (hv.trans hb) ht fun v hs hr=>⟨v,hr,?_⟩;exact St.drop (i:=0) hs
    ·cases h
   ·cases h
theorem LJ(hT:y4 P cf.tt):∀{rvs:List ResultVar}{cod:List RM}{k:dq cod->List Nat->Option R},GH cf σ rvs cod k=some r->∃x os,k x os=some r/\
 ∀vs (fr:Fr) env (Γ:List FF) w,(∀S w,zD S Γ w->∀t,Lk P vs env S w ⟨0,[],[]⟩ σ t)->St fr.we fr.Se (OS vs fr ⟨0,[],[]⟩ σ.ob) Γ w->
  ∃us,us.length=cod.length/\KO P w env rvs us/\St fr.we fr.Se (Zf cod x us++OS vs fr ⟨0,[],[]⟩ (w6 σ.ob os)) (Ze cod x us++Γ) w
 |[],[],k,h=>⟨(),[],h,fun vs fr env Γ w _ ha=>⟨[],rfl,trivial,ha⟩⟩
 |[v],[m],k,h=>by
  obtain⟨x,os,h1,h2⟩:=zb2 hT (h:DV cf σ v m k=some r);refine⟨x,os,h1,fun vs fr env Γ w hl ha=> ?_⟩;obtain⟨u,h3,h4⟩:=h2 vs fr env [] Γ w [] hl (fun _ _=>rfl) ha;rw[xbQ]at h4;exact⟨[u],rfl,⟨h3,trivial⟩,h4⟩
 |v::v'::rvs,m::m'::ms,k,h=>by
  obtain⟨x,o,h1,h2⟩:=zb2 hT (h:DV cf σ v m _=some r);obtain⟨y,os,h3,h4⟩:=LJ hT h1;obtain⟨hn,h3⟩:=yn h3;refine⟨(x,y),o++os,h3,fun vs fr env Γ w hl ha=> ?_⟩;obtain⟨us,h5,h6,h7⟩:=h4 vs fr env Γ w hl ha;obtain⟨u,h8,h9⟩:=h2 vs fr env (Zf (m'::ms) y us) (Ze (m'::ms) y us++Γ) w os (fun S w hΓ=>hl S w<|zD.right hΓ) (DQ hn) h7;refine⟨u::us,by simpa using h5,⟨h8,h6⟩,?_⟩;show St _ _ ((rmM m x u++Zf (m'::ms) y us)++_) ((rmF m x u++Ze (m'::ms) y us)++Γ) w;rw[xaj,xaj];exact h9
 |[],_::_,_,h=>by cases h
 |[_],[],_,h=>by cases h
 |[_],_::_::_,_,h=>by cases h
 |_::_::_,[],_,h=>by cases h
 |_::_::_,[_],_,h=>by cases h
theorem L5(hm:P.follows .mixedOrders=true)(hT:y4 P cf.tt)(hL:jT P cf.tt)(hC:∀s∈cf.cs,y9 P s)(hX:Ak P cf){s:VF}{fn:Func}
 (hf:P.funcs[s.f]? =some fn) (hb:Af P s.f=true) (hk:s.bk=0) (hM:∀x r,s.M x=some r->Mq cf fn s.dom s.cod x=some r):y9 P s:=by
 refine⟨hb,fun x r h vs hd=> ?_⟩;rw[hk];show Ot P s.f vs.toArray (Y9 s.dom x vs) (ua P s.dom x vs) Yg (fun us=>Zf s.cod r us) (fun us=>Ze s.cod r us) (fun us=>us.length=s.cod.length);have h:=hM x r h;unfold Mq at h;split at h
 ·next c hc=>
  obtain⟨ho,h⟩:=yn h;rw[xam]at ho;intro we Se F G w hg;refine QX hf hc (by rw[hd];exact ho.2) fun rest=> ?_;refine Ye (fr:=⟨we,Se,F,G⟩) (N:=Nd.of fn.ntmps) hm hT hL hC hX c ho.1 rfl (.inl rfl) h (fun t σ' hk Ds env w _ hR=> ?_) ?_
  ·obtain⟨hi,hR⟩:=Vs hR
   have fin:GH cf (Ua σ' fn.results.toList s.cod) fn.results.toList s.cod (fun y _=>some y)=some r->∀a:Act,yz a=env->
    ∃v,(results fn a.tmps).run P (qw Ds w)=.ok v (qw Ds w)/\∃u:List Value,xeA v=.returned (Yg u)/\u.length=s.cod.length/\St we Se (Zf s.cod r u++F) (Ze s.cod r u++G) (qw Ds w):=fun h a ha=>by
    have hl:=Uw fn.results.toList s.cod hR;generalize Ua σ' fn.results.toList s.cod=σ1 at h hl;obtain⟨hB,vs,hg⟩:=hl;obtain⟨y,os,e1,e2⟩:=LJ hT h;cases e1;obtain⟨us,h1,h2,h3⟩:=e2 vs ⟨we,Se,F,G⟩ env _ _ (fun S w hΓ t=>Yd hΓ t) hg;refine⟨_,Y7 (rs:=fn.results.toList) (by rw[xdh])<|ha▸h2,us,rfl,h1,?_⟩;exact(St.dropM (B:=MS vs<|w6 σ1.ob os) h3).weak fun S w hΓ=>zD.append (zD.left hΓ)<|zD.right<|zD.right hΓ
   cases t with
   |n=>exact⟨.inl rfl,hi,fin hk⟩
   |r=>exact⟨.inr rfl,hi,fin hk⟩
   |x j=>cases hk
  ·have e0:∀j v,vs[j]? =some v->vs.getD (0+j) undef=v:=fun j v hj=>by rw[xaN,H1,hj];rfl
   refine⟨⟨fun e he=> ?_,fun _ he=>absurd he IR,fun e he p hp=> ?_,fun _ he=>absurd he IR⟩,fun o=>vs.getD o undef,?_⟩
   ·have:=Ns e he;simpa using this
   ·have:=En e he p hp;simpa using this
   ·have e1:MS (fun o=>vs.getD o undef) (Wq s.dom x 0).2=Y9 s.dom x vs:=NP hd e0;show St we Se (MS _ (Wq s.dom x 0).2++([]++F)) _ w;rw[e1];exact hg.weak fun S w hΓ=>zD.append (Nj hd (fun j v hj=>⟨e0 j v hj,HX hj⟩)<|zD.left hΓ)<|zD.right hΓ
 ·cases h
theorem zcJ{S:Nat->Prop}{pn:Nat->Value}:∀{dom:List AM}{i:Nat},(∀j,j<dom.length->env (i+j)=pn (i+j))->zD S (RS P vs env<|EH pn dom i) w
 |[],_,_=>trivial
 |a::dom,i,h=>by
  have ih:zD S (RS P vs env<|EH pn dom<|i+1) w:=zcJ fun j hj=>by
   have:=h (j+1) (by simp only[xaq];lia);rw[show i+1+j=i+(j+1)by lia];exact this
  cases a with
  |own t E=>exact⟨h 0 (by simp),ih⟩
  |_=>exact ih
theorem gA{S:Nat->Prop}{l:List Value}:∀{dom:List AM}{i:Nat}{us:List Value},zD S (RS P vs env<|EH (fun o=>l.getD o undef) dom i) w->KO P w env (De dom i) us->us=UA dom (l.drop i)
 |[],_,[],_,_=>rfl
 |[],_,_::_,_,h=>h.elim
 |a::dom,i,us,hA,h=>by
  have e0:(l.drop i).headD undef=l.getD i undef:=by rw[List.headD_eq_head?_getD,List.head?_drop,H1]
  have e1:(l.drop i).tail=l.drop (i+1):=by rw[List.tail_drop]
  cases a with
  |own t E=>
   cases us with
   |nil=>exact h.elim
   |cons u us=>
    have h1:env i=u:=h.1;have h2:env i=l.getD i undef:=hA.1;have ih:=gA (dom:=dom) (i:=i+1) hA.2 h.2;show u::us=(l.drop i).headD undef::UA dom (l.drop i).tail;rw[e0,e1,<-ih,<-h1,h2]
  |d t=>
   have ih:=gA (dom:=dom) (i:=i+1) hA h;show us=UA dom (l.drop i).tail;rw[e1];exact ih
  |q t=>
   have ih:=gA (dom:=dom) (i:=i+1) hA h;show us=UA dom (l.drop i).tail;rw[e1];exact ih
  |fn d c=>
   have ih:=gA (dom:=dom) (i:=i+1) hA h;show us=UA dom (l.drop i).tail;rw[e1];exact ih
theorem sB:∀{a b:List ResultVar}{us:List Value},KO P w env (a++b) us->KO P w env a (us.take a.length)/\KO P w env b (us.drop a.length)
 |[],b,us,h=>⟨trivial,h⟩
 |r::a,b,[],h=>h.elim
 |r::a,b,u::us,h=>by
  obtain⟨h1,h2⟩:=sB (a:=a) (b:=b) h.2;exact⟨⟨h.1,h1⟩,h2⟩
theorem eG{pn:Nat->Value}:∀{dom:List AM}{i:Nat},∀e∈EH pn dom i,wu e.2.2=none
 |[],_,e,he=>absurd he IR
 |a::dom,i,e,he=>by
  cases a with
  |own t E=>
   rcases xad.1 (show e∈(i,0,Dv.pin<|pn i)::EH pn dom (i+1)from he)with rfl|he
   ·rfl
   ·exact eG e he
  |d t=>exact eG (dom:=dom) (i:=i+1) e he
  |q t=>exact eG (dom:=dom) (i:=i+1) e he
  |fn d c=>exact eG (dom:=dom) (i:=i+1) e he
theorem zgv(hm:P.follows .mixedOrders=true)(hT:y4 P cf.tt)(hL:jT P cf.tt)(hC:∀s∈cf.cs,y9 P s)(hX:Ak P cf){s:VF}{fn:Func}
 (hf:P.funcs[s.f]? =some fn) (hb:Af P s.f=true) (hM:∀pn x r,s.M x=some r->zeB cf fn s.dom s.cod s.bk pn x=some r):y9 P s:=by
 refine⟨hb,fun x r h vs hd=> ?_⟩;have h:=hM (fun o=>vs.getD o undef) x r h;unfold zeB at h;split at h
 ·next c hc=>
  obtain⟨ho,h⟩:=yn h;simp only[xam]at ho;obtain⟨⟨⟨⟨hx,hy⟩,hq⟩,hE⟩,hr⟩:=ho;have hq:=yc hq;have hr:0<s.bk:=Nat.blt_eq.mp hr;obtain⟨b,hz⟩:∃b,s.bk=b+1:=⟨s.bk-1,by lia⟩;rw[hz];intro we Se F G w hl;refine QX hf hc (by rw[hd];exact hy) fun rest=> ?_;have e0:∀j v,vs[j]? =some v->vs.getD (0+j) undef=v:=fun j v hj=>by rw[xaN,H1,hj];rfl
  refine Ye (fr:=⟨we,Se,F,G⟩) (N:=Nd.of fn.ntmps) hm hT hL hC hX c hx rfl (.inl rfl) h (fun t σ' hk Ds env w _ hR=> ?_) ?_
  ·obtain⟨hs,hR⟩:=Vs hR
   have fin:GH cf (Ua σ' (fn.results.toList++De s.dom 0) s.cod) (fn.results.toList++De s.dom 0) s.cod (fun y _=>some y)=some r->∀a:Act,yz a=env->
    ∃v,(results fn a.tmps).run P (qw Ds w)=.ok v (qw Ds w)/\∃u:List Value,xeA v=.returned (ziJ (b+1) s.cod.length u)/\zgi s.dom vs (b+1) s.cod.length u/\St we Se (Zf s.cod r u++F) (Ze s.cod r u++G) (qw Ds w):=fun h a ha=>by
    obtain⟨ht,vs0,hi⟩:=hR;obtain⟨S0,_,hA⟩:=hi.ex;have hu:zD S0 (RS P vs0 env<|EH (fun o=>vs.getD o undef) s.dom 0) _:=zD.left<|zD.right hA;have hD:Zc P ⟨we,Se,F,G⟩ ⟨0,[],[]⟩ σ' env (qw Ds w):=⟨⟨ht.o1,fun _ he=>absurd he IR,ht.r1,fun _ he=>absurd he IR⟩,vs0,hi.weak fun S w ha=>zD.append (zD.left ha)<|zD.right<|zD.right ha⟩;have hv:=Uw (fn.results.toList++De s.dom 0) s.cod hD;generalize Ua σ' (fn.results.toList++De s.dom 0) s.cod=σ1 at h hv;obtain⟨hB,vs1,hl⟩:=hv;obtain⟨y,os,e1,e2⟩:=LJ hT h;cases e1;obtain⟨us,h1,h2,h3⟩:=e2 vs1 ⟨we,Se,F,G⟩ env _ _ (fun S w hΓ t=>Yd hΓ t) hl;obtain⟨h4,h5⟩:=sB h2;have hn:s.cod.length-(b+1)=fn.results.toList.length:=by lia
    have hg:=gA hu h5;rw[List.drop_zero]at hg;refine⟨_,Y7 (rs:=fn.results.toList) (by rw[xdh])<|ha▸h4,us,?_,⟨h1,by rw[hn];exact hg⟩,?_⟩
    ·show xeA _=.returned (Yg<|us.take<|s.cod.length-(b+1));rw[hn]
    ·exact(St.dropM (B:=MS vs1<|w6 σ1.ob os) h3).weak fun S w hΓ=>zD.append (zD.left hΓ)<|zD.right<|zD.right hΓ
   cases t with
   |n=>exact⟨.inl rfl,hs,fin hk⟩
   |r=>exact⟨.inr rfl,hs,fin hk⟩
   |x j=>cases hk
  ·refine⟨⟨fun e he=> ?_,fun _ he=>absurd he IR,fun e he p hp=> ?_,fun e he p hp=> ?_⟩,fun o=>vs.getD o undef,?_⟩
   ·have:=Ns e he;simpa using this
   ·have:=En e he p hp;simpa using this
   ·rw[eG e he]at hp;cases hp
   ·have e1:MS (fun o=>vs.getD o undef) (Wq s.dom x 0).2=Y9 s.dom x vs:=NP hd e0;show St we Se (MS _ (Wq s.dom x 0).2++([]++F)) _ w;rw[e1];refine hl.weak fun S w hΓ=>zD.append (Nj hd (fun j v hj=>⟨e0 j v hj,HX hj⟩)<|zD.left hΓ)<|zD.append (zcJ fun j hj=> ?_)<|zD.right hΓ;have hw:vs[j]? =some (vs[j]'(by lia)):=xaa (by lia);show L _ _ (0+j)=vs.getD (0+j) undef;rw[e0 j _ hw];exact HX hw
 ·cases h
end
end
section
section
variable{P:Program}
def zc:Ty->List Value
 |.i=>[.int .i64 0]
 |.u=>[.int .u64 0]
 |.b=>[.bool false]
 |.ch=>[.int .u8 0]
 |.tx=>[.string ByteArray.empty]
 |.l _=>[.slice none 0 0]
 |.p s t=>zc s++zc t
 |.a k t=>(xaf k<|zc t).flatten
theorem OD{α:Type}{e:z7 α}{S:Nat->Prop}{w:World}{x:α}{c:List Value}(h:e.p S x c w):∀k,yx e S (xaf k x) (xaf k c).flatten w
 |0=>rfl
 |k+1=>⟨c,_,rfl,h,OD h k⟩
theorem zfh(S:Nat->Prop)(w:World):∀t:Ty,t.rep.p S t.z (zc t) w
 |.i=>⟨rfl,show(-9223372036854775808:Int)<=0 by decide,show(0:Int)<=9223372036854775807 by decide⟩
 |.u=>⟨rfl,show(0:Nat)<18446744073709551616 by decide⟩
 |.b=>rfl
 |.ch=>⟨rfl,show(0:Nat)<256 by decide⟩
 |.tx=>⟨ByteArray.empty,rfl,rfl,by decide⟩
 |.l _=>⟨_,rfl,SN.nil⟩
 |.p s t=>⟨_,_,rfl,zfh S w s,zfh S w t⟩
 |.a k t=>⟨xaZ,OD (zfh S w t) k⟩
def zgl(P:Program)(t n:Nat):(List (Option Nat)×List (Option<|Nat×Bool×Nat))×Option (List<|Option<|Nat×Nat):=(((xbb n).map fun i=>L7 P t i,(xbb n).map fun i=>za4 P t i),match plB P t with
 |some a=>some<|a.toList.map some
 |none=>none)
def zaB(ty:Ty)(n:Nat):(List (Option Nat)×List (Option<|Nat×Bool×Nat))×Option (List<|Option<|Nat×Nat):=(((xbb n).map fun i=>(Q3 n ty i).map (·.off),(xbb n).map fun i=>(Q3 n ty i).map fun f=>(f.off,f.f.rep.agg,f.f.n)),some<|(xbb n).map fun i=>(Q3 n ty i).map fun f=>(f.off,f.f.n))
def GX(P:Program)(t:TypeId)(ti:TI):Prop:=match ti.k with
 |.int k=>P.underlying t=some (.int k)
 |.bool=>P.underlying t=some .bool
 |.str=>P.underlying t=some .string
 |.sl E=>P.underlying t=some (.slice E)/\∃e,ti.ty=.l e
 |.st n=>ti.ty.rep.agg=true/\zgl P t n=zaB ti.ty n
 |.ar k E=>ti.ty.rep.agg=true/\P.underlying t=some (.array k E)
theorem Df:∀{n:Nat}{t:Ty}{i:Nat}{f:Fl t.D},Q3 n t i=some f->i<n
 |0,_,_,_,h=>by simp[Q3]at h
 |1,t,i,f,h=>by
  simp only[Q3]at h;cases hb:xao i 0<;>rw[hb]at h
  ·cases h
  ·rw[yc hb];exact xea
 |n+2,.p s t,0,f,h=>Nat.succ_pos _
 |n+2,.p s t,i+1,f,h=>by
  simp only[Q3]at h;split at h
  ·next f' hf=>exact Nat.succ_lt_succ<|Df hf
  ·cases h
 |n+2,.i,_,_,h=>by simp[Q3]at h
 |n+2,.u,_,_,h=>by simp[Q3]at h
 |n+2,.b,_,_,h=>by simp[Q3]at h
 |n+2,.l _,_,_,h=>by simp[Q3]at h
 |n+2,.a _ _,_,_,h=>by simp[Q3]at h
 |n+2,.ch,_,_,h=>by simp[Q3]at h
 |n+2,.tx,_,_,h=>by simp[Q3]at h
theorem zb9.of{t:TypeId}{ti:TI}(h:GX P t ti):zb9 P t ti:=by
 unfold GX at h;unfold zb9;split at h
 ·next h0=>simp only[h0];exact h
 ·next h0=>simp only[h0];exact h
 ·next h0=>simp only[h0];exact h
 ·next h0=>simp only[h0];exact h
 ·next n h0=>
  simp only[h0];obtain⟨h1,h⟩:=h;have h2:=congrArg (fun q=>q.1.1) h;have ha:=congrArg (fun q=>q.1.2) h;have h3:=congrArg Prod.snd h;simp only[zgl,zaB]at h2 ha h3;refine⟨h1,fun i f hf=> ?_,?_,fun i f hf=> ?_⟩;rotate_left 2
  ·have:=congrArg (fun l:List (Option<|Nat×Bool×Nat)=>l[i]?) ha;simp only[xaT,xby<|Df hf,Option.map_some,hf]at this;simpa using this
  ·have:=congrArg (fun l:List (Option Nat)=>l[i]?) h2;simp only[xaT,xby<|Df hf,Option.map_some,hf]at this;simpa using this
  ·cases hp:plB P t with
   |none=>
    rw[hp]at h3;cases h3
   |some a=>
    rw[hp]at h3;simp only[xay]at h3;obtain⟨fs,h4,h5⟩:=zfz hp;refine⟨fs,h4,a,h5,fun i f hf=> ?_⟩;have:=congrArg (fun l:List (Option<|Nat×Nat)=>l[i]?) h3;simp only[xaT,xby<|Df hf,Option.map_some,hf]at this;rw[<-Array.getElem?_toList]
    cases hx:a.toList[i]? with
    |none=>rw[hx]at this;cases this
    |some q=>rw[hx]at this;simpa using this
 ·next h0=>simp only[h0];exact h
theorem zc5.of{t:TypeId}{ti:TI}(h1:tyB P t=some (ti.ty.rep.agg,ti.ty.n,ti.B,some<|ti.ty.rep.val<|zc ti.ty))(h2:(xdd 0 ti.B && xdd 0 ti.ty.n)=true)(h3:GX P t ti):zc5 P t ti:=by
 rw[xam]at h2;have hz:=fun S w=>zfh S w ti.ty;refine⟨⟨_,(by rw[Ty.n_rep];exact X8.of h1),?_,fun S w=> ?_,fun s hs=>by rw[hs];rfl⟩,xbM h2.1,(by rw[Ty.n_rep];exact xbM h2.2),zb9.of h3⟩
 ·rw[<-xeU,z7.val_cells _<|hz (fun _=>True) default,ti.ty.rep.len<|hz (fun _=>True) default]
 ·rw[z7.val_cells _<|hz S w];exact hz S w
theorem y4.nil:y4 P []:=fun _ _ h=>by cases h
theorem y4.cons{t:TypeId}{ti:TI}{tt:List (Nat×TI)}(h:zc5 P t ti)(k:y4 P tt):y4 P ((t,ti)::tt):=by
 intro t' ti' hf;unfold Jz at hf;cases hb:xao t t'<;>rw[hb]at hf
 ·exact k t' ti' hf
 ·cases hf;rw[<-yc hb];exact h
theorem y4.add{t:TypeId}{ti:TI}{tt:List (Nat×TI)}(h1:tyB P t=some (ti.ty.rep.agg,ti.ty.n,ti.B,some<|ti.ty.rep.val<|zc ti.ty))(h2:(xdd 0 ti.B && xdd 0 ti.ty.n)=true)(h3:GX P t ti)(k:y4 P tt):y4 P ((t,ti)::tt):=y4.cons (zc5.of h1 h2 h3) k
def elB(tt:List (Nat×TI)):List (Nat×TI)->Bool
 |[]=>true
 |(_,⟨.l s,.sl E,_⟩)::r=>(match Jz tt E with
  |some ti=>(Ty.same ti.ty s).isSome
  |none=>false) && elB tt r
 |_::r=>elB tt r
theorem jT.of'{tt:List (Nat×TI)}:∀{l:List (Nat×TI)},elB tt l=true->∀t s E B,Jz l t=some ⟨.l s,.sl E,B⟩->∃ti,Jz tt E=some ti/\ti.ty=s
 |[],_,_,_,_,_,h=>by cases h
 |(t',ti')::r,h,t,s,E,B,hf=>by
  have hr:elB tt r=true:=by
   unfold elB at h;split at h
   ·cases‹_::_=[]›
   ·next hh=>cases hh;rw[xam]at h;exact h.2
   ·next hh=>cases hh;exact h
  unfold Jz at hf;cases hb:xao t' t<;>rw[hb]at hf
  ·exact jT.of' hr t s E B hf
  ·cases hf;unfold elB at h;simp only[xam]at h;have h:=h.1;split at h
   ·next ti he=>
    refine⟨ti,he,?_⟩
    cases hs:Ty.same ti.ty s with
    |none=>rw[hs]at h;cases h
    |some p=>exact p.down
   ·cases h
theorem jT.of{tt:List (Nat×TI)}(h:elB tt tt=true):jT P tt:=fun t s E B=>jT.of' h t s E B
theorem cL.nil:cL P []:=fun _ _ h=>by cases h
theorem cL.add{f:Nat}{b:Bool}{ex:List (Nat×Bool)}{fn:Func}(h0:P.funcs[f]? =some fn)(h1:(fn.name== "runtime.NumGoroutine")=false)(h2:fn.body=none)(h3:(xey fn).isNone=true)
 (h4:b=true->xeW fn=some (fun args=>do
  let(x,y,c)<-xbP "Add64" args
  pure (xbV ((x+y+c)%xaY)<|(x+y+c)/xaY)))
 (h5:b=false->xeW fn=some (fun args=>do
  let(x,y,b)<-xbP "Sub64" args
  pure (xbV ((x+xaY-y-b)%xaY) (if x<y+b then 1 else 0)))) (k:cL P ex):cL P ((f,b)::ex):=by
 intro f' b' hf;unfold Jz at hf;cases hb:xao f f'<;>rw[hb]at hf
 ·exact k f' b' hf
 ·cases hf;rw[<-yc hb];exact⟨fn,h0,h1,h2,h3,h4,h5⟩
theorem cN:∀s∈([]:List VF),y9 P s:=fun _ h=>absurd h IR
theorem cC{s:VF}{l:List VF}(h:y9 P s)(k:∀s∈l,y9 P s):∀q∈s::l,y9 P q:=by grind
theorem sg0{s:VF}(hb:Af P s.f=true)(hM:∀x,s.M x=none):y9 P s:=⟨hb,fun x r h=>by rw[hM x]at h;cases h⟩
theorem Ak.of{tt:List (Nat×TI)}{ex:List (Nat×Bool)}{cs:List VF}{an:An}{fu:Nat}(hX:cL P ex)(hp:P=Tryz.prog):Ak P ⟨tt,cs,an,fu,ex,[],[],[]⟩:=⟨hX,fun _ h=>absurd h IR,fun _ h=>absurd h IR,fun _ h=>absurd h IR,hp⟩
theorem sgP(hm:P.follows .mixedOrders=true){tt:List (Nat×TI)}{ex:List (Nat×Bool)}(hT:y4 P tt)(hL:jT P tt)(hX:cL P ex)(hp:P=Tryz.prog){cs:List VF}(an:An){fu:Nat}{s:VF}{fn:Func}(hf:P.funcs[s.f]? =some fn)(hC:∀s∈cs,y9 P s)(hb:Af P s.f=true)(hk:s.bk=0)(hM:∀x,Mq ⟨tt,cs,an,fu,ex,[],[],[]⟩ fn s.dom s.cod x=s.M x):y9 P s:=
 L5 (cf:=⟨tt,cs,an,fu,ex,[],[],[]⟩) hm hT hL hC (.of hX hp) hf hb hk fun x r h=>(hM x).trans h
theorem sgG(hm:P.follows .mixedOrders=true){tt:List (Nat×TI)}{ex:List (Nat×Bool)}(hT:y4 P tt)(hL:jT P tt)(hX:cL P ex)(hp:P=Tryz.prog){cs:List VF}(an:An){fu:Nat}{s:VF}{fn:Func}(hf:P.funcs[s.f]? =some fn)(hC:∀s∈cs,y9 P s)(hb:Af P s.f=true)(hM:∀pn x,zeB ⟨tt,cs,an,fu,ex,[],[],[]⟩ fn s.dom s.cod s.bk pn x=s.M x):y9 P s:=
 zgv (cf:=⟨tt,cs,an,fu,ex,[],[],[]⟩) hm hT hL hC (.of hX hp) hf hb fun pn x r h=>(hM pn x).trans h
end
end
end Go.Proofs.YtmggkmchbdanfaaGreat
