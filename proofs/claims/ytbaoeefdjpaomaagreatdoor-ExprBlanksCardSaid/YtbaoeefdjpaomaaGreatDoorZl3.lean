/- What a proof needs: rules of walking, mirrors of functions and their plain laws. No condition. -/
import Derived.Test.YtbaoeefdjpaomaaGreatDoorZl2
import Derived.Lib.AppendStr
set_option linter.unusedVariables false
set_option linter.unusedSimpArgs false
namespace Go.Proofs.YtbaoeefdjpaomaaGreatDoor
open Bool renaming and_eq_true->IR,false_eq_true->Pd,false_ne_true->Pa,false_or->Sa,not_eq_true'->Rj,not_false->S7,not_true->SC,or_eq_true->R2
open Builtin renaming append_->PR,lenOf->Tm,zeroCells->Po
open Call renaming operands->SD
open Deferred renaming ofValue->Rn
open Instr renaming slice->TW,sliceAt->RH,sliceBound->SE,sliceBounds->Sw
open Lib renaming strCells->SR,strCells_length->Td
open List renaming all_eq_true->Pe,any_eq_true->TM,append_assoc->O2,append_nil->Ps,cons_append->PZ,drop->TX,drop_zero->Tz,eq_nil_of_length_eq_zero->Pn,ext_getElem?->Sx,filterMap_cons->Pf,getD->SF,getElem?_append_left->Py,getElem?_append_right->PW,getElem?_cons_zero->PE,getElem?_eq_getElem->Pb,getElem?_eq_some_iff->O4,getElem?_map->Rz,getElem?_take->Rk,getElem?_toArray->SS,getElem?_zip_eq_some->S6,length->O9,length_append->O1,length_eq_one_iff->P2,length_eq_zero_iff->Rl,length_map->Rp,length_replicate->Sp,length_set->Ri,length_take->PG,map_append->PS,map_congr_left->RZ,map_cons->PA,map_map->Sz,map_nil->RR,map_toArray->R6,mem_append->OX,mem_cons->OY,mem_cons_of_mem->H1,mem_cons_self->Nm,mem_filter->PO,mem_filterMap->Sq,mem_map->O8,mem_of_getElem?->Pq,mem_range->PK,mem_singleton->OZ,nil_append->P1,not_mem_nil->UV,perm_append_comm->Sr,perm_append_comm_assoc->Sj,perm_middle->P6,range'->RK,set->xad,set_getElem_self->RP,size_toArray->Tw,take->TB,take_of_length_le->P3
open List.Perm renaming append_left->Pw,append_right->SJ,cons->TA,refl->Su,swap->Sc
open List.cons renaming injEq->Tp
open Nat renaming add_assoc->R9,add_mul->RI,beq->OW,blt->RA,eq_zero_or_pos->PB,le_add_right->PV,le_mul_of_pos_right->SB,le_of_ble_eq_true->PC,le_refl->O3,le_succ->PJ,le_trans->Pz,lt_of_le_of_lt->R4,lt_of_lt_of_le->Pc,lt_or_ge->Re,lt_succ_self->Ru,zero_add->Pk,zero_le->PF,zero_lt_one->Tq,zero_mul->Sb
open Op renaming operands->O7
open Oper renaming looksAt->Pt
open Option.some renaming injEq->O6
open Region renaming binds->Rf
open Result renaming andThen_ok->O0
open Sem renaming run_bind->O5,run_pure->Pg
open UInt8 renaming toNat->R7
open Value renaming bool->SG,ownBlock->Ss
open _root_.Array renaming length_toList->SA,mem_toList_iff->R8,toList_append->Tc
section
def GW(P:Program)(s:my):Prop:=
 Y1 P s.f=true/\∀(x:Xi s.dom) (vs:List Value),vs.length=s.dom.length->Fn P s.f vs.toArray (Ai s.dom x vs) (fun v:Value=>v) (fun v=>[LH s.g (s.mc x) v]) (fun _=>True)
def Fs(P:Program)(s:KX):Prop:=
 Y1 P s.f=true/\∀xss ix r a p lo n xss',s.M xss ix r a p lo n=some xss'->∀(u hr hv:Value),(yL u)[r]? =some hr->lH (zN u) lo n hv->kV a->kV p->
  ∀we Se F G w,St we Se (Js s.t.rep s.E s.E1 u xss ix::F) G w->Calls P s.f #[hr,.int .i64 a,.int .i64 p,hv] w fun e w'=>∃v u',e=.returned v/\zN u'=zN u/\St we Se (Js s.t.rep s.E s.E1 u' xss' ix::F) G w'
def E4(P:Program)(s:UQ):Prop:=
 Y1 P s.f=true/\∀(x:uC s.dom) (X Y:Type) (mX:X->Value->MF) (mY:Y->Value->MF) (g:List s.t.D->X->Option (List s.t.D×(X⊕Y))) (x0:X) (r:X⊕Y),s.M x g x0=some r->∀(l:Nat) (vs:List Value),vs.length=s.dom.length->lk P l s.t.rep s.E mX mY g->
  ∀u we Se F G w,St we Se (mX x0 u::F) (wO P s.dom x vs++G) w->Calls P s.f (.func (.yield l) #[] #[]::vs).toArray w fun e w'=>(∃v,e=.returned v)/\∃u',St we Se (Sum.elim (fun x=>mX x u') (fun y=>mY y u') r::F) G w'
def Vo(P:Program)(p:qN):Prop:=
 Y1 P p.s.f=true/\∀(x:uC p.s.dom) (vs:List Value),vs.length=p.s.dom.length->
  (∀r,p.M x=some (.inr r)->Ud P p.s.f vs.toArray (wH p.s.dom x vs) (wO P p.s.dom x vs) (sn p.s.bk p.s.cod.length) (fun us=>wI p.s.cod r us) (fun us=>wC p.s.cod r us) (aK p.s.dom vs p.s.bk p.s.cod.length))/\
  ∀q,p.M x=some (.inl q)->∀we Se F G w,St we Se (wH p.s.dom x vs++F) (wO P p.s.dom x vs++G) w->Calls P p.s.f vs.toArray w fun e w'=>e=.panicked (XU q)/\St we Se F G w'
def qN.n(p:qN):jo:=⟨p.s.f,p.s.dom,p.s.cod,fun x=>(match p.M x with
 |some (.inr r)=>some r
 |_=>none),p.s.bk⟩
theorem Vo.n{P:Program}{p:qN}(h:Vo P p):zQ P p.n:=⟨h.1,fun x r hM vs hl=>(h.2 x vs hl).1 r (by
 have hM:(match p.M x with
  |some (.inr r)=>some r
  |_=>none)=some r:=hM
 split at hM
 ·grind
 ·cases hM)⟩
def Hk(s:kg)(z:s.t.D)(ys:List s.s.D)(u:Value):MF:=uk (fun _=>u) (0,.vr s.t s.E s.s s.E1 s.n s.i z ys)
def aj(P:Program)(s:kg):Prop:=
 Y1 P s.f=true/\∀z ys x r,s.M z ys x=some r->∀(u:Value) (vs:List Value),vs.length=s.dom.length->
  ∀we Se F G w,St we Se (Hk s z ys u::F) (Ai s.dom x vs++G) w->Calls P s.f (zN u::vs).toArray w fun e w'=>∃v u',e=.returned v/\zN u'=zN u/\St we Se (Hk s r.1 r.2 u'::F) G w'
structure Vd(P:Program)(cf:Cf):Prop where
 ex:X0 P cf.ex
 cl:∀s∈cf.cl,GW P s
 ms:∀s∈cf.ms,Fs P s
 is:∀s∈cf.is,E4 P s
 pp:P=Tryz.prog
 ps:∀p∈cf.ps,Vo P p
 vg:∀s∈cf.vg,aj P s
section
variable{P:Program}{cf:Cf}{cx σ:Sg}{F:List MF}{vs:Nat->Value}{env:yb}{S:Nat->Prop}{w:World}{R:Type}{r:R}
 {d:Option Tmp}{ty t yt:TypeId}{pos:String}{aft:Array Edge}{g:Option (Nat×Bool)}{x y:Operand}
theorem sA{f:FuncId}:∀{l:List KX}{s:KX},rQ l f=some s->s∈l/\s.f=f
 |c::l,s,h=>by
  unfold rQ at h;cases hb:OW c.f f<;>rw[hb]at h
  ·obtain⟨h1,h2⟩:=sA h;exact⟨H1 _ h1,h2⟩
  ·simp_all
theorem oc{f:FuncId}:∀{l:List kg}{s:kg},sO l f=some s->s∈l/\s.f=f
 |c::l,s,h=>by
  unfold sO at h;cases hb:OW c.f f<;>rw[hb]at h
  ·obtain⟨h1,h2⟩:=oc h;exact⟨H1 _ h1,h2⟩
  ·simp_all
theorem tI{f:FuncId}:∀{l:List my}{s:my},ou l f=some s->s∈l/\s.f=f
 |c::l,s,h=>by
  unfold ou at h;cases hb:OW c.f f<;>rw[hb]at h
  ·obtain⟨h1,h2⟩:=tI h;exact⟨H1 _ h1,h2⟩
  ·simp_all
theorem nG{f:FuncId}:∀{l:List UQ}{s:UQ},BO l f=some s->s∈l/\s.f=f
 |c::l,s,h=>by
  unfold BO at h;cases hb:OW c.f f<;>rw[hb]at h
  ·obtain⟨h1,h2⟩:=nG h;exact⟨H1 _ h1,h2⟩
  ·simp_all
theorem cP{α:Type}{e:zv α}{E E1:TypeId}{u:Value}{xss:List (List α)}{ix:List Nat}(h:(Js e E E1 u xss ix).p S w):(yL u).length=xss.length/\(mO (qs<|yL u) E (zN u) ix).p S w/\z7 S (xB e E1 (yL u) xss) w:=⟨h.1.1,h.1.2.1,h.1.2.2⟩
theorem W8{α:Type}{e:zv α}{E E1:TypeId}{u v:Value}{xss:List (List α)}{ix:List Nat}{r:Nat}(h:(Js e E E1 u xss ix).p S w)(hr:(yL u)[r]? =some v):(mO e E1 v<|vz xss r).p S w/\r<xss.length:=by
 obtain⟨h1,_,h3⟩:=cP h;have hl:=(O4.1 hr).1;have h4:xss[r]? =some (vz xss r):=by
  unfold vz;simp_all
 exact⟨z7.get h3<|kv hr h4,by lia⟩
theorem rA(hT:ya P cf.tt)(hL:vd P cf.tt){k:List (Nat×Dv)->Option R}(h:U1 cf cx σ t x y k=some r):∃l,k l=some r/\ES P ⟨d,.indexAddr t x y,ty,pos,aft,g⟩ cx σ F l:=by
 have hx:∀{vs env S w},(∀t'∈zV (.indexAddr t x y),Lk P vs env S w cx σ t')->qK P vs env S w cx σ x:=fun hl=>zO hl (by simp[O7]);have hy:∀{vs env S w},(∀t'∈zV (.indexAddr t x y),Lk P vs env S w cx σ t')->qK P vs env S w cx σ y:=fun hl=>zO hl (by simp[O7]);unfold U1 at h;split at h
 ·next e E B o ht ha=>
  split at h
  ·next s E' E1 xss ix ho=>
   obtain⟨bytes,zero,hb⟩:=ui hT hL ht;obtain⟨j,hj,h,hc⟩:=db h;refine⟨_,h,?_⟩;intro env w S vs hS hM hl;obtain⟨ik,hd⟩:=hc P vs env S w<|hy hl;have hm:(Js s.rep E' E1 (vs o) xss ix).p S w:=vM hM ho;obtain⟨b,cap,hv,_⟩:=uO (cP hm).2.1<|R4 (PF _) hj;have he:ev env x=zN (vs o):=za ha<|hx hl;exact xX.of_value (VG (xF hT ht) hb (he.trans hv) hd hj w) ⟨zH.refl _ _,zd ⟨b,_,_,hv,hj,rfl⟩⟩
  ·cases h
 ·next e E B o lo n ht ha=>
  split at h
  ·next s E' E1 xss ix ho=>
   obtain⟨bytes,zero,hb⟩:=ui hT hL ht;obtain⟨j,hj,h,hc⟩:=db h;refine⟨_,h,?_⟩;intro env w S vs hS hM hl;obtain⟨ik,hd⟩:=hc P vs env S w<|hy hl;rcases(za ha (hx hl):lH _ _ _ _).old with⟨b,m,cap,c,q1,q2,q3,q4,q5⟩|⟨q1,_⟩
   ·refine xX.of_value (VG (xF hT ht) hb q5 hd hj w) ⟨zH.refl _ _,zd ⟨b,_,_,q1,by lia,?_⟩⟩;show Value.pointer (some ⟨b,0+lo*1+j*1,none⟩)=Value.pointer (some ⟨b,0+(lo+j)*1,none⟩);rw[RI,R9]
   ·lia
  ·cases h
 ·next e E B o p ht ha=>
  split at h
  ·next s E' E1 xss ix ho=>
   obtain⟨hf,h1⟩:=zx h;cases hf;obtain⟨bytes,zero,hb⟩:=ui hT hL ht;obtain⟨j,hj,h,hc⟩:=db h1;refine⟨_,h,?_⟩;intro env w S vs hS hM hl;obtain⟨ik,hd⟩:=hc P vs env S w<|hy hl;have hm:(Js e.rep E' E1 (vs o) xss ix).p S w:=vM hM ho;have he:(yL<|vs o)[p]? =some (ev env x):=za ha<|hx hl;obtain⟨b,cap,hv,_⟩:=uO (W8 hm he).1<|R4 (PF _) hj;refine xX.of_value (VG (xF hT ht) hb hv hd hj w) ⟨zH.refl _ _,zd ⟨fun z=>vj.self e.rep z,b,_,_,by rw[<-hv];exact he,hj,by simp[Fl.self]⟩⟩
  ·cases h
 ·cases h
theorem Ni{α β:Type}{q:Prop}{e:zv α}{E off:Nat}{nl:α->α}{s:zv β}{E1:TypeId}{u:Value}{z:α}{xs:List β}(h:(MN q e E off nl s E1 u z xs).p S w):
 (yL u).length=1/\q/\∃b,zN u=.pointer (some ⟨b,0,none⟩)/\(mB (uJ e off nl<|yL u) E b (z,0)).p S w:=⟨h.1.1.1,h.1.1.2,h.1.2.1⟩
theorem Nh{α:Type}{q:Prop}{e:zv α}{E off:Nat}{nl:α->α}{u:Value}{z:α}(h:(NW q e E off nl u z).p S w):
 (yL u).length=1/\q/\∃b,zN u=.pointer (some ⟨b,0,none⟩)/\(mB (uJ e off nl<|yL u) E b (z,0)).p S w:=⟨h.1.1.1,h.1.1.2,h.1.2.1⟩
theorem iL{n i j:Nat}{s:Ty}{k:Fl s.D->Option R}(h:pW n s i j k=some r):i≠j/\∃f,yq n s i=some f/\k f=some r:=by
 obtain⟨h1,h⟩:=zw h;split at h
 ·next f hf=>
  refine⟨fun e=> ?_,f,hf,h⟩;simp_all
 ·cases h
theorem UC{o:Nat}{s s1:Ty}{E E1 n j:Nat}{z:s.D}{Y:Od}(ho:qS cx σ o=some Y)(hY:(∃xs,Y=.vr s E s1 E1 n j z xs)\/Y=.vh s E s1 E1 n j z)(hM:z7 S (MS vs σ.ob++(MS vs cx.ob++F)) w):
 mx s1 (yq n s j)/\∃b,zN (vs o)=.pointer (some ⟨b,0,none⟩)/\(mB (uJ s.rep (qv<|yq n s j) (vn s1 (yq n s j) [])<|yL<|vs o) E b (z,0)).p S w:=by
 have hm:=vM hM ho;rcases hY with⟨xs,rfl⟩|rfl
 ·exact(Ni hm).2
 ·exact(Nh hm).2
theorem gy(hT:ya P cf.tt){ti:TI}{o:Nat}{s s1:Ty}{E E1 n i j:Nat}{f:Fl s.D}{z:s.D}{Y:Od}{k:List (Nat×Dv)->Option R}(ht:vV cf t=some ti)(hd:yx cx σ x=some (.vf o s n i))(ho:qS cx σ o=some Y)
 (hY:(∃xs,Y=.vr s E s1 E1 n j z xs)\/Y=.vh s E s1 E1 n j z) (he:i≠j) (hf:yq n s i=some f) (h:(Ty.cast f.f ti.ty (f.get z) fun y=>k [(0,.d ti.ty y)])=some r):
 ∃l,k l=some r/\ES P ⟨d,.load t x,ty,pos,aft,g⟩ cx σ F l:=by
 obtain⟨ha,h⟩:=zx h;obtain⟨zero,hg,_⟩:=qn hT ht;have hc:=hf;obtain⟨off,ff,gt,st⟩:=f;simp only at ha;subst ha;refine⟨_,h,wG fun env w S vs hM hl=> ?_⟩;obtain⟨hi,b,h1,hb⟩:=UC ho hY hM;obtain⟨b',f',h2,h3,h4⟩:=za hd (zO hl<|by simp[O7]);rw[h1]at h2;cases h2;rw[hc]at h3;cases h3;exact⟨_,_,_,_,[],[mB (uJ s.rep (qv<|yq n s j) (vn s1 (yq n s j) [])<|yL<|vs o) E b (z,0)],qQ 0 rfl (h4.trans<|by rw[Pk]) (gZ hi hc he) hg,⟨hb,trivial⟩,trivial,fun u w' _ hf=>zd hf.1⟩
theorem GN(hT:ya P cf.tt){e:Ty}{E2 B2:Nat}{o:Nat}{s s1:Ty}{E E1 n i:Nat}{z:s.D}{xs:List s1.D}{k:List (Nat×Dv)->Option R}(ht:vV cf t=some ⟨.l e,.sl E2,B2⟩)(ha:yx cx σ x=some (.vf o s n i))(ho:qS cx σ o=some (.vr s E s1 E1 n i z xs))
 (h:k [(0,.rw o 0)]=some r):∃l,k l=some r/\ES P ⟨d,.load t x,ty,pos,aft,g⟩ cx σ F l:=by
 obtain⟨zero,hc,_⟩:=qn hT ht;refine⟨_,h,wG fun env w S vs hM hl=> ?_⟩;obtain⟨⟨off,gt,st,hj⟩,b,h1,hb⟩:=UC ho (.inl ⟨_,rfl⟩) hM;obtain⟨b',f',h2,h3,h4⟩:=za ha (zO hl<|by simp[O7]);rw[h1]at h2;cases h2;rw[hj]at h3;cases h3;exact⟨_,_,_,_,[],[mB (uJ s.rep (qv<|yq n s i) (vn s1 (yq n s i) [])<|yL<|vs o) E b (z,0)],qQ 0 rfl (h4.trans<|by rw[Pk,hj];rfl) (vj.hole) hc,⟨hb,trivial⟩,trivial,fun u w' _ hf=>zd<|ll hf.1⟩
theorem FE{k:List (Nat×Dv)->Option R}(h:re cx σ x k=some r):∃l,k l=some r/\ES P ⟨d,.nilCheck x,ty,pos,aft,g⟩ cx σ F l:=by
 have key:∀{o E E1 n j:Nat}{s s1:Ty}{z:s.D}{Y:Od},yx cx σ x=some (.mw o)->qS cx σ o=some Y->((∃xs,Y=.vr s E s1 E1 n j z xs)\/Y=.vh s E s1 E1 n j z)->k [(0,.mw o)]=some r->
  ∃l,k l=some r/\ES P ⟨d,.nilCheck x,ty,pos,aft,g⟩ cx σ F l:=fun ha ho hY h=>by
  refine⟨_,h,?_⟩;intro env w S vs hS hM hl;obtain⟨_,b,h1,_⟩:=UC ho hY hM;have hb:ev env x=zN (vs _):=za ha (zO hl<|by simp[O7]);exact xX.of_value (by simp[execOp,hb,h1]) ⟨zH.refl _ _,zd h1.symm⟩
 unfold re at h;split at h
 ·next o ha=>
  split at h
  ·next s E s1 E1 n' j z xs ho=>exact key ha ho (.inl ⟨_,rfl⟩) h
  ·grind
  ·cases h
 ·cases h
theorem nj(hT:ya P cf.tt){i:Nat}{k:List (Nat×Dv)->Option R}(h:af cf cx σ t x i k=some r):∃l,k l=some r/\ES P ⟨d,.fieldAddr t x i,ty,pos,aft,g⟩ cx σ F l:=by
 have hx:∀{vs env S w},(∀t'∈zV (.fieldAddr t x i),Lk P vs env S w cx σ t')->qK P vs env S w cx σ x:=fun hl=>zO hl<|by simp[O7]
 have key:∀{o E E1 n j:Nat}{s s1:Ty}{z:s.D}{Y:Od}{B:Nat},vV cf t=some ⟨s,.st n,B⟩->yx cx σ x=some (.mw o)->qS cx σ o=some Y->((∃xs,Y=.vr s E s1 E1 n j z xs)\/Y=.vh s E s1 E1 n j z)->(yq n s i).isSome=true->k [(0,.vf o s n i)]=some r->
  ∃l,k l=some r/\ES P ⟨d,.fieldAddr t x i,ty,pos,aft,g⟩ cx σ F l:=fun ht ha ho hY hf h=>by
  obtain⟨f,hf⟩:=Option.isSome_iff_exists.1 hf;refine⟨_,h,?_⟩;intro env w S vs hS hM hl;obtain⟨_,b,h1,_⟩:=UC ho hY hM;have hb:ev env x=zN (vs _):=za ha<|hx hl;exact xX.of_value (XJ (bU hT ht hf) (hb.trans h1) w) ⟨zH.refl _ _,zd ⟨b,f,h1,hf,rfl⟩⟩
 unfold af at h;split at h
 ·next e n B o ht ha=>
  split at h
  ·next s E s1 E1 n' j z xs ho=>
   obtain⟨hg,h⟩:=zw h;rw[IR,IR]at hg;obtain rfl:=zr hg.1.1;obtain rfl:=jQ hg.1.2;exact key ht ha ho (.inl ⟨_,rfl⟩) hg.2 h
  ·next s E s1 E1 n' j z ho=>
   obtain⟨hg,h⟩:=zw h;rw[IR,IR]at hg;obtain rfl:=zr hg.1.1;obtain rfl:=jQ hg.1.2;exact key ht ha ho (.inr rfl) hg.2 h
  ·cases h
 ·cases h
theorem CQ(hT:ya P cf.tt){k:List (Nat×Dv)->Option R}(h:ey cf cx σ t x k=some r):∃l,k l=some r/\ES P ⟨d,.load t x,ty,pos,aft,g⟩ cx σ F l:=by
 have hx:∀{vs env S w},(∀t'∈zV (.load t x),Lk P vs env S w cx σ t')->qK P vs env S w cx σ x:=fun hl=>zO hl (by simp[O7]);unfold ey at h;split at h
 ·next e E B o j ht ha=>
  split at h
  ·next s E' E1 xss ix ho=>
   obtain⟨zero,hi,_⟩:=qn hT ht;obtain⟨q,hq,h⟩:=yI h;refine⟨_,h,wG fun env w S vs hM hl=> ?_⟩;have hm:(Js s.rep E' E1 (vs o) xss ix).p S w:=vM hM ho;obtain⟨b,m,cap0,h1,h2,h3⟩:=za ha<|hx hl;obtain⟨a1,a2,a3⟩:=cP hm;have hn:m=ix.length:=by
    obtain⟨cs,h5,h6⟩:=a2;rcases h5.2 with⟨hv,h7⟩|⟨g',cap',cur,hv,_⟩
    ·rw[h1]at hv;cases hv
    ·rw[h1]at hv;cases hv;rfl
   obtain⟨b',cap',hv,hb⟩:=uO a2 (by lia);rw[h1]at hv;cases hv;have hc:=vj.rowT0 (qs<|yL<|vs o) cap0 ix j (ix.getD j 0)<|getD_some 0 h2;exact⟨_,_,_,_,[],[mB (rowT (qs<|yL<|vs o) cap0) E' b ix],qQ 0 rfl h3 hc hi,⟨hb,trivial⟩,trivial,fun u w' _ hf=>zd (by
    have:=ll hf.1;rw[<-hq]at this;exact this)⟩
  ·cases h
 ·next ti o e p j f hd ha=>
  split at h
  ·next s E' E1 xss ix ho=>
   obtain⟨he,h1⟩:=zx h;cases he;obtain⟨q,hq,h2⟩:=yI h1;obtain⟨he,h⟩:=zx h2;obtain⟨zero,hi,_⟩:=qn hT hd;obtain⟨off,ff,gt,st⟩:=f;simp only at he;subst he;refine⟨_,h,wG fun env w S vs hM hl=> ?_⟩;have hm:(Js e.rep E' E1 (vs o) xss ix).p S w:=vM hM ho;obtain⟨h0,b,m,cap,h1,h2,h3⟩:=za ha<|hx hl;have hr:=(W8 hm h1).1;have hn:m=(vz (α:=e.D) xss p).length:=by
    obtain⟨cs,h5,h6⟩:=hr;rcases h5.2 with⟨hv,h7⟩|⟨g',cap',cur,hv,_⟩
    ·cases hv
    ·cases hv;rfl
   obtain⟨b',cap',hv,hb⟩:=uO hr (by lia);cases hv;have hc:=(vj.rowT0 e.rep cap (vz (α:=e.D) xss p) j ((vz (α:=e.D) xss p).getD j e.z)<|getD_some e.z<|by lia).comp<|h0<|(vz (α:=e.D) xss p).getD j e.z;subst hq;exact⟨_,_,_,_,[],[mB (rowT e.rep cap) E1 b<|vz (α:=e.D) xss p],qQ 0 rfl h3 hc hi,⟨hb,trivial⟩,trivial,fun u w' _ hf=>zd hf.1⟩
  ·cases h
 ·next ti o s0 n0 i hd ha=>
  split at h
  ·next s E s1 E1 n j z xs ho=>
   obtain⟨hg,h⟩:=zw h;rw[IR]at hg;obtain rfl:=zr hg.1;obtain rfl:=jQ hg.2;cases hb:OW i j<;>rw[hb]at h
   ·obtain⟨hj,f,hf,h⟩:=iL h;exact gy hT hd ha ho (.inl ⟨_,rfl⟩) hj hf h
   ·obtain rfl:=zr hb;have h:GQ ti o k=some r:=h;unfold GQ at h;split at h
    ·next e E2 B2=>exact GN hT hd ha ho h
    ·cases h
  ·next s E s1 E1 n j z ho=>
   obtain⟨hg,h⟩:=zw h;rw[IR]at hg;obtain rfl:=zr hg.1;obtain rfl:=jQ hg.2;obtain⟨hj,f,hf,h⟩:=iL h;exact gy hT hd ha ho (.inr rfl) hj hf h
  ·cases h
 ·cases h
theorem pq(hT:ya P cf.tt)(hL:vd P cf.tt){lo hi:Option Operand}{k:List (Nat×Dv)->Option R}(h:Ua cf cx σ t x lo hi k=some r):∃l,k l=some r/\ES P ⟨d,.slice t x lo hi none,ty,pos,aft,g⟩ cx σ F l:=by
 have hx:∀{vs env S w},(∀t'∈zV (.slice t x lo hi none),Lk P vs env S w cx σ t')->qK P vs env S w cx σ x:=fun hl=>zO hl (by simp[O7]);have hb:∀{vs env S w z},lo=some z->(∀t'∈zV (.slice t x lo hi none),Lk P vs env S w cx σ t')->qK P vs env S w cx σ z:=fun e hl=>zO hl (by simp[O7,e]);have hc:∀{vs env S w z},hi=some z->(∀t'∈zV (.slice t x lo hi none),Lk P vs env S w cx σ t')->qK P vs env S w cx σ z:=fun e hl=>zO hl (by simp[O7,e]);unfold Ua at h;split at h
 ·next e E B o ht hk=>
  split at h
  ·next s E' E1 xss ix ho=>
   obtain⟨bytes,zero,hd⟩:=ui hT hL ht
   have key:∀(l m:Nat),l<=m->m<=ix.length->k [(0,.mv o l<|m-l)]=some r->(∀vs env S w,(∀t'∈zV (.slice t x lo hi none),Lk P vs env S w cx σ t')->((lo.map<|ev env)=some (.int .i64 (l:Int))\/(lo=none/\l=0))/\((hi.map<|ev env)=some (.int .i64 (m:Int))\/(hi=none/\m=ix.length)))->
    ∃l,k l=some r/\ES P ⟨d,.slice t x lo hi none,ty,pos,aft,g⟩ cx σ F l:=by
    intro l m h1 h2 h5 h4;refine⟨_,h5,fun env w S vs hS hM hl=> ?_⟩;obtain⟨h6,h7⟩:=h4 vs env S w hl;have he:ev env x=zN (vs o):=za hk<|hx hl;have hm:(Js s.rep E' E1 (vs o) xss ix).p S w:=vM hM ho;rcases XR (cP hm).2.1 with⟨hv,hf⟩|⟨b,cap,hv,hg,hn⟩
    ·rw[hf]at h2 h7;obtain rfl:m=0:=Nat.le_zero.1 h2;obtain rfl:l=0:=Nat.le_zero.1 h1;have hr:=UY (P:=P) (w:=w) (xF hT ht) hd (h6.imp id fun q=>by rw[q.1];rfl) (h7.imp id fun q=>by rw[q.1];rfl);refine xX.of_value (v:=.slice none 0 0) (w':=w) (by simp[execOp,he.trans hv,hr]) ⟨zH.refl _ _,zd (.inr ⟨hv,rfl,rfl,rfl⟩)⟩
    ·have hr:=Jd (P:=P) (b:=b) (o:=0) (n:=ix.length) (cap:=cap) (w:=w) (l:=l) (h:=m) (xF hT ht) hd (h6.imp id fun q=>⟨by rw[q.1];rfl,q.2⟩) (h7.imp id fun q=>⟨by rw[q.1];rfl,q.2⟩) h1<|Pz h2 hg;rw[<-hv,<-he]at hr;refine xX.of_value (v:=.slice (if cap=l then some ⟨b,0,none⟩else some ((⟨b,0,none⟩:Addr).add<|l*1)) (m-l)<|cap-l) (w':=w) (by simp[execOp,hr,Ty.rep,eS]) ⟨zH.refl _ _,zd ?_⟩;exact .inl ⟨b,ix.length,cap,hv,by lia,hg,by lia,by rw[xH]⟩
   rcases uG h with⟨e1,h1⟩|⟨zl,l,e1,h1,hj⟩
   ·rcases uG h1 with⟨e2,h2⟩|⟨zh,m,e2,h2,ha⟩
    ·obtain⟨a,c,q1,q2,q3,q4,q5⟩:=aa h2;exact key a c q1 q2 q3 fun vs env S w hl=>⟨.inr ⟨e1,(q4.resolve_left<|by simp).2⟩,.inr ⟨e2,(q5.resolve_left<|by simp).2⟩⟩
    ·obtain⟨a,c,q1,q2,q3,q4,q5⟩:=aa h2;rcases q5 with q5|⟨q5,_⟩
     ·cases q5;exact key a m q1 q2 q3 fun vs env S w hl=>⟨.inr ⟨e1,(q4.resolve_left<|by simp).2⟩,.inl<|by rw[e2];exact congrArg some<|ha P vs env S w<|hc e2 hl⟩
     ·cases q5
   ·rcases uG h1 with⟨e2,h2⟩|⟨zh,m,e2,h2,ha⟩
    ·obtain⟨a,c,q1,q2,q3,q4,q5⟩:=aa h2;rcases q4 with q4|⟨q4,_⟩
     ·cases q4;exact key l c q1 q2 q3 fun vs env S w hl=>⟨.inl (by rw[e1];exact congrArg some<|hj P vs env S w<|hb e1 hl),.inr ⟨e2,(q5.resolve_left<|by simp).2⟩⟩
     ·cases q4
    ·obtain⟨a,c,q1,q2,q3,q4,q5⟩:=aa h2;rcases q4 with q4|⟨q4,_⟩
     ·rcases q5 with q5|⟨q5,_⟩
      ·cases q4;cases q5;exact key l m q1 q2 q3 fun vs env S w hl=>⟨.inl (by rw[e1];exact congrArg some<|hj P vs env S w<|hb e1 hl),.inl<|by rw[e2];exact congrArg some<|ha P vs env S w<|hc e2 hl⟩
      ·cases q5
     ·cases q4
  ·cases h
 ·cases h
theorem Ev(hT:ya P cf.tt){ags:Array Operand}{ts:Array TypeId}{k:List (Nat×Dv)->Option R}(h:oB cf cx σ ags.toList ts.toList k=some r):
 ∃l,k l=some r/\ES P ⟨d,.call ⟨.builtin .len,ags,ts⟩,ty,pos,aft,g⟩ cx σ F l:=by
 unfold oB at h;split at h
 ·next _ _ x t hg hi=>
  obtain rfl:ags= #[x]:=by cases ags;simp_all
  obtain rfl:ts= #[t]:=by cases ts;simp_all
  have hx:∀{vs env S w},(∀t'∈zV (.call ⟨.builtin .len,#[x],#[t]⟩),Lk P vs env S w cx σ t')->qK P vs env S w cx σ x:=fun hl=>zO hl (by simp[O7,SD]);split at h
  ·next e E B o ht hb=>
   split at h
   ·next s E' E1 xss ix ho=>
    refine⟨_,h,wG fun env w S vs hM hl=> ?_⟩;have hm:(Js s.rep E' E1 (vs o) xss ix).p S w:=vM hM ho;exact⟨_,_,_,_,[],[mO (qs<|yL<|vs o) E' (zN<|vs o) ix],VJ 0 rfl (xF hT ht)<|za hb<|hx hl,⟨(cP hm).2.1,trivial⟩,trivial,fun u w' hk hf=>zd<|yV<|JY hk⟩
   ·cases h
  ·next e E B o lo n ht hb=>
   split at h
   ·next s E' E1 xss ix ho=>
    refine⟨_,h,zf fun env w S vs hl=> ?_⟩;rcases(za hb (hx hl):lH _ _ _ _).old with⟨b,m,cap,c,q1,q2,q3,q4,q5⟩|⟨q1,ao,c,q2,q3⟩
    ·exact⟨_,aV (xF hT ht) q5 w,zd<|yV<|JY<|by lia⟩
    ·subst q1;exact⟨_,aV (xF hT ht) q3 w,zd<|yV<|by decide⟩
   ·cases h
  ·next e E B o p ht hb=>
   split at h
   ·next s E' E1 xss ix ho=>
    refine⟨_,h,wG fun env w S vs hM hl=> ?_⟩;have hm:(Js s.rep E' E1 (vs o) xss ix).p S w:=vM hM ho;have hc:(yL<|vs o)[p]? =some (ev env x):=za hb<|hx hl;exact⟨_,_,_,_,[],[mO s.rep E1 (ev env x)<|vz xss p],VJ 0 rfl (xF hT ht) rfl,⟨(W8 hm hc).1,trivial⟩,trivial,fun u w' hk hf=>zd<|yV<|JY hk⟩
   ·next s E' s1 E1 n' i' z xs ho=>
    refine⟨_,h,wG fun env w S vs hM hl=> ?_⟩;have hm:=vM hM ho;have hc:(yL<|vs o)[p]? =some (ev env x):=za hb<|hx hl;have he:(yL<|vs o).length=1:=hm.1.1.1;have hd:(mO s1.rep E1 ((yL<|vs o).headD undef) xs).p S w:=hm.1.2.2.1;have hp:(yL<|vs o).headD undef=ev env x:=by
     obtain⟨a,ha⟩:=P2.1 he;rw[ha]at hc⊢
     cases p with
     |zero=>simpa using hc
     |succ p=>simp at hc
    rw[hp]at hd;exact⟨_,_,_,_,[],[mO s1.rep E1 (ev env x) xs],VJ 0 rfl (xF hT ht) rfl,⟨hd,trivial⟩,trivial,fun u w' hk hf=>zd<|yV<|JY hk⟩
   ·cases h
  ·cases h
 ·cases h
def Hg:Nat->Prop:=fun _=>True
theorem dM(f:FF)(h:f.p S w):f.p Hg w:=f.sub h fun _ _ _=>trivial
theorem Wq(hC:∀s∈cf.cs,zQ P s):∀{dom:List AM}{xs:List Operand}{cs:List PD}{k:uC dom->Option R},jX cf cx σ dom xs cs k=some r->
 ∃z,k z=some r/\xs.length+cs.length=dom.length/\∀vs env S w,z7 S (MS vs σ.ob++(MS vs cx.ob++F)) w->(∀x∈xs,qK P vs env S w cx σ x)->∀cvs:List Value,cvs.length=cs.length->ze S (JH cs cvs) w->ze Hg (wO P dom z<|xs.map (ev env)++cvs) w
 |[],[],[],k,h=>⟨(),h,rfl,fun _ _ _ _ _ _ _ _ _=>trivial⟩
 |.q t::dom,[],c::cs,k,h=>by
  simp only[jX]at h;obtain⟨e,h⟩:=zx h;subst e;obtain⟨z,h1,h2,h3⟩:=Wq hC h;refine⟨_,h1,by simp at h2⊢;lia,fun vs env S w hM hl cvs ha hb=> ?_⟩
  cases cvs with
  |nil=>cases ha
  |cons v cvs=>exact⟨dM _ hb.1,h3 vs env S w hM hl cvs (by simpa using ha) hb.2⟩
 |.d t::dom,x::xs,cs,k,h=>by
  simp only[jX]at h;split at h
  ·next o lo n hc=>
   split at h
   ·next s E E1 xss ix ho=>
    obtain⟨e,h⟩:=zx h;subst e;obtain⟨z,h1,h2,h3⟩:=Wq hC h;refine⟨_,h1,by simp at h2⊢;lia,fun vs env S w hM hl cvs ha hb=>⟨?_,h3 vs env S w hM (fun z hz=>hl z<|H1 _ hz) cvs ha hb⟩⟩;have hm:(Js s.rep E E1 (vs o) xss ix).p S w:=vM hM ho;obtain⟨a1,a2,a3⟩:=cP hm;have h4:(mO (eS s.rep) E (zN<|vs o)<|mQ xss ix).p Hg w:=by
     obtain⟨cs',q1,q2⟩:=a2;refine⟨cs',by unfold mQ;rw[Rp];exact q1,?_⟩;exact W5 a1 (fun _ _=>trivial) (fun _ _ _ _=>trivial) a3 q2
    show(fV (eS<|eS s.rep) (TB n<|TX lo<|mQ xss ix)<|ev env x).p Hg w;rcases(za hc (hl x<|Nm):lH _ _ _ _).old with⟨b,m,cap,c,q1,q2,q3,q4,q5⟩|⟨q1,ao,c,q2,q3⟩
    ·have:=Uh h4 q1 q2 q3 q4;rw[q5];obtain⟨ao,c',p1,p2,p3,p4⟩:=this;refine yX.2 ⟨ao,c',p1,p2,p3,p4.imp id ?_⟩;rintro⟨b',o',cs',r1,r2,r3⟩;exact⟨b',o',cs',r1,trivial,r2,r3⟩
    ·subst q1;rw[q3];exact yX.2 ⟨ao,c,by simp,by simp,by unfold maxLen;lia,.inl<|by simp⟩
   ·cases h
  ·obtain⟨y,h,hy⟩:=jw h;obtain⟨z,h1,h2,h3⟩:=Wq hC h;exact⟨_,h1,by simp at h2⊢;lia,fun vs env S w hM hl cvs ha hb=>⟨dM _<|hy P vs env S w<|hl x<|Nm,h3 vs env S w hM (fun z hz=>hl z<|H1 _ hz) cvs ha hb⟩⟩
 |.fn dom' cod::dom,x::xs,cs,k,h=>by
  simp only[jX]at h;obtain⟨f,h,hf⟩:=tG hC h;obtain⟨z,h1,h2,h3⟩:=Wq hC h;refine⟨_,h1,by simp at h2⊢;lia,fun vs env S w hM hl cvs ha hb=>⟨?_,h3 vs env S w hM (fun z hz=>hl z<|H1 _ hz) cvs ha hb⟩⟩
  cases hv:yx cx σ x with
  |none=>rename_i h0;rw[hv]at h0;simp[Dk]at h0
  |some v=>exact dM _<|hf vs S w v _ hv<|za hv<|hl x<|Nm
 |[],_::_,_,_,h=>by simp[jX]at h
 |[],[],_::_,_,h=>by simp[jX]at h
 |.d _::_,[],_,_,h=>by simp[jX]at h
 |.own _ _::_,_,_,_,h=>by simp[jX]at h
 |.q _::_,_::_,_,_,h=>by simp[jX]at h
 |.fn _ _::_,[],_,_,h=>by simp[jX]at h
 |.q _::_,[],[],_,h=>by simp[jX]at h
theorem U6:∀{rs:List RM}{x:Km (rs.map RM.ty)}{us:List Value},bX rs=true->ze Hg (DM (rs.map RM.ty) x us) w->ze S (DM (rs.map RM.ty) x us) w
 |[],_,_,_,_=>trivial
 |[.d .i],x,us,_,h=>⟨h.1,trivial⟩
 |[.d .u],x,us,_,h=>⟨h.1,trivial⟩
 |[.d .b],x,us,_,h=>⟨h.1,trivial⟩
 |.d .i::n::r,x,us,hf,h=>⟨h.1,U6 (rs:=n::r) hf h.2⟩
 |.d .u::n::r,x,us,hf,h=>⟨h.1,U6 (rs:=n::r) hf h.2⟩
 |.d .b::n::r,x,us,hf,h=>⟨h.1,U6 (rs:=n::r) hf h.2⟩
theorem Cj(hC:∀s∈cf.cs,zQ P s)(hX:Vd P cf){f:Operand}{ags:Array Operand}{ts:Array TypeId}{k:List (Nat×Dv)->Option R}(h:ee cf cx σ f ags.toList k=some r):
 ∃l,k l=some r/\ES P ⟨d,.call ⟨.value f,ags,ts⟩,ty,pos,aft,g⟩ cx σ F l:=by
 have hf:∀{vs env S w},(∀t'∈zV (.call ⟨.value f,ags,ts⟩),Lk P vs env S w cx σ t')->qK P vs env S w cx σ f:=fun hl=>zO hl (by simp[O7,SD]);have ha:∀{vs env S w},(∀t'∈zV (.call ⟨.value f,ags,ts⟩),Lk P vs env S w cx σ t')->∀x∈ags.toList,qK P vs env S w cx σ x:=fun hl x hx=>zO hl (by simp only[O7,SD,Tc,OX];exact .inr hx);unfold ee at h;split at h
 ·next f0 cs hj=>
  split at h
  ·next s hs=>
   obtain⟨h1,h2⟩:=tI hs;obtain⟨hb,he⟩:=hX.cl s h1;obtain⟨z,h,hd,hz⟩:=VE h;refine⟨_,h,wG fun env w S vs hM hl=> ?_⟩;obtain⟨cvs,hv,hg,hk⟩:=za hj<|hf hl;obtain rfl:cvs=[]:=Rl.1 hg;have hc:=he z (ags.toList.map<|ev env) (by simpa using hd);rw[h2]at hc hb;rw[<-Ps<|ags.toList.map<|ev env]at hc;exact⟨_,_,_,_,Ai s.dom z<|ags.toList.map (ev env)++[],[],XG (aas:=ags.toList) hb hv hc rfl<|fun S w h=>h,trivial,by rw[Ps];exact hz P vs env S w<|ha hl,fun v w' _ hi=>zd hi.1⟩
  ·split at h
   ·next s hs=>
    obtain⟨h1,h2,h3,h4,h5⟩:=VA hs;have he:=hC s h1;obtain⟨hn,h⟩:=zw h;obtain⟨z,h,hd,hz⟩:=Wq (F:=F) hC h;obtain⟨q,hq,h⟩:=ZP h;refine⟨_,h,fun env w S vs hS hM hl=> ?_⟩;obtain⟨cvs,hv,hg,hk⟩:=za hj<|hf hl;have hc:=Xm he h3 h4 h5 hq (us:=ags.toList.map (ev env)++cvs) (by simp at hd⊢;lia);rw[h2]at hc;have hm:=hz vs env S w hM (ha hl) cvs hg hk;refine(XG (aas:=ags.toList) (ms:=[]) (Γ:=wO P s.dom z<|ags.toList.map (ev env)++cvs) (h2▸he.1) hv hc rfl (fun S w h=>h) w Hg ⟨fun _ _=>trivial,hS.gv⟩ trivial hm).mono ?_;rintro v w' ⟨us,rfl,ho,hx,hi⟩;refine⟨hx,?_⟩;unfold AK;rw[Uc h5,bf];exact QA (U6 hn hi)<|by simpa using ho
   ·cases h
 ·cases h
theorem Mq(hT:ya P cf.tt)(hL:vd P cf.tt)(hC:∀s∈cf.cs,zQ P s)(hX:Vd P cf){op:Op}{k:List (Nat×Dv)->Option R}(h:Nb cf cx σ op k=some r):∃l,k l=some r/\ES P ⟨d,op,ty,pos,aft,g⟩ cx σ F l:=by
 unfold Nb at h;split at h
 ·exact CQ hT h
 ·exact rA hT hL h
 ·exact nj hT h
 ·exact pq hT hL h
 ·exact Ev hT h
 ·exact Cj hC hX h
 ·exact FE h
 ·cases h
theorem nK(hT:ya P cf.tt)(hL:vd P cf.tt)(hC:∀s∈cf.cs,zQ P s)(hX:Vd P cf){op:Op}{k:List (Nat×Dv)->Option R}(h:HJ cf cx σ op k=some r):∃l,k l=some r/\ES P ⟨d,op,ty,pos,aft,g⟩ cx σ F l:=by
 unfold HJ at h;cases hc:HY cf cx σ op<;>rw[hc]at h
 ·exact Ew hT hL hC hX.ex h
 ·exact Mq hT hL hC hX h
end
end
section
section
variable{P:Program}{cf:Cf}{fr:Fr}{cx σ:Sg}{vs vs':Nat->Value}{env:yb}{w:World}{R:Type}{r:R}
 {d:Option Tmp}{ty t yt:TypeId}{pos:String}{aft:Array Edge}{g:Option (Nat×Bool)}{x y:Operand}
abbrev GS(P:Program)(vs:Nat->Value)(env:yb)(fr:Fr)(cx σ:Sg):List FF:=RS P vs env σ.rg++(RS P vs env cx.rg++fr.G)
abbrev OS(vs:Nat->Value)(fr:Fr)(cx:Sg)(ob:List (Nat×Od)):List MF:=MS vs ob++(MS vs cx.ob++fr.F)
theorem qZ{S:Nat->Prop}(h:ze S (GS P vs env fr cx σ) w)(t:Tmp):Lk P vs env S w cx σ t:=by
 intro i dv hd;rcases VI hd with hm|hm
 ·exact kD (ze.left h) hm
 ·exact kD (ze.left<|ze.right h) hm
theorem zj{S:Nat->Prop}(h:ze S (GS P vs env fr cx σ) w)(x:Operand):qK P vs env S w cx σ x:=fun t _=>qZ h t
def ZR(P:Program)(fr:Fr)(cx σ:Sg)(vs:Nat->Value)(env:yb)(w:World):Prop:=Bd cx σ/\St fr.we fr.Se (OS vs fr cx σ.ob) (GS P vs env fr cx σ) w
def Xt(P:Program)(fr:Fr)(cx:Sg)(n:Nat)(vs:Nat->Value)(σ:Sg)(env:yb)(w:World):Prop:=∃vs',(∀o,o<n->vs' o=vs o)/\ZR P fr cx σ vs' env w
theorem Xt.rel{n:Nat}(h:Xt P fr cx n vs σ env w):vD P fr cx σ env w:=by
 obtain⟨vs',_,h1,h2⟩:=h;exact⟨h1,vs',h2⟩
theorem Uf{v:Value}{σ':Sg}{l:List (Nat×Dv)}{Γl:List FF}(hB:Bd cx σ)(hd:yJ cx d=true)(ha:σ'.rg=xK σ.rg d l)(hn:σ.nx<=σ'.nx)(hb:∀o,o<σ.nx->vs' o=vs o)
 (hl:∀e∈l,∀o,xz e.2=some o->o<σ'.nx) (hi:∀e∈σ'.ob,e.1<σ'.nx) (hf:∀S w,ze S Γl w->∀e∈l,(xG P vs' e.2 v e.1).p S w)
 (hj:St fr.we fr.Se (OS vs' fr cx σ'.ob) (Γl++GS P vs env fr cx σ) w):ZR P fr cx σ' vs' (put env d v) w:=by
 refine⟨⟨hi,fun e he=>Pc (hB.o2 e he) hn,?_,fun e he o ho=>Pc (hB.r2 e he o ho) hn⟩,hj.weak fun S w h=> ?_⟩
 ·intro e he o ho;rw[ha]at he;unfold xK at he
  cases d with
  |none=>exact Pc (hB.r1 e he o ho) hn
  |some t=>
   rcases OX.1 he with he|he
   ·grind
   ·exact Pc (hB.r1 e (PO.1 he).1 o ho) hn
 ·have hΓ:=ze.right h;have h1:ze S (RS P vs' env σ.rg) w:=by rw[xO (fun e he o ho=>hb o<|hB.r1 e he o ho)<|fun _ _=>rfl];exact ze.left hΓ
  have h2:ze S (RS P vs' env cx.rg) w:=by rw[xO (fun e he o ho=>hb o<|hB.r2 e he o ho)<|fun _ _=>rfl];exact ze.left<|ze.right hΓ
  have h3:=ze.right<|ze.right hΓ
  cases d with
  |none=>
   unfold GS;rw[show σ'.rg=σ.rg from ha];exact ze.append h1<|ze.append h2 h3
  |some t=>
   have hk:RS P vs' (put env (some t) v) cx.rg=RS P vs' env cx.rg:=xO (fun _ _ _ _=>rfl) fun e he=>ZX fun ht=>by
    simp only[yJ,qk,Pe]at hd;have:=hd e he;simp only[O6]at ht;rw[ht]at this;simp at this
   unfold GS;rw[ha,hk];refine ze.append (wg.2 fun f hm=> ?_)<|ze.append h2 h3;obtain⟨e,he,rfl⟩:=O8.1 hm;rcases OX.1 he with he|he
   ·obtain⟨e',hp,rfl⟩:=O8.1 he;simp only[Vf];exact hf S w (ze.left h) e' hp
   ·obtain⟨hq,hg⟩:=PO.1 he;have hr:some t≠some e.1:=fun hc=>by
     simp only[O6]at hc;rw[hc]at hg;simp at hg
    rw[ZX hr];exact kD h1 hq
theorem jR{v:Value}{σ':Sg}{l:List (Nat×Dv)}{Γl:List FF}(hB:Bd cx σ)(hd:yJ cx d=true)(hb:σ'.rg=xK σ.rg d l)(hn:σ.nx<=σ'.nx)(ha:∀o,o<σ.nx->vs' o=vs o)
 (hl:∀e∈l,∀o,xz e.2=some o->o<σ'.nx) (hc:∀e∈σ'.ob,e.1<σ'.nx) (hf:∀S w,ze S Γl w->∀e∈l,(xG P vs' e.2 v e.1).p S w)
 (he:St fr.we fr.Se (OS vs' fr cx σ'.ob) (Γl++GS P vs env fr cx σ) w):Xt P fr cx σ.nx vs σ' (put env d v) w:=⟨vs',ha,Uf hB hd hb hn ha hl hc hf he⟩
def GV(P:Program)(vs:Nat->Value)(v:Value)(l:List (Nat×Dv)):List FF:=l.map fun e=>xG P vs e.2 v e.1
theorem J5{n:Nat}{l:List (Nat×Dv)}(h:Gq n l=true):∀e∈l,∀o,xz e.2=some o->o<n:=by
 intro e he o ho;unfold Gq at h;rw[Pe]at h;have:=h e he;simp_all
theorem ES.mono{o:Oper}{l:List (Nat×Dv)}{F:List MF}(h:ES P o cx σ [] l):ES P o cx σ F l:=by
 intro env w S vs h1 h2 h3;refine h env w S vs h1 (qo.2 fun m hm=>qo.1 h2 m ?_) h3;rcases OX.1 hm with hm|hm
 ·simp_all
 ·simp_all
theorem Du{o:Oper}{l:List (Nat×Dv)}(h:ES P o cx σ fr.F l)(hd:yJ cx o.dst=true)(hl:Gq σ.nx l=true)(hR:ZR P fr cx σ vs env w):xX P o env w (fun v w'=>Xt P fr cx σ.nx vs (σ.put o.dst l) (put env o.dst v) w'):=by
 obtain⟨hB,h1,h2,h3,S,h4,h5,h6,h7,h8⟩:=hR;refine(h env w S vs (h2.at h1 h5) h7 fun t _=>qZ h8 t).mono ?_;rintro v w' ⟨hx,hf⟩;refine jR hB hd rfl (O3 _) (fun _ _=>rfl) (J5 hl) hB.o1 (fun S w ha e he=>wg.1 ha _<|O8.2 ⟨e,he,rfl⟩) ?_;refine⟨h1.trans hx,h2,h3,S,h4,fun k hk=>h5 k<|Pz hx.size hk,h6,z7.keep hx.to (fun m hm i hi=>hx.block i (z7.lt h7 m hm i hi) trivial) h7,ze.append (wg.2 fun f hb=> ?_)<|ze.keep hx.to h8⟩;obtain⟨e,he,rfl⟩:=O8.1 hb;simp_all
def Yj(P:Program)(cx:Sg)(o:Oper)(σ:Sg)(k:Sg->Option R)(r:R):Prop:=∃σ',k σ'=some r/\σ.nx<=σ'.nx/\∀(fr:Fr) (vs:Nat->Value) (env:yb) (w:World),ZR P fr cx σ vs env w->xX P o env w (fun v w'=>Xt P fr cx σ.nx vs σ' (put env o.dst v) w')
theorem HN(hT:ya P cf.tt)(hL:vd P cf.tt)(hC:∀s∈cf.cs,zQ P s)(hX:Vd P cf){op:Op}{k:Sg->Option R}(hd:yJ cx d=true)(h:mE cf cx σ d op k=some r):Yj P cx ⟨d,op,ty,pos,aft,g⟩ σ k r:=by
 obtain⟨l,h,ha⟩:=nK hT hL hC hX h;obtain⟨hl,h⟩:=zw h;exact⟨_,h,O3 _,fun fr vs env w hR=>Du ha.mono hd hl hR⟩
def ja(vs:Nat->Value)(n:Nat)(v:Value):Nat->Value:=fun o=>bif OW o n then v else vs o
theorem yK{n:Nat}{v:Value}:ja vs n v n=v:=by simp[ja]
theorem wz{n o:Nat}{v:Value}(h:o<n):ja vs n v o=vs o:=by unfold ja;rw[qt<|by lia];rfl
theorem se{n:Nat}{v:Value}{ob:List (Nat×Od)}(h:∀e∈ob,e.1<n):MS (ja vs n v) ob=MS vs ob:=yY fun e he=>wz<|h e he
theorem K8{v:Value}{ob:List (Nat×Od)}(hB:Bd cx σ)(h:∀e∈ob,e.1<σ.nx):OS (ja vs σ.nx v) fr cx ob=OS vs fr cx ob:=by
 show MS _ ob++(MS _ cx.ob++_)=_;rw[se h,se hB.o2]
theorem kh{v:Value}{mk:Nat->Dv}{X:Od}{ob:List (Nat×Od)}(hB:Bd cx σ)(hd:yJ cx d=true)(ha:∀e∈ob,e.1<σ.nx)(hf:∀o,xz (mk o)=some o)(hb:∀S w,(yW P (ja vs σ.nx v) (mk σ.nx) v).p S w)
 (hc:St fr.we fr.Se (uk (ja vs σ.nx v) (σ.nx,X)::OS vs fr cx ob) (GS P vs env fr cx σ) w):Xt P fr cx σ.nx vs ⟨σ.nx+1,xK σ.rg d [(0,mk σ.nx)],(σ.nx,X)::ob⟩ (put env d v) w:=by
 refine jR (vs':=ja vs σ.nx v) (Γl:=[]) hB hd rfl (PJ _) (fun o ho=>wz ho) ?_ ?_ ?_ ?_
 ·simp_all
 ·grind
 ·intro S w _ e he;obtain rfl:=OZ.1 he;exact hb S w
 ·show St _ _ (uk (ja vs σ.nx v) (σ.nx,X)::OS (ja vs σ.nx v) fr cx ob) _ _;rw[K8 hB ha];exact hc
theorem jZ{v:Value}(S:Nat->Prop)(w:World):(yW P (ja vs σ.nx v) (.ow σ.nx) v).p S w:=(yK).symm
theorem df{t:Ty}{b:Nat}(S:Nat->Prop)(w:World):(yW P (ja vs σ.nx (.pointer<|some ⟨b,0,none⟩)) (.vs σ.nx t) (.pointer<|some ⟨b,0,none⟩)).p S w:=⟨yK.symm,b,yK⟩
theorem kz{t:Ty}{E:TypeId}{xs:List t.D}{n:Nat}{v:Value}:uk (ja vs n v) (n,.own t E xs)=mO t.rep E v xs:=by simp only[uk,yK]
theorem Uy{t:Ty}{E:TypeId}{z:t.D}{n:Nat}{v:Value}:uk (ja vs n v) (n,.var t E z)=mP t.rep.c E v z:=by simp only[uk,yK]
theorem A1(hT:ya P cf.tt){E:TypeId}{k:Sg->Option R}(hd:yJ cx d=true)(h:dW cf σ d E k=some r):Yj P cx ⟨d,.alloc E,ty,pos,aft,g⟩ σ k r:=by
 unfold dW at h;split at h
 ·next ti ha=>
  obtain⟨zero,hb,hf,hc⟩:=qn hT ha;refine⟨_,h,PJ _,fun fr vs env w hR=> ?_⟩;obtain⟨hB,he⟩:=hR;refine(W0 (e:=ti.ty.rep.c) hb hc w he).mono ?_;rintro v w' ⟨b,rfl,_,hs⟩;refine kh (mk:=fun o=> .vs o ti.ty) hB hd hB.o1 (fun _=>rfl) (fun S w=>df S w) ?_;rw[Uy];exact hs.toP 0 rfl
 ·cases h
theorem Hp{E:TypeId}{k:Sg->Option R}(hd:yJ cx d=true)(h:Fv cf cx σ d E x k=some r):Yj P cx ⟨d,.box E x,ty,pos,aft,g⟩ σ k r:=by
 unfold Fv at h;split at h
 ·next ti hc=>
  obtain⟨y,h,hy⟩:=jw h;refine⟨_,h,PJ _,fun fr vs env w hR=> ?_⟩;obtain⟨hB,hb⟩:=hR;refine(AA rfl (fun S w ha=>hy P vs env S w<|zj ha x) w hb).mono ?_;rintro v w' ⟨b,rfl,_,hs⟩;refine kh (mk:=fun o=> .vs o ti.ty) hB hd hB.o1 (fun _=>rfl) (fun S w=>df S w) ?_;rw[Uy];exact hs.toP 0 rfl
 ·cases h
theorem iC(h:iU x y=true):ev env x=ev env y:=by
 unfold iU at h;split at h
 ·rw[zr h]
 ·simp only[HF,decide_eq_true_eq]at h;rw[h]
 ·cases h
theorem GZ(hT:ya P cf.tt){k:Sg->Option R}(hd:yJ cx d=true)(h:sU cf cx σ d t x y k=some r):Yj P cx ⟨d,.makeSlice t x y,ty,pos,aft,g⟩ σ k r:=by
 unfold sU at h;split at h
 ·next s E B ht=>
  obtain⟨hi,h⟩:=zw h;split at h
  ·next ti n he hn=>
   obtain⟨hk,h⟩:=zx h;subst hk;obtain⟨zero,hl,ho,hm⟩:=qn hT he;obtain⟨j,hj,h⟩:=gN h;obtain⟨hb,h⟩:=wK h;obtain⟨xs,hf,h⟩:=yI h;refine⟨_,h,PJ _,fun fr vs env w hR=> ?_⟩;obtain⟨hB,hg⟩:=hR;obtain⟨S0,_,hΓ⟩:=hg.ex;have hx:ev env x=.int .i64 (j:Int):=by rw[(xn hn<|zj hΓ x).1,hj]
   have ha:=(hT _ _ he).2.1;refine(ca (e:=ti.ty.rep) (z:=ti.ty.z) (xs:=xs) (n:=j) (xF hT ht) hl hx ((iC hi).symm.trans hx) ha hb hm hf w hg).mono ?_;rintro v w' ⟨b,rfl,_,hs⟩;refine kh (vs:=vs) (mk:=.ow) hB hd hB.o1 (fun _=>rfl) (fun S w=>jZ S w) ?_;rw[kz];have hc:xs.length=j:=by rw[hf];exact Sp
   have:=hs.closeF 0 rfl (by rw[hc];exact O3 _)<|oJ ha hb;rw[hc]at this;exact this
  ·cases h
 ·cases h
theorem H9(hT:ya P cf.tt)(hL:vd P cf.tt){n:Nat}{ps:Array (Nat×Operand)}{k:Sg->Option R}(hd:yJ cx d=true)(h:Ea cf cx σ d t n ps.toList k=some r):Yj P cx ⟨d,.buildSlice t n ps,ty,pos,aft,g⟩ σ k r:=by
 unfold Ea at h;split at h
 ·next e E B ht=>
  obtain⟨hb,h⟩:=zw h;have hb:=PC hb;rw[<-e.n_rep]at hb;obtain⟨ys,h,he,hf⟩:=X8 h;obtain⟨bytes,zero,hg⟩:=ui hT hL ht;refine⟨_,h,PJ _,fun fr vs env w hR=> ?_⟩;obtain⟨hB,hi⟩:=hR;have hc:(ps.toList.map fun q:Nat×Operand=>(q.1,ev env q.2)).map (·.1)=RK 0 (ps.toList.map fun q:Nat×Operand=>(q.1,ev env q.2)).length:=by rw[Sz,Rp];exact he
  have hj:=fun(S:Nat->Prop) (w:World) (ha:ze S (GS P vs env fr cx σ) w)=>UX hc<|hf P vs env S w fun x _=>zj ha x;refine(tJ (xF hT ht) hg (Ag hT hL ht) (YO n e ys) hb rfl (fun S w ha=>by have:=(hj S w ha).1;rwa[Sb]at this) (fun S w ha=>(hj S w ha).2) w hi).mono ?_;rintro v w' ⟨b,rfl,_,hs⟩;refine kh hB hd hB.o1 (fun _=>rfl) (fun S w=>jZ S w) ?_;rw[kz];exact hs
 ·cases h
end
end
section
section
variable{P:Program}{cf:Cf}{fr:Fr}{cx σ:Sg}{vs vs':Nat->Value}{env:yb}{w:World}{R:Type}{r:R}
 {d:Option Tmp}{ty t yt:TypeId}{pos:String}{aft:Array Edge}{g:Option (Nat×Bool)}{x y:Operand}
theorem kH{ob:List (Nat×Od)}{o:Nat}{X Y:Od}(h:yE ob o=some X):∀e∈ve ob o Y,∃e'∈ob,e'.1=e.1:=by grind [xm]
theorem xv:∀{ob:List (Nat×Od)}{o:Nat},∀e∈zD ob o,e∈ob
 |(o',X)::r,o,e,he=>by
  unfold zD at he;cases hb:OW o' o<;>rw[hb]at he
  ·rcases OY.1 he with rfl|he
   ·simp_all
   ·exact H1 _<|xv e he
  ·simp_all
theorem YS{o:Nat}{X Y:Od}{v:Value}(hB:Bd cx σ)(ho:yE σ.ob o=some X)(ha:St fr.we fr.Se (OS vs fr cx<|ve σ.ob o Y) (GS P vs env fr cx σ) w):Xt P fr cx σ.nx vs ⟨σ.nx,σ.rg,ve σ.ob o Y⟩ (put env none v) w:=by
 refine jR (Γl:=[]) hB rfl rfl (O3 _) (fun _ _=>rfl) (fun _ he=>absurd he UV) (fun e he=> ?_) (fun S w _ e he=>absurd he UV) ha;obtain⟨e',h1,h2⟩:=kH ho e he;rw[<-h2];exact hB.o1 e' h1
theorem set_set{α:Type _}(l:List α)(i:Nat)(a b:α):(l.set i a).set i b=l.set i b:=by simp
theorem xA{α:Type _}{l:List α}{i:Nat}{a b:α}(h:l[i]? =some a):(l.set i b)[i]? =some b:=by grind
theorem W1{α:Type _}:∀(l:List α) (i:Nat) (a:α),(l.set i a).eraseIdx i=l.eraseIdx i
 |[],_,_=>by simp
 |_::_,0,_=>rfl
 |b::l,i+1,a=>by simp[W1 l i a]
theorem WB{α:Type}{e:zv α}{E:TypeId}{xs:List α}{v:Value}{S:Nat->Prop}{b n cap:Nat}(h:(mO e E v xs).p S w)(hv:v=.slice (some ⟨b,0,none⟩) n cap):n=xs.length:=by
 obtain⟨cs,h5,h6⟩:=h;rcases h5.2 with⟨h,h7⟩|⟨g',cap',cur,h,_⟩
 ·simp_all
 ·simp_all
theorem BM(hT:ya P cf.tt){k:Sg->Option R}{ti:TI}(hA:vV cf t=some ti)(h:dY σ ti.ty (yx cx σ x) (yx cx σ y) k=some r):Yj P cx ⟨none,.store t x y,ty,pos,aft,g⟩ σ k r:=by
 obtain⟨zero,hf,_⟩:=qn hT hA;unfold dY at h;split at h
 ·next o _ hx=>
  split at h
  ·next s' E z ho=>
   obtain⟨hC,h1⟩:=zx h;subst hC;obtain⟨q,h,hq⟩:=jw h1;refine⟨_,h,O3 _,fun fr vs env w hR=> ?_⟩;obtain⟨hB,hc⟩:=hR;obtain⟨S0,_,hΓ⟩:=hc.ex;obtain⟨i,hi,hd,hr⟩:=xm ho;have hm:(OS vs fr cx σ.ob)[i]? =some (mP ti.ty.rep.c E (vs o) z):=ky hi;obtain⟨b,hv,hs⟩:=hc.openP i hm;obtain⟨hg,_⟩:=za hx<|zj hΓ x;refine(vu (f:=ti.ty.rep) (z':=z) (y':=q) (up:=id) i (xA hm) (hg.trans hv) rfl (vj.self ti.ty.rep z) hf (fun S w ha=>hq P vs env S w<|zj ha y) w hs).mono ?_;rintro v w' ⟨_,rfl,_,hk⟩;refine YS (vs:=vs) hB ho ?_;have he:=hk.toP i<|xA<|xA hm;rw[set_set,set_set,<-hv]at he;rw[hd];show St _ _ (MS vs (σ.ob.set i (o,.var ti.ty E q))++_) _ _;rw[<-Jo hi];exact he
  ·cases h
 ·next o s1 f hx=>
  split at h
  ·next s' E z hb ho _=>
   obtain⟨hu,h1⟩:=zx h;subst hu;obtain⟨q,h2,hq⟩:=jw h1;obtain⟨z2,hw,h⟩:=yI h2;obtain⟨hb⟩:=hb;refine⟨_,h,O3 _,fun fr vs env w hR=> ?_⟩;obtain⟨hB,hc⟩:=hR;obtain⟨S0,_,hΓ⟩:=hc.ex;obtain⟨i,hi,hd,hr⟩:=xm ho;have hm:(OS vs fr cx σ.ob)[i]? =some (mP s'.rep.c E (vs o) z):=ky hi;obtain⟨b,hv,hs⟩:=hc.openP i hm;obtain⟨hy,b',hl,hg⟩:=za hx<|zj hΓ x;rw[hv]at hl;cases hl;rw[<-hb]at hf;refine(vu (f:=f.f.rep) (z':=f.get z) (y':=q) (up:=fun y=>f.set y z) i (xA hm) hg rfl (by rw[Pk];exact hy z) hf (fun S w ha=>hq P vs env S w<|zj ha y) w hs).mono ?_;rintro v w' ⟨_,rfl,_,hk⟩;refine YS (vs:=vs) hB ho ?_;have he:=hk.toP i<|xA<|xA hm;rw[set_set,set_set,<-hv,<-hw]at he;rw[hd];show St _ _ (MS vs (σ.ob.set i (o,.var s' E z2))++_) _ _;rw[<-Jo hi];exact he
  ·cases h
 ·next o s1 j f hx=>
  split at h
  ·next s' E xs hb ho _=>
   obtain⟨hu,h1⟩:=zx h;cases hu;obtain⟨q,h2,hq⟩:=jw h1;obtain⟨z2,hw,h⟩:=yI h2;obtain⟨hb⟩:=hb;refine⟨_,h,O3 _,fun fr vs env w hR=> ?_⟩;obtain⟨hB,hc⟩:=hR;obtain⟨S0,_,hΓ⟩:=hc.ex;obtain⟨i,hi,hd,hr⟩:=xm ho;have hm:(OS vs fr cx σ.ob)[i]? =some (mO s1.rep E (vs o) xs):=ky hi;obtain⟨hy,b,n,cap,hv,hj,hg⟩:=za hx<|zj hΓ x;have hn:n=O9 xs:=xy hc hm fun S hp=>WB hp hv;subst hn;obtain⟨b',cap',hl,hD,hE,hs⟩:=hc.openO i hm<|R4 (PF _) hj;rw[hv]at hl;cases hl;rw[<-hb]at hf;have hz:=(vj.rowT0 s1.rep cap xs j (SF xs j s1.z)<|getD_some s1.z hj).comp<|hy<|SF xs j s1.z;refine(vu (f:=f.f.rep) (y':=q) i (xA hm) hg rfl hz hf (fun S w ha=>hq P vs env S w<|zj ha y) w hs).mono ?_;rintro v w' ⟨_,rfl,_,hk⟩;refine YS (vs:=vs) hB ho ?_;have ht:(xad xs j<|f.set q<|SF xs j s1.z).length=O9 xs:=Ri ..;have he:=hk.closeF i (xA<|xA hm) (by rw[ht];exact hD) hE;rw[set_set,set_set,ht,<-hv,<-hw]at he;rw[hd];show St _ _ (MS vs (σ.ob.set i (o,.own s1 E z2))++_) _ _;rw[<-Jo hi];exact he
  ·cases h
 ·cases h
end
end
section
theorem cy{P:Program}(w:World)(t u ty e:TypeId)(i:TypeInfo)(z:Value)(bytes:Nat)(ht:P.underlying t=some (.slice e))(hu:P.underlying u=some .string)(hi:P.info? e=some i)(hz:i.zero=some z)(hy:z.cells.size=1)
 (ha:i.size=1) (hA:i.bytes=bytes) (v:Value) (n:Nat) (xs:List Value) (he:w.ownsRow 0 e 1 v n xs) (s:ByteArray) (hv:n+s.size<=maxLen) (hb:(n+s.size)*bytes<=140737488355328):
 ∃v' w',(PR #[t,u] ty #[v,.string s]).run P w=.ok v' w'/\w'.ownsRow 0 e 1 v' (n+s.size) (xs++SR s)/\w.grownBy w' v.ownBlock/\∀k,v'.ownBlock=some k->v.ownBlock=some k\/w.heap.size<=k:=by
 subst hA;have hw:n+s.size<=9223372036854775807:=by simp only[maxLen]at hv;lia
 have hl:xs.length=n:=by simpa using he.1
 have hc:(xs++SR s).length=(n+s.size)*1:=by rw[O1,hl,Td,Nat.mul_one]
 have grown:∀(old:Nat),old<n+s.size->∀(row:Option Nat),
  (w.drew.alloc (.cells (xs.toArray++(SR s).toArray++Po z.cells (grownCap w (n+s.size) old e-(n+s.size))) e)).ownsRow 0 e 1
   (.slice (some ⟨w.heap.size,0,none⟩) (n+s.size)<|grownCap w (n+s.size) old e) (n+s.size) (xs++SR s)/\
  w.grownBy (w.drew.alloc (.cells (xs.toArray++(SR s).toArray++Po z.cells (grownCap w (n+s.size) old e-(n+s.size))) e)) row:=by
  intro old ho row;have hB:=grownCap_ge w (n+s.size) old e;have hp:grownCap w (n+s.size) old e<=maxLen:=grownCap_le_maxLen w (n+s.size) old e hv;refine⟨⟨hc,.inr ⟨w.heap.size,_,_,rfl,PF _,heap_alloc_new w.drew _,hB,hp,?_,?_⟩⟩,⟨rfl,rfl,rfl,by simp,fun k hk _=>by first|exact heap_alloc_old w.drew _ hk|exact heap_alloc_old w.drew _ k hk⟩⟩
  ·simp only[Array.size_append,Tw,size_zeroCells,hy,hl,Td];lia
  ·simp only[Tc,O2];rw[<-O2,<-hc];exact List.take_left
 rcases he.2 with⟨rfl,rfl⟩|⟨g,cap,cur,rfl,hC,hg,hG,hp,hD,hq⟩
 ·have hx:xs=[]:=Pn hl;subst hx;by_cases hm:s.size=0
  ·have hn:SR s=[]:=Pn (by rw[Td];exact hm);refine⟨.slice none 0 0,w,?_,by rw[hm,hn];exact World.ownsRow_nil w 0 e 1,⟨rfl,rfl,rfl,O3 _,fun _ _ _=>rfl⟩,fun k hk=> .inl hk⟩;have hf:=Lib.run_firstCells_string (P:=P) w 1 s;rw[hm]at hf;simp[PR,run_underlying ht,run_underlying hu,sizeOf,typeInfo,hi,ha,Tm,hm,hf]
  ·have hr:=run_append_nil_string (P:=P) w t u ty e i z ht hu hi hz s (by lia) (by lia) (by have h9:=hb;rw[Pk]at h9;lia);have hd:=grown 0 (by lia)<|Ss (.slice none 0 0);simp only[Pk,P1,Array.empty_append]at hd⊢;have e1:(s.data.map fun b=>Value.int .u8 b.toNat)=(SR s).toArray:=by
    apply Array.ext';simp[SR]
   rw[e1]at hr;refine⟨_,_,hr,hd.1,hd.2,fun k hk=> .inr ?_⟩;simp[Ss]at hk;lia
 ·by_cases hj:n+s.size<=cap
  ·have hF:cur.size=cap:=by simpa using hD
   have hr:=Lib.run_append_room_string (P:=P) w t u ty e i ht hu hi ha g n cap cur hg s hj (by lia);refine⟨_,_,hr,⟨hc,.inr ⟨g,cap,_,rfl,hC,setRow_heap w g cur _ e _ hg,hj,hp,?_,?_⟩⟩,⟨rfl,rfl,rfl,by simp,fun k _ hk=>setRow_other w g k _<|fun e=>hk<|by simp[Ss,e]⟩,fun k hk=> .inl hk⟩
   ·simp only[Tw,O1,PG,List.length_drop,SA,Td];lia
   ·have hE:cur.toList.take n=xs:=by simpa using hq
    rw[hE,<-hc];exact List.take_left
  ·have hs:∀j u,xs[j]? =some u->w.cell? ((⟨g,0,none⟩:Addr).add j)=some u:=he.cells (g:=g) rfl;have hr:=Lib.run_append_grow_string (P:=P) w t u ty e i z ht hu hi hz ⟨g,0,none⟩ n cap xs (by rw[ha];simpa using hl) hs s (by lia) (by lia)<|growslice_fits (by lia) hb;have hd:=grown cap (by lia)<|Ss (.slice (some ⟨g,0,none⟩) n cap);refine⟨_,_,hr,hd.1,hd.2,fun k hk=> .inr ?_⟩;simp[Ss]at hk;lia
theorem Kq{S:Nat->Prop}{w:World}:∀l:List UInt8,zX ZN S (l.map R7) (l.map fun b=>Value.int .u8 b.toNat) w
 |[]=>rfl
 |b::l=>⟨[_],_,rfl,⟨rfl,b.toNat_lt⟩,Kq l⟩
section
variable{P:Program}{we:World}{Se:Nat->Prop}{ms:List MF}{Γ:List FF}{env:yb}{d:Option Tmp}{ty t t':TypeId}{pos:String}{aft:Array Edge}{g:Option (Nat×Bool)}{x y:Operand}
theorem fR{et:TypeId}{xs:List Nat}{s:ByteArray}{v:Value}{bytes:Nat}{zero:Value}(i:Nat)(ht:P.underlying t=some (.slice et))(hu:P.underlying t'=some .string)(hn:jJ P et false 1 bytes zero)(hp:zero.cells.size=1)
 (hm:ms[i]? =some (mO ZN et v xs)) (hx:ev env x=v) (hy:ev env y=.string s)
 (hD:xs.length+s.size<=9223372036854775807) (hb:(xs.length+s.size)*bytes<=140737488355328):OG P ⟨d,.call ⟨.builtin .append,#[x,y],#[t,t']⟩,ty,pos,aft,g⟩ env we Se ms Γ (fun v'=>v') (fun v'=>(ms.set i<|mO ZN et v'<|xs++zL s)) (fun _=>Γ) (fun _=>True):=by
 intro w hd;obtain⟨S,_,⟨cs,ho,he⟩,h8,_⟩:=hd.mut hm;obtain⟨i',hi,i1,i2,i3⟩:=hn.info;obtain⟨v',w',hr,hq,hg,hv⟩:=cy (P:=P) w t t' ty et i' zero bytes ht hu hi i3 hp i1 i2 v xs.length cs ho s (by unfold maxLen;lia) hb;refine xX.of_value (w':=w') (v:=v') ?_ ⟨v',rfl,trivial,hd.grow hm ⟨hg.os,hg.os,hg.output,hg.size,fun j hj hs=>hg.block j hj<|fun e=>hs e.symm⟩ hv ?_⟩
 ·simp only[execOp,resolve,invoke,builtin,R6,PA,RR,hx,hy,O5,hr,Pg,O0]
 ·intro S hS ⟨cs2,hf,hw⟩ hΓ;have hz:cs2=cs:=by
   rcases ho.2 with⟨rfl,h0⟩|⟨g,cap,cur,rfl,_,hA,_,_,_,hB⟩
   ·have a1:=ho.1;have a2:=hf.1;simp_all
   ·rcases hf.2 with⟨hc,_⟩|⟨g',cap',cur',hC,_,ha,_,_,_,hl⟩
    ·cases hc
    ·cases hC;rw[hA]at ha;cases ha;rw[<-hB,<-hl]
  subst hz;have kk:zH S w w':=⟨hg.os,hg.os,hg.output,hg.size,fun k hk hs=>hg.block k hk<|fun e=>hS k hs e.symm⟩;refine⟨_,by rw[O1,yN];exact hq,(hw.keep kk).append ?_⟩;exact Kq s.data.toList
end
end
section
section
variable{P:Program}{cf:Cf}{fr:Fr}{cx σ:Sg}{vs vs':Nat->Value}{env:yb}{w:World}{R:Type}{r:R}
 {d:Option Tmp}{ty t yt:TypeId}{pos:String}{aft:Array Edge}{g:Option (Nat×Bool)}{x y:Operand}
theorem oq{et:TypeId}{ag:Bool}{sz bytes:Nat}{zero:Value}{hi:Operand}(hx:ev env x=.slice none 0 0)(ht:P.underlying t=some (.slice et))(hb:jJ P et ag sz bytes zero)
 (hh:ev env hi=.int .i64 ((0:Nat):Int)) (w:World):(execOp (ev env) ⟨d,.slice t x none (some hi) none,ty,pos,aft,g⟩).run P w=.ok (.value (.slice none 0 0)) w:=by
 have ha:(RH t (.slice none 0 0) none (some (.int .i64 0)) none).run P w=.ok (.slice none 0 0) w:=by
  unfold RH;unfold TW;simp only[O5,run_underlying ht,O0];unfold Sw;simp[SE,asIntOf,xh hb]
 simp[execOp,hx,hh]at ha⊢;simp[ha]
theorem GX{i o:Nat}{X:Od}{Y:MF}(hi:σ.ob[i]? =some (o,X))(ha:zD σ.ob o=σ.ob.eraseIdx i){Γ:List FF}(h:St fr.we fr.Se ((OS vs fr cx σ.ob).set i Y) Γ w):St fr.we fr.Se (Y::OS vs fr cx (zD σ.ob o)) Γ w:=by
 have:=St.front i h<|xA<|ky hi;rw[W1,ZY hi,<-ha]at this;lia
theorem AI(hT:ya P cf.tt)(hL:vd P cf.tt){o:Nat}{hi:Operand}{k:Sg->Option R}(hd:yJ cx d=true)(hx:yx cx σ x=some (.ow o))(h:fy cf cx σ d t o hi k=some r):
 Yj P cx ⟨d,.slice t x none (some hi) none,ty,pos,aft,g⟩ σ k r:=by
 unfold fy at h;split at h
 ·next s1 E1 B s E xs ht ho=>
  obtain⟨hr,h1⟩:=zx h;cases hr;rcases uG h1 with⟨e,_⟩|⟨z,m,e,h2,hz⟩
  ·cases e
  ·cases e;obtain⟨hm,h3⟩:=wK h2;obtain⟨ys,hj,h4⟩:=yI h3;obtain⟨bytes,zero,hc⟩:=ui hT hL ht;refine⟨_,h4,PJ _,fun fr vs env w hR=> ?_⟩;obtain⟨hB,ha⟩:=hR;obtain⟨S0,_,hΓ⟩:=ha.ex;have hf:ev env x=vs o:=za hx<|zj hΓ x;have hg:=hz P vs env S0 w<|zj hΓ hi;obtain⟨i,hk,hD,hl⟩:=xm ho;have hb:(OS vs fr cx σ.ob)[i]? =some (mO s1.rep E (vs o) xs):=ky hk
   have fin:∀v,(execOp (ev env) ⟨d,.slice t x none (some hi) none,ty,pos,aft,g⟩).run P w=.ok (.value v) w->St fr.we fr.Se ((OS vs fr cx σ.ob).set i<|mO s1.rep E v ys) (GS P vs env fr cx σ) w->
    xX P ⟨d,.slice t x none (some hi) none,ty,pos,aft,g⟩ env w (fun v w'=>Xt P fr cx σ.nx vs ⟨σ.nx+1,xK σ.rg d [(0,.ow σ.nx)],(σ.nx,.own s1 E ys)::zD σ.ob o⟩ (put env d v) w'):=by
    intro v hn hs;refine xX.of_value hn<|kh (vs:=vs) (mk:=.ow) hB hd (fun e he=>hB.o1 e<|xv e he) (fun _=>rfl) (fun S w=>jZ S w) ?_;rw[kz];exact GX hk hl hs
   rcases PB (O9 xs)with h0|h0
   ·have hu:m=0:=by have:m<=O9 xs:=hm;lia
    subst hu;have hw:ys=xs:=by rw[hj];exact(Rl.1 h0).symm▸rfl
    subst hw;have hid:(OS vs fr cx σ.ob).set i (mO s1.rep E (vs o) ys)=OS vs fr cx σ.ob:=by
     apply Sx;intro j;rw[List.getElem?_set];split
     ·next hy=>
      subst hy;split
      ·exact hb.symm
      ·next hA=>exact absurd (O4.1 hb).1 hA
     ·rfl
    have hv:vs o=.slice none 0 0\/∃b cap,vs o=.slice (some ⟨b,0,none⟩) 0 cap:=xy ha hb fun S ⟨cs,h5,_⟩=>by
     rcases h5.2 with⟨h,_⟩|⟨b,cap,cur,h,_⟩
     ·exact .inl h
     ·rw[h0]at h;exact .inr ⟨b,cap,h⟩
    rcases hv with hv|⟨b,cap,hv⟩
    ·exact fin _ (oq (hf.trans hv) (xF hT ht) hc hg w)<|by rw[<-hv,hid];exact ha
    ·exact fin _ (bW (hf.trans hv) (xF hT ht) hc hg (PF _) w)<|by rw[<-hv,hid];exact ha
   ·obtain⟨b,cap,hv,hp,hC,hs⟩:=ha.openO i hb h0;have hq:=hs.closeO i m (xA hb) hm (Pz hm hp) hC;rw[set_set]at hq;exact fin _ (bW (hf.trans hv) (xF hT ht) hc hg (Pz hm hp) w)<|by rw[hj];exact hq
 ·cases h
theorem sW(hT:ya P cf.tt){t':TypeId}{same:Bool}{ti:TI}{E:TypeId}{ob:List (Nat×Od)}{xs:List ti.ty.D}{k:Sg->Option R}(ht:P.underlying t=some (.slice E))(hr:vV cf E=some ti)(hd:yJ cx d=true)
 (hi:same=true->t=t') (h:gW cf cx σ d t' same ti.ty E ti.B ti.ty.z y ob xs k=some r):
 ∃σ',k σ'=some r/\σ.nx<=σ'.nx/\∀(fr:Fr) (vs:Nat->Value) (env:yb) (w:World) (u:Value),Bd cx σ->(∀e∈ob,e.1<σ.nx)->ev env x=u->St fr.we fr.Se (mO ti.ty.rep E u xs::OS vs fr cx ob) (GS P vs env fr cx σ) w->
  xX P ⟨d,.call ⟨.builtin .append,#[x,y],#[t,t']⟩,ty,pos,aft,g⟩ env w (fun v w'=>Xt P fr cx σ.nx vs σ' (put env d v) w'):=by
 obtain⟨zero,hk,ho,hA⟩:=qn hT hr;have hz:=(hT _ _ hr).2.1;have hn:=(hT _ _ hr).2.2.1;have aw:∀m,m*ti.B<=140737488355328->m<=9223372036854775807:=fun m hm=>by
  have:=SB m hz;lia
 unfold gW at h;split at h
 ·next n hC=>
  split at h
  ·next q ik B' hu=>
   obtain⟨j,hj,h⟩:=gN h;obtain⟨hb,h⟩:=wK h;obtain⟨zs,he,h⟩:=yI h;refine⟨_,h,PJ _,fun fr vs env w u hB hf hx hc=> ?_⟩;obtain⟨S0,_,hΓ⟩:=hc.ex;refine(dX (e:=ti.ty.rep) (z:=ti.ty.z) (n:=j) 0 ht (jK hT hu) hk ho hn rfl hx (by rw[(xn hC<|zj hΓ y).1,hj]) hA (aw _ hb) hb w hc).mono ?_;rintro v w' ⟨v',rfl,_,hs⟩;refine kh (vs:=vs) (mk:=.ow) hB hd hf (fun _=>rfl) (fun S w=>jZ S w) ?_;rw[kz,he];exact hs
  ·cases h
 ·next ys hy=>
  split at h
  ·next q B' hu=>
   obtain⟨hg,h⟩:=zx h;obtain⟨hb,h⟩:=wK h;obtain⟨zs,he,h⟩:=yI h;refine⟨_,h,PJ _,fun fr vs env w u hB hf hx hc=> ?_⟩;obtain⟨S0,_,hΓ⟩:=hc.ex;obtain⟨s,hv,hp,hE⟩:=YA<|Zs hy<|zj hΓ y;have hp:zL s=ys:=hp;have hl:O9 (α:=Nat) ys=s.size:=(congrArg O9 hp).symm.trans<|yN s;rcases ti with⟨q0,k0,B0⟩;have hg:Ty.l .ch=Ty.l q0:=hg;cases hg;have hb:(O9 xs+O9 (α:=Nat) ys)*B0<=140737488355328:=hb;rw[hl]at hb;refine(fR (s:=s) (xs:=xs) (bytes:=B0) 0 ht (W2 hT hu) hk ho rfl hx hv (aw _ hb) hb w hc).mono ?_;rintro v w' ⟨v',rfl,_,hs⟩;refine kh (vs:=vs) (mk:=.ow) hB hd hf (fun _=>rfl) (fun S w=>jZ S w) ?_;rw[kz,he];rw[hp]at hs;exact hs
  ·cases h
 ·split at h
  ·next o2 t2 lo n hy=>
   split at h
   ·next s2 E2 zs0 hD=>
    obtain⟨hw,h⟩:=zw h;obtain rfl:=hi hw;obtain⟨hg,h⟩:=zx h;cases hg;obtain⟨hg,h⟩:=zx h;cases hg;obtain⟨ys,hq,h⟩:=yI h;obtain⟨hb,h⟩:=wK h;obtain⟨zs,he,h⟩:=yI h;refine⟨_,h,PJ _,fun fr vs env w u hB hf hx hc=> ?_⟩;obtain⟨S0,_,hΓ⟩:=hc.ex;have hv:=za hy<|zj hΓ y;refine(Zq (e:=ti.ty.rep) (ys:=ys) 0 ht hk ho hn rfl hx rfl (fun S w hM ha=> ?_) (aw _ hb) hb w hc).mono ?_
    ·have hm:(mO ti.ty.rep E2 (vs o2) zs0).p S w:=vM (σ:=⟨σ.nx,σ.rg,ob⟩) (F:=fr.F) hM.2 hD;rcases hv with⟨b,m,cap,c,q1,q2,q3,q4,q5⟩|⟨q1,ao,c,q2,q3⟩
     ·rw[q5,hq];exact Uh hm q1 q2 q3 q4
     ·subst q1;rw[q3,hq];exact⟨ao,c,by simp,by simp,by unfold maxLen;lia,.inl<|by simp⟩
    rintro v w' ⟨v',rfl,_,hs⟩;refine kh (vs:=vs) (mk:=.ow) hB hd hf (fun _=>rfl) (fun S w=>jZ S w) ?_;rw[kz,he];exact hs
   ·cases h
  obtain⟨hw,h⟩:=zw h;obtain rfl:=hi hw;obtain⟨ys,h,hq⟩:=jw h;obtain⟨hb,h⟩:=wK h;obtain⟨zs,he,h⟩:=yI h;refine⟨_,h,PJ _,fun fr vs env w u hB hf hx hc=> ?_⟩;refine(lz (e:=ti.ty.rep) (ys:=ys) 0 ht hk ho hn rfl hx rfl (fun S w ha=>hq P vs env S w<|zj ha y) (aw _ hb) hb w hc).mono ?_;rintro v w' ⟨v',rfl,_,hs⟩;refine kh (vs:=vs) (mk:=.ow) hB hd hf (fun _=>rfl) (fun S w=>jZ S w) ?_;rw[kz,he];exact hs
theorem Ln(hT:ya P cf.tt){ags:Array Operand}{ts:Array TypeId}{k:Sg->Option R}(hd:yJ cx d=true)(h:EH cf cx σ d ags.toList ts.toList k=some r):
 Yj P cx ⟨d,.call ⟨.builtin .append,ags,ts⟩,ty,pos,aft,g⟩ σ k r:=by
 unfold EH at h;split at h
 ·next _ _ x y t t' hl hn=>
  obtain rfl:ags= #[x,y]:=by cases ags;simp_all
  obtain rfl:ts= #[t,t']:=by cases ts;simp_all
  split at h
  ·next s E B ht=>
   split at h
   ·next ti hc=>
    obtain⟨hi,h1⟩:=zx h;subst hi;split at h1
    ·next hx=>
     obtain⟨σ',h5,h6,h7⟩:=sW (ty:=ty) (pos:=pos) (aft:=aft) (g:=g) (x:=x) hT (xF hT ht) hc hd (fun h=>zr h) h1;refine⟨σ',h5,h6,fun fr vs env w hR=> ?_⟩;obtain⟨hB,ha⟩:=hR;obtain⟨S0,_,hΓ⟩:=ha.ex;exact h7 fr vs env w _ hB hB.o1 (za hx<|zj hΓ x) ha.nilO
    ·next o hx=>
     split at h1
     ·next s' E' xs ho=>
      obtain⟨hE,h2⟩:=zw h1;have hE:=zr hE;subst hE;obtain⟨hj,h3⟩:=zx h2;cases hj;obtain⟨σ',h5,h6,h7⟩:=sW (ty:=ty) (pos:=pos) (aft:=aft) (g:=g) (x:=x) hT (xF hT ht) hc hd (fun h=>zr h) h3;refine⟨σ',h5,h6,fun fr vs env w hR=> ?_⟩;obtain⟨hB,ha⟩:=hR;obtain⟨S0,_,hΓ⟩:=ha.ex;obtain⟨i,hf,hm,hg⟩:=xm ho;have hk:(OS vs fr cx σ.ob)[i]? =some (mO ti.ty.rep E' (vs o) xs):=ky hf;have hb:=ha.front i hk;rw[ZY hf,<-hg]at hb;exact h7 fr vs env w _ hB (fun e he=>hB.o1 e<|xv e he) (za hx<|zj hΓ x) hb
     ·cases h1
    ·cases h1
   ·cases h
  ·cases h
 ·cases h
theorem BF{α:Type}(xs ys:List α):(CY xs ys).length=xs.length:=by grind [CY]
theorem BR{α:Type}{xs:List α}(ys:List α)(h:xs.length=0):CY xs ys=xs:=by grind [CY]
theorem EP{α:Type}(xs ys:List α):TB 0 xs++TB (min ys.length xs.length) ys++TX (0+min ys.length xs.length) xs=CY xs ys:=by simp[CY]
theorem dV{α:Type}(lo:Nat)(xs ys:List α):Q2 lo 0 xs ys=xs:=by simp[Q2]
theorem lZ{α:Type}{lo n:Nat}{xs:List α}(ys:List α)(h:lo+n<=xs.length):(Q2 lo n xs ys).length=xs.length:=by grind [Q2]
theorem Fm(hT:ya P cf.tt)(hL:vd P cf.tt){ags:Array Operand}{ts:Array TypeId}{k:Sg->Option R}(hd:yJ cx d=true)(h:oy cf cx σ d ags.toList ts.toList k=some r):
 Yj P cx ⟨d,.call ⟨.builtin .copy,ags,ts⟩,ty,pos,aft,g⟩ σ k r:=by
 unfold oy at h;split at h
 ·next x y t t' hJ hK=>
  obtain rfl:ags= #[x,y]:=by cases ags;simp_all
  obtain rfl:ts= #[t,t']:=by cases ts;simp_all
  split at h
  ·next s E B o ht hx=>
   split at h
   ·next s' E' xs ho=>
    obtain⟨hw,h⟩:=zx h;cases hw;obtain⟨ys,h,hy⟩:=jw h;obtain⟨zs,hb,h⟩:=yI h;have hb:zs=CY (α:=s.D) xs ys:=hb;obtain⟨bytes,zero,hk⟩:=ui hT hL ht;refine⟨_,h,O3 _,fun fr vs env w hR=> ?_⟩;obtain⟨hB,hc⟩:=hR;obtain⟨S0,_,hΓ⟩:=hc.ex;have hl:ev env x=vs o:=za hx<|zj hΓ x;obtain⟨i,hi,hn,hG⟩:=xm ho;have hm:(OS vs fr cx σ.ob)[i]? =some (mO s.rep E' (vs o) xs):=ky hi;have fin:∀v w',St fr.we fr.Se ((OS vs fr cx σ.ob).set i<|mO s.rep E' (vs o) zs) (GS P vs env fr cx σ) w'->Xt P fr cx σ.nx vs ⟨σ.nx,xK σ.rg d [],ve σ.ob o (.own s E' zs)⟩ (put env d v) w':=fun v w' hs=>by
     refine jR (σ':=⟨σ.nx,xK σ.rg d [],ve σ.ob o (.own s E' zs)⟩) (d:=d) (l:=[]) (vs:=vs) (vs':=vs) (Γl:=[]) hB hd rfl (O3 _) (fun _ _=>rfl) (fun _ he=>absurd he UV) (fun e he=> ?_) (fun S w _ e he=>absurd he UV) ?_
     ·obtain⟨e',h1,h2⟩:=kH ho e he;rw[<-h2];exact hB.o1 e' h1
     ·rw[hn];show St _ _ (MS vs (σ.ob.set i (o,.own s E' zs))++_) _ _;rw[<-Jo hi];exact hs
    rcases PB (O9 xs)with h0|h0
    ·have hv:vs o=.slice none 0 0\/∃b cap,vs o=.slice (some ⟨b,0,none⟩) 0 cap:=xy hc hm fun S ⟨cs,h5,_⟩=>by
      rcases h5.2 with⟨h,_⟩|⟨b,cap,cur,h,_⟩
      ·exact .inl h
      ·rw[h0]at h;exact .inr ⟨b,cap,h⟩
     obtain⟨ba,cap,hv⟩:∃ba cap,vs o=.slice ba 0 cap:=by
      rcases hv with hv|⟨b,cap,hv⟩
      ·exact⟨_,_,hv⟩
      ·exact⟨_,_,hv⟩
     obtain⟨ao,scap,hu,_⟩:=yX.1<|hy P vs env S0 w<|zj hΓ y;obtain⟨ti,hA,i1,i2,i3⟩:=hk.info;have hC:(P.info? E).map (·.size)=some s.rep.n:=by rw[hA];simp[i1]
     have hr:=kQ (P:=P) w t t' ty E ba ao 0 cap (O9 ys) scap (xF hT ht) hC<|Nat.min_zero _;rw[<-hu,<-hv,<-hl]at hr;have hz:zs=xs:=hb.trans<|BR (α:=s.D) ys h0;refine xX.of_value (v:=goInt 0) (w':=w) ?_<|fin _ w ?_
     ·simp only[execOp,resolve,invoke,builtin,R6,PA,RR,O5,hr,Pg,O0]
     ·have:(OS vs fr cx σ.ob).set i (mO s.rep E' (vs o) xs)=OS vs fr cx σ.ob:=by
       obtain⟨hH,hD⟩:=O4.1 hm;rw[<-hD,RP]
      rw[hz,this];exact hc
    ·obtain⟨b,cap,hv,hE,hF,hs⟩:=hc.openO i hm h0;refine(bC (e:=s.rep) (l:=0) (dLen:=O9 xs) (dCap:=cap) i (xF hT ht) hk (xA hm) (by rw[hl,hv];simp) rfl (by lia) (fun S w ha=>hy P vs env S w<|zj ha y) w hs).mono ?_;rintro v w' ⟨n,rfl,_,hg⟩;refine fin _ w' ?_;have hz:=(EP (α:=s.D) xs ys).trans hb.symm;rw[hz]at hg;have hf:O9 zs=O9 xs:=by rw[hb];exact BF (α:=s.D) xs ys
     have hq:=hg.closeF i (xA<|xA hm) (by rw[hf];exact hE) hF;rw[set_set,set_set,hf,<-hv]at hq;exact hq
   ·cases h
  ·next s E B o t2 lo n ht hx=>
   split at h
   ·next s' E' xs hj ho _=>
    obtain⟨hw,h⟩:=zx h;cases hw;obtain⟨ys,h,hy⟩:=jw h;obtain⟨zs,hb,h⟩:=yI h;have hb:zs=Q2 (α:=s.D) lo n xs ys:=hb;obtain⟨hj⟩:=hj;subst hj;obtain⟨bytes,zero,hk⟩:=ui hT hL ht;refine⟨_,h,O3 _,fun fr vs env w hR=> ?_⟩;obtain⟨hB,hc⟩:=hR;obtain⟨S0,_,hΓ⟩:=hc.ex;have hl:=za hx<|zj hΓ x;obtain⟨i,hi,hn,hG⟩:=xm ho;have hm:(OS vs fr cx σ.ob)[i]? =some (mO t2.rep E' (vs o) xs):=ky hi;have fin:∀v w',St fr.we fr.Se ((OS vs fr cx σ.ob).set i<|mO t2.rep E' (vs o) zs) (GS P vs env fr cx σ) w'->Xt P fr cx σ.nx vs ⟨σ.nx,xK σ.rg d [],ve σ.ob o (.own t2 E' zs)⟩ (put env d v) w':=fun v w' hs=>by
     refine jR (σ':=⟨σ.nx,xK σ.rg d [],ve σ.ob o (.own t2 E' zs)⟩) (d:=d) (l:=[]) (vs:=vs) (vs':=vs) (Γl:=[]) hB hd rfl (O3 _) (fun _ _=>rfl) (fun _ he=>absurd he UV) (fun e he=> ?_) (fun S w _ e he=>absurd he UV) ?_
     ·obtain⟨e',h1,h2⟩:=kH ho e he;rw[<-h2];exact hB.o1 e' h1
     ·rw[hn];show St _ _ (MS vs (σ.ob.set i (o,.own t2 E' zs))++_) _ _;rw[<-Jo hi];exact hs
    rcases PB n with h0|h0
    ·obtain⟨ba,c,hv⟩:∃ba c,ev env x=.slice ba 0 c:=by
      rcases hl with⟨b,m,cap,c,q1,q2,q3,q4,q5⟩|⟨q1,ao,c,q2,q3⟩
      ·exact⟨_,c,by rw[q5,h0]⟩
      ·exact⟨ao,c,q3⟩
     obtain⟨ao,scap,hu,_⟩:=yX.1<|hy P vs env S0 w<|zj hΓ y;obtain⟨ti,hA,i1,i2,i3⟩:=hk.info;have hC:(P.info? E).map (·.size)=some t2.rep.n:=by rw[hA];simp[i1]
     have hr:=kQ (P:=P) w t t' ty E ba ao 0 c (O9 ys) scap (xF hT ht) hC<|Nat.min_zero _;rw[<-hu,<-hv]at hr;have hz:zs=xs:=by rw[hb,h0];exact dV (α:=t2.D) lo xs ys
     refine xX.of_value (v:=goInt 0) (w':=w) ?_<|fin _ w ?_
     ·simp only[execOp,resolve,invoke,builtin,R6,PA,RR,O5,hr,Pg,O0]
     ·have:(OS vs fr cx σ.ob).set i (mO t2.rep E' (vs o) xs)=OS vs fr cx σ.ob:=by
       obtain⟨hH,hD⟩:=O4.1 hm;rw[<-hD,RP]
      rw[hz,this];exact hc
    ·rcases hl with⟨b0,m,cap0,c,q1,q2,q3,q4,q5⟩|⟨q1,ao,c,q2,q3⟩
     ·have hI:m=O9 xs:=xy hc hm fun S hp=>WB hp q1;subst hI;obtain⟨b,cap,hv,hE,hF,hs⟩:=hc.openO i hm (by lia);rw[q1]at hv;cases hv;refine(bC (e:=t2.rep) (l:=lo) (dLen:=n) (dCap:=c) i (xF hT ht) hk (xA hm) q5 rfl q2 (fun S w ha=>hy P vs env S w<|zj ha y) w hs).mono ?_;rintro v w' ⟨nn,rfl,_,hg⟩;refine fin _ w' ?_;have hg:St fr.we fr.Se (((OS vs fr cx σ.ob).set i<|mB (rowT t2.rep cap0) E' b0 xs).set i<|mB (rowT t2.rep cap0) E' b0<|Q2 (α:=t2.D) lo n xs ys) (GS P vs env fr cx σ) w':=hg;rw[<-hb]at hg;have hf:O9 zs=O9 xs:=by rw[hb];exact lZ (α:=t2.D) ys q2
      have hq:=hg.closeF i (xA<|xA hm) (by rw[hf];exact hE) hF;rw[set_set,set_set,hf,<-q1]at hq;exact hq
     ·lia
   ·cases h
  ·cases h
 ·cases h
end
end
section
section
variable{P:Program}{cf:Cf}{fr:Fr}{cx σ:Sg}{vs vs':Nat->Value}{env:yb}{w:World}{R:Type}{r:R}
 {d:Option Tmp}{ty t yt:TypeId}{pos:String}{aft:Array Edge}{g:Option (Nat×Bool)}{x y:Operand}
theorem oT{a b:Nat}(h:a≠b):OW a b=false:=qt h
theorem Ze:∀{ob:List (Nat×Od)}{o p:Nat},p≠o->yE (zD ob o) p=yE ob p
 |[],_,_,_=>rfl
 |(q,X)::r,o,p,h=>by
  unfold zD;cases hb:OW q o
  ·simp only[cond_false];unfold yE;rw[Ze h]
  ·simp only[cond_true];have:=zr hb;subst this;conv=>rhs;unfold yE
   rw[oT<|fun e=>h e.symm];rfl
theorem wi{ob:List (Nat×Od)}{p:Nat}:∀{os:List Nat},ZG os p=false->yE (xu ob os) p=yE ob p
 |[],_=>rfl
 |o::r,h=>by
  simp only[ZG,List.any_cons,Bool.or_eq_false_iff]at h;unfold xu;rw[Ze (fun e=>by subst e;simp at h),wi h.2]
theorem kr{ob:List (Nat×Od)}:∀{os:List Nat},∀e∈xu ob os,e∈ob
 |[],_,h=>h
 |o::r,e,h=>kr e<|xv e h
theorem iJ{α:Type _}:∀{l:List α}{i:Nat}{a:α},l[i]? =some a->l.Perm (a::l.eraseIdx i)
 |[],_,_,h=>by simp at h
 |b::l,0,a,h=>by simp at h;subst h;exact Su _
 |b::l,i+1,a,h=>((iJ<|by simpa using h).cons b).trans<|Sc _ _ _
theorem xo{ob:List (Nat×Od)}{o:Nat}{X:Od}(h:yE ob o=some X):(OS vs fr cx ob).Perm (uk vs (o,X)::OS vs fr cx (zD ob o)):=by
 obtain⟨i,h1,_,h3⟩:=xm h;show(MS vs ob++(MS vs cx.ob++fr.F)).Perm (uk vs (o,X)::(MS vs (zD ob o)++(MS vs cx.ob++fr.F)));rw[h3,<-ZY h1];exact iJ<|ky h1
theorem ua(hC:∀s∈cf.cs,zQ P s):∀{dom:List AM}{xs:List Operand}{cs:List PD}{k:uC dom->List Nat->Option R},qe cf cx σ dom xs cs k=some r->
 ∃z os,k z os=some r/\xs.length+cs.length=dom.length/\(∀o∈os,∃X,(o,X)∈σ.ob)/\∀vs (fr:Fr) env S w,(∀x,qK P vs env S w cx σ x)->∀cvs:List Value,cvs.length=cs.length->ze S (JH cs cvs) w->
  ze S (wO P dom z<|xs.map (ev env)++cvs) w/\(OS vs fr cx σ.ob).Perm (wH dom z (xs.map (ev env)++cvs)++OS vs fr cx (xu σ.ob os))/\kN dom (xs.map (ev env)++cvs)=os.map vs
 |[],[],[],k,h=>⟨(),[],h,rfl,fun _ ho=>absurd ho UV,fun _ _ _ _ _ _ _ _ _=>⟨trivial,Su _,rfl⟩⟩
 |.q t::dom,[],c::cs,k,h=>by
  simp only[qe]at h;obtain⟨e,h⟩:=zx h;subst e;obtain⟨z,os,h1,h2,ho,h3⟩:=ua hC h;refine⟨_,os,h1,by simp at h2⊢;lia,ho,fun vs fr env S w hl cvs ha hc=> ?_⟩
  cases cvs with
  |nil=>cases ha
  |cons v cvs=>obtain⟨h4,h5,h6⟩:=h3 vs fr env S w hl cvs (by simpa using ha) hc.2;exact⟨⟨hc.1,h4⟩,h5,h6⟩
 |.d t::dom,x::xs,cs,k,h=>by
  simp only[qe]at h;obtain⟨y,h,hy⟩:=jw h;obtain⟨z,os,h1,h2,ho,h3⟩:=ua hC h;exact⟨_,os,h1,by simp at h2⊢;lia,ho,fun vs fr env S w hl cvs ha hc=>by obtain⟨h4,h5,h6⟩:=h3 vs fr env S w hl cvs ha hc;exact⟨⟨hy P vs env S w<|hl x,h4⟩,h5,h6⟩⟩
 |.q t::dom,x::xs,cs,k,h=>by
  simp only[qe]at h;split at h
  ·next s y hx=>
   obtain⟨e,h⟩:=zx h;subst e;obtain⟨z,os,h1,h2,ho,h3⟩:=ua hC h;exact⟨_,os,h1,by simp at h2⊢;lia,ho,fun vs fr env S w hl cvs ha hc=>by obtain⟨h4,h5,h6⟩:=h3 vs fr env S w hl cvs ha hc;exact⟨⟨za hx<|hl x,h4⟩,h5,h6⟩⟩
  ·cases h
 |.own t E::dom,x::xs,cs,k,h=>by
  simp only[qe]at h;split at h
  ·next o hx=>
   split at h
   ·next s E' ys hd=>
    obtain⟨hE,h7⟩:=zw h;have hE:=zr hE;subst hE;obtain⟨e,h8⟩:=zx h7;cases e;obtain⟨z,os,h9,h2,ho,h3⟩:=ua hC h8;obtain⟨hn,h1⟩:=zw h9;simp only[Rj]at hn;refine⟨_,o::os,h1,by simp at h2⊢;lia,fun p hp=> ?_,fun vs fr env S w hl cvs ha hc=> ?_⟩
    ·rcases OY.1 hp with rfl|hp
     ·obtain⟨i,h4,_⟩:=xm hd;exact⟨_,Pq h4⟩
     ·exact ho p hp
    obtain⟨h4,h5,h6⟩:=h3 vs fr env S w hl cvs ha hc;have hv:ev env x=vs o:=za hx<|hl x;refine⟨⟨trivial,h4⟩,h5.trans ?_,?_⟩
    ·have hp:=xo (vs:=vs) (fr:=fr) (cx:=cx)<|(wi hn).trans hd;refine(Pw _ hp).trans ?_;refine P6.trans ?_;show List.Perm _ (mO t.rep E (ev env x) _::(wH dom z (xs.map (ev env)++cvs)++_));rw[hv];exact Su _
    ·show ev env x::kN dom (xs.map (ev env)++cvs)=vs o::os.map vs;rw[hv,h6]
   ·cases h
  ·cases h
 |.var t E::dom,x::xs,cs,k,h=>by
  simp only[qe]at h;split at h
  ·next o s0 hx=>
   split at h
   ·next s E' y hd=>
    obtain⟨hE,h7⟩:=zw h;have hE:=zr hE;subst hE;obtain⟨e,h8⟩:=zx h7;subst e;obtain⟨z,os,h9,h2,ho,h3⟩:=ua hC h8;obtain⟨hn,h1⟩:=zw h9;simp only[Rj]at hn;refine⟨_,o::os,h1,by simp at h2⊢;lia,fun p hp=> ?_,fun vs fr env S w hl cvs ha hc=> ?_⟩
    ·rcases OY.1 hp with rfl|hp
     ·obtain⟨i,h4,_⟩:=xm hd;exact⟨_,Pq h4⟩
     ·exact ho p hp
    obtain⟨h4,h5,h6⟩:=h3 vs fr env S w hl cvs ha hc;obtain⟨hv,b,hb⟩:=za hx<|hl x;refine⟨⟨⟨b,hv.trans hb⟩,h4⟩,h5.trans ?_,?_⟩
    ·have hp:=xo (vs:=vs) (fr:=fr) (cx:=cx)<|(wi hn).trans hd;refine(Pw _ hp).trans ?_;refine P6.trans ?_;show List.Perm _ (mP s.rep.c E (ev env x) _::(wH dom z (xs.map (ev env)++cvs)++_));rw[hv];exact Su _
    ·show ev env x::kN dom (xs.map (ev env)++cvs)=vs o::os.map vs;rw[hv,h6]
   ·cases h
  ·cases h
 |.fn dom' cod::dom,x::xs,cs,k,h=>by
  simp only[qe]at h;obtain⟨f,h,hf⟩:=tG hC h;obtain⟨z,os,h1,h2,ho,h3⟩:=ua hC h;refine⟨_,os,h1,by simp at h2⊢;lia,ho,fun vs fr env S w hl cvs ha hc=> ?_⟩;obtain⟨h4,h5,h6⟩:=h3 vs fr env S w hl cvs ha hc;refine⟨⟨?_,h4⟩,h5,h6⟩
  cases hv:yx cx σ x with
  |none=>rename_i h0;rw[hv]at h0;simp[Dk]at h0
  |some v=>exact hf vs S w v _ hv<|za hv<|hl x
 |[],_::_,_,_,h=>by simp[qe]at h
 |[],[],_::_,_,h=>by simp[qe]at h
 |.d _::_,[],_,_,h=>by simp[qe]at h
 |.own _ _::_,[],_,_,h=>by simp[qe]at h
 |.var _ _::_,[],_,_,h=>by simp[qe]at h
 |.fn _ _::_,[],_,_,h=>by simp[qe]at h
 |.q _::_,[],[],_,h=>by simp[qe]at h
def Xa:List RM->List Value->Nat->(Nat->Value)->Nat->Value
 |[],_,_,vs=>vs
 |.d _::r,us,o,vs=>Xa r us.tail o vs
 |.own _ _::r,us,o,vs=>ja (Xa r us.tail (o+1) vs) o<|us.headD undef
 |.var _ _::r,us,o,vs=>ja (Xa r us.tail (o+1) vs) o<|us.headD undef
theorem kj:∀{rs:List RM}{us:List Value}{o k:Nat},k<o->Xa rs us o vs k=vs k
 |[],_,_,_,_=>rfl
 |.d _::r,us,o,k,h=>kj (rs:=r) h
 |.own _ _::r,us,o,k,h=>by
  show ja _ o _ k=_;rw[wz h,kj<|by lia]
 |.var _ _::r,us,o,k,h=>by
  show ja _ o _ k=_;rw[wz h,kj<|by lia]
theorem Ve{n o:Nat}{v:Value}(h:o≠n):ja vs n v o=vs o:=by unfold ja;rw[qt h];rfl
theorem uf:∀{rs:List RM}{x:uE rs}{i o:Nat},(∀e∈(vI rs x i o).2,o<=e.1/\e.1<o+(vI rs x i o).2.length)
 |[],_,_,_,e,he=>absurd he UV
 |[.d _],_,_,_,e,he=>absurd he UV
 |[.own _ _],_,_,o,e,he=>by
  obtain rfl:=OZ.1 he;grind
 |[.var _ _],_,_,o,e,he=>by
  obtain rfl:=OZ.1 he;grind
 |.d t::n::r,x,i,o,e,he=>uf (rs:=n::r) (x:=x.2) (i:=i+1) e he
 |.own t E::n::r,x,i,o,e,he=>by
  have he:e∈(o,Od.own t E x.1)::(vI (n::r) x.2 (i+1)<|o+1).2:=he;have ha:(vI (.own t E::n::r) x i o).2.length=(vI (n::r) x.2 (i+1)<|o+1).2.length+1:=rfl;rw[ha];rcases OY.1 he with rfl|he
  ·lia
  ·have:=uf (rs:=n::r) (x:=x.2) (i:=i+1) (o:=o+1) e he;lia
 |.var t E::n::r,x,i,o,e,he=>by
  have he:e∈(o,Od.var t E x.1)::(vI (n::r) x.2 (i+1)<|o+1).2:=he;have ha:(vI (.var t E::n::r) x i o).2.length=(vI (n::r) x.2 (i+1)<|o+1).2.length+1:=rfl;rw[ha];rcases OY.1 he with rfl|he
  ·exact⟨O3 _,by show o<_;lia⟩
  ·have:=uf (rs:=n::r) (x:=x.2) (i:=i+1) (o:=o+1) e he;lia
theorem XI:∀{rs:List RM}{x:uE rs}{us:List Value}{i o:Nat},MS (Xa rs us o vs) (vI rs x i o).2=wI rs x us
 |[],_,_,_,_=>rfl
 |[.d _],_,_,_,_=>rfl
 |[.own t E],x,us,i,o=>by exact congrArg (fun m=>[m])<|kz
 |[.var t E],x,us,i,o=>by exact congrArg (fun m=>[m])<|Uy
 |.var t E::n::r,x,us,i,o=>by
  refine List.cons_eq_cons.2 ⟨Uy,?_⟩;exact(yY fun e he=>Ve (by have:=uf e he;lia)).trans XI
 |.d t::n::r,x,us,i,o=>by
  show MS (Xa (n::r) us.tail o vs) (vI (n::r) x.2 (i+1) o).2=wI (n::r) x.2 us.tail;exact XI
 |.own t E::n::r,x,us,i,o=>by
  refine List.cons_eq_cons.2 ⟨kz,?_⟩;exact(yY fun e he=>Ve (by have:=uf e he;lia)).trans XI
theorem Z1:∀{rs:List RM}{x:uE rs}{i o:Nat},∀e∈(vI rs x i o).1,∀p,xz e.2=some p->p<o+(vI rs x i o).2.length
 |[],_,_,_,e,he=>absurd he UV
 |[.d _],_,_,_,e,he=>by
  obtain rfl:=OZ.1 he;intro p hp;cases hp
 |[.own _ _],_,_,o,e,he=>by
  obtain rfl:=OZ.1 he;intro p hp;cases hp;exact Ru _
 |[.var _ _],_,_,o,e,he=>by
  obtain rfl:=OZ.1 he;intro p hp;cases hp;exact Ru _
 |.var t E::n::r,x,i,o,e,he=>by
  have ha:(vI (.var t E::n::r) x i o).2.length=(vI (n::r) x.2 (i+1)<|o+1).2.length+1:=rfl;rw[ha];rcases OY.1 he with rfl|he
  ·intro p hp;cases hp;lia
  ·intro p hp;have:=Z1 (rs:=n::r) (x:=x.2) (i:=i+1) (o:=o+1) e he p hp;lia
 |.d t::n::r,x,i,o,e,he=>by
  rcases OY.1 he with rfl|he
  ·intro p hp;cases hp
  ·exact Z1 (rs:=n::r) (x:=x.2) (i:=i+1) e he
 |.own t E::n::r,x,i,o,e,he=>by
  have ha:(vI (.own t E::n::r) x i o).2.length=(vI (n::r) x.2 (i+1)<|o+1).2.length+1:=rfl;rw[ha];rcases OY.1 he with rfl|he
  ·intro p hp;cases hp;lia
  ·intro p hp;have:=Z1 (rs:=n::r) (x:=x.2) (i:=i+1) (o:=o+1) e he p hp;lia
theorem Wc:∀{rs:List RM}{x:uE rs}{i o:Nat},∀e∈(vI rs x i o).1,∀p,xz e.2=some p->o<=p
 |[],_,_,_,e,he=>absurd he UV
 |[.d _],_,_,_,e,he=>by
  obtain rfl:=OZ.1 he;intro p hp;cases hp
 |[.own _ _],_,_,o,e,he=>by
  obtain rfl:=OZ.1 he;intro p hp;cases hp;exact O3 _
 |[.var _ _],_,_,o,e,he=>by
  obtain rfl:=OZ.1 he;intro p hp;cases hp;exact O3 _
 |.var t E::n::r,x,i,o,e,he=>by
  rcases OY.1 he with rfl|he
  ·intro p hp;cases hp;exact O3 _
  ·intro p hp;have:=Wc e he p hp;lia
 |.d t::n::r,x,i,o,e,he=>by
  rcases OY.1 he with rfl|he
  ·intro p hp;cases hp
  ·exact Wc e he
 |.own t E::n::r,x,i,o,e,he=>by
  rcases OY.1 he with rfl|he
  ·intro p hp;cases hp;exact O3 _
  ·intro p hp;have:=Wc e he p hp;lia
theorem QW:∀{rs:List RM}{x:uE rs}{us:List Value}{i o:Nat}{S:Nat->Prop},ze S (wC rs x us) w->us.length=rs.length->∀e∈(vI rs x i o).1,∃j u,e.1=i+j/\us[j]? =some u/\(yW P (Xa rs us o vs) e.2 u).p S w
 |[],_,_,_,_,_,_,_,e,he=>absurd he UV
 |[m],_,[],_,_,_,_,hl,_,_=>by cases hl
 |[.d _],x,u::us,i,o,S,h,hl,e,he=>by
  obtain rfl:=OZ.1 he;exact⟨0,u,rfl,rfl,h.1⟩
 |[.own _ _],x,u::us,i,o,S,h,hl,e,he=>by
  obtain rfl:=OZ.1 he;exact⟨0,u,rfl,rfl,(yK (vs:=vs)).symm⟩
 |[.var _ _],x,u::us,i,o,S,h,hl,e,he=>by
  obtain rfl:=OZ.1 he;have h1:=yK (vs:=vs) (n:=o) (v:=u);exact⟨0,u,rfl,rfl,h1.symm,by obtain⟨b,hb⟩:=h.1;exact⟨b,h1.trans hb⟩⟩
 |.var t E::n::r,x,u::us,i,o,S,h,hl,e,he=>by
  rcases OY.1 he with rfl|he
  ·have h1:=yK (vs:=Xa (n::r) us (o+1) vs) (n:=o) (v:=u);exact⟨0,u,rfl,rfl,h1.symm,by obtain⟨b,hb⟩:=h.1;exact⟨b,h1.trans hb⟩⟩
  ·obtain⟨j,v,h1,h2,h3⟩:=QW (rs:=n::r) (x:=x.2) (i:=i+1) (o:=o+1) h.2 (by simpa using hl) e he;refine⟨j+1,v,by lia,by simpa using h2,?_⟩;have:yW P (Xa (.var t E::n::r) (u::us) o vs) e.2 v=yW P (Xa (n::r) us (o+1) vs) e.2 v:=YC (fun p hp=>Ve (by have:=Wc (rs:=n::r) (x:=x.2) (i:=i+1) (o:=o+1) e he p hp;lia)) v;rw[this];exact h3
 |_::n::r,x,[],_,_,_,_,hl,_,_=>by cases hl
 |.d t::n::r,x,u::us,i,o,S,h,hl,e,he=>by
  rcases OY.1 he with rfl|he
  ·exact⟨0,u,rfl,rfl,h.1⟩
  ·obtain⟨j,v,h1,h2,h3⟩:=QW (rs:=n::r) (x:=x.2) (i:=i+1) (o:=o) h.2 (by simpa using hl) e he;exact⟨j+1,v,by lia,by simpa using h2,h3⟩
 |.own t E::n::r,x,u::us,i,o,S,h,hl,e,he=>by
  rcases OY.1 he with rfl|he
  ·exact⟨0,u,rfl,rfl,(yK (vs:=Xa (n::r) us (o+1) vs)).symm⟩
  ·obtain⟨j,v,h1,h2,h3⟩:=QW (rs:=n::r) (x:=x.2) (i:=i+1) (o:=o+1) h (by simpa using hl) e he;refine⟨j+1,v,by lia,by simpa using h2,?_⟩;have:yW P (Xa (.own t E::n::r) (u::us) o vs) e.2 v=yW P (Xa (n::r) us (o+1) vs) e.2 v:=YC (fun p hp=>Ve (by have:=Wc (rs:=n::r) (x:=x.2) (i:=i+1) (o:=o+1) e he p hp;lia)) v;rw[this];exact h3
theorem tL{f:FuncId}{ags:List Operand}:∀{cs:List jo}{s:jo},fi cx σ f ags cs=some s->s∈cs/\s.f=f
 |c::cs,s,h=>by
  unfold fi at h;split at h
  ·simp_all
  ·obtain⟨h1,h2⟩:=tL h;exact⟨H1 _ h1,h2⟩
theorem mJ{rs:List RM}{x:uE rs}{us:List Value}{o:Nat}{S:Nat->Prop}(h:ze S (wC rs x us) w)(hl:us.length=rs.length):∀e∈(vI rs x (bif Zj rs then 0 else 1) o).1,(xG P (Xa rs us o vs) e.2 (wQ us) e.1).p S w:=by
 intro e he;obtain⟨j,u,h1,h2,h3⟩:=QW (P:=P) (vs:=vs) h hl e he;obtain⟨i,dv⟩:=e
 match us,hl,h2 with
 |[],_,h2=>simp at h2
 |[v],hl,h2=>
  obtain rfl:j=0:=by
   rcases j with _|j
   ·rfl
   ·grind
  obtain⟨m,rfl⟩:=P2.1 hl.symm;simp only[Zj,cond_true]at h1;simp only[PE,O6]at h2;subst h1;subst h2;exact h3
 |v::v'::us,hl,h2=>
  have:Zj rs=false:=by
   match rs,hl with
   |[],_=>rfl
   |_::_::_,_=>rfl
  rw[this]at h1;simp only[cond_false]at h1;obtain rfl:i=j+1:=by lia
  exact⟨(v::v'::us).toArray,u,rfl,by simpa using h2,h3⟩
def X5:List RM->List Value->List Value
 |[],_=>[]
 |.d _::r,us=>X5 r us.tail
 |.own _ _::r,us=>us.headD undef::X5 r us.tail
 |.var _ _::r,us=>us.headD undef::X5 r us.tail
theorem YW:∀{rs:List RM}{x:uE rs}{us:List Value}{i o:Nat},(vI rs x i o).2.map (fun e=>Xa rs us o vs e.1)=X5 rs us
 |[],_,_,_,_=>rfl
 |[.d _],x,us,i,o=>rfl
 |[.own t E],x,us,i,o=>by
  show[ja vs o (us.headD undef) o]=[us.headD undef];rw[yK]
 |[.var t E],x,us,i,o=>by
  show[ja vs o (us.headD undef) o]=[us.headD undef];rw[yK]
 |.var t E::n::r,x,us,i,o=>by
  show ja (Xa (n::r) us.tail (o+1) vs) o (us.headD undef) o::(vI (n::r) x.2 (i+1)<|o+1).2.map (fun e=>Xa (.var t E::n::r) us o vs e.1)=us.headD undef::X5 (n::r) us.tail;rw[yK,<-YW];congr 1;refine RZ fun e he=> ?_;exact Ve (by have:=uf e he;lia)
 |.d t::n::r,x,us,i,o=>YW (rs:=n::r)
 |.own t E::n::r,x,us,i,o=>by
  show ja (Xa (n::r) us.tail (o+1) vs) o (us.headD undef) o::(vI (n::r) x.2 (i+1)<|o+1).2.map (fun e=>Xa (.own t E::n::r) us o vs e.1)=us.headD undef::X5 (n::r) us.tail;rw[yK,<-YW];congr 1;refine RZ fun e he=> ?_;exact Ve (by have:=uf e he;lia)
theorem VM:∀{m:Nat}{rs:List RM}{us:List Value},X3 m rs=true->us.length=rs.length->X5 rs us=us.drop m
 |0,[],us,_,hl=>by
  obtain rfl:=Rl.1 hl;rfl
 |0,.own _ _::r,[],_,hl=>by cases hl
 |0,.own _ _::r,u::us,h,hl=>by
  show u::X5 r us=u::us;rw[VM (rs:=r) h<|by simpa using hl];rfl
 |0,.var _ _::r,[],_,hl=>by cases hl
 |0,.var _ _::r,u::us,h,hl=>by
  show u::X5 r us=u::us;rw[VM (rs:=r) h<|by simpa using hl];rfl
 |m+1,.d _::r,[],_,hl=>by cases hl
 |m+1,.d _::r,u::us,h,hl=>VM (m:=m) h<|by simpa using hl
 |0,.d _::_,_,h,_=>by cases h
 |_+1,[],_,h,_=>by cases h
 |_+1,.own _ _::_,_,h,_=>by cases h
 |_+1,.var _ _::_,_,h,_=>by cases h
theorem lj{vs':Nat->Value}:∀{os:List Nat}{ob:List (Nat×Od)},os.map vs'=ob.map (fun e=>vs' e.1)->MS vs' (QB os ob)=MS vs' ob
 |[],[],_=>rfl
 |[],_::_,h=>by cases h
 |_::_,[],h=>by cases h
 |o::os,(p,X)::ob,h=>by
  simp only[PA,Tp]at h;show uk vs' (o,X)::MS vs' (QB os ob)=uk vs' (p,X)::MS vs' ob;rw[lj h.2];cases X<;>simp only[uk]<;>rw[h.1]
theorem bu:∀{os:List Nat}{ob:List (Nat×Od)},∀e∈QB os ob,e.1∈os
 |[],_,e,he=>absurd he<|by simp[QB]
 |_::_,[],e,he=>absurd he<|by simp[QB]
 |o::os,p::ob,e,he=>by
  rcases OY.1 (show e∈(o,p.2)::QB os ob from he)with rfl|he
  ·simp_all
  ·exact H1 _<|bu e he
theorem fU{rs:List RM}{x:uE rs}{us:List Value}{o m:Nat}{S:Nat->Prop}(h:ze S (wC rs x us) w)(hl:us.length=rs.length)(hm:m<=us.length):∀e∈(vI rs x (Vr m) o).1.filter (fun e=>RA e.1<|Vr m+m),(xG P (Xa rs us o vs) e.2 (wQ<|us.take m) e.1).p S w:=by
 intro e he;obtain⟨he,hb⟩:=PO.1 he;have hb:e.1<Vr m+m:=Nat.blt_eq.mp hb;obtain⟨j,u,h1,h2,h3⟩:=QW (P:=P) (vs:=vs) h hl e he;obtain⟨i,dv⟩:=e;simp only at h1 hb;have hj:j<m:=by lia
 have h4:(us.take m)[j]? =some u:=by rw[Rk,iq hj];exact h2
 have h5:(us.take m).length=m:=by rw[PG];lia
 generalize us.take m=vs' at*
 match vs',h5,h4 with
 |[],h5,h4=>simp at h4
 |[v],h5,h4=>
  obtain rfl:m=1:=h5.symm;obtain rfl:j=0:=by lia
  simp only[PE,O6]at h4;obtain rfl:i=0:=h1;subst h4;exact h3
 |v::v'::us',h5,h4=>
  have:Vr m=1:=by
   unfold Vr;rw[oT<|by simp at h5;lia];rfl
  rw[this]at h1;obtain rfl:i=j+1:=by lia
  exact⟨(v::v'::us').toArray,u,rfl,by simpa using h4,h3⟩
theorem iZ{f:Operand}{f':FuncId}{cs:List PD}{s:jo}{ags:Array Operand}{ts:Array TypeId}{k:Sg->Option R}{z:uC s.dom}{q:uE s.cod}{os:List Nat}(hd:yJ cx d=true)(hf:yx cx σ f=some (.fn f' cs))
 (hp:zQ P s) (h2:s.f=f') (hs:ags.toList.length+cs.length=s.dom.length) (hC:∀o∈os,∃X,(o,X)∈σ.ob) (hz:∀vs (fr:Fr) env S w,(∀x,qK P vs env S w cx σ x)->∀cvs:List Value,cvs.length=cs.length->ze S (JH cs cvs) w->
  ze S (wO P s.dom z<|ags.toList.map (ev env)++cvs) w/\(OS vs fr cx σ.ob).Perm (wH s.dom z (ags.toList.map (ev env)++cvs)++OS vs fr cx (xu σ.ob os))/\kN s.dom (ags.toList.map (ev env)++cvs)=os.map vs)
 (hq:s.M z=some q) (h:CC σ d s os q k=some r):Yj P cx ⟨d,.call ⟨.value f,ags,ts⟩,ty,pos,aft,g⟩ σ k r:=by
 unfold CC at h;split at h
 ·next hu=>
   refine⟨_,h,PV _ _,fun fr vs env w hR=> ?_⟩
   obtain⟨hB,hk⟩:=hR
   obtain⟨S0,_,hΓ⟩:=hk.ex
   obtain⟨cvs,hv,hi,_⟩:=za hf<|zj hΓ f
   have hj:=hp.plain hu hq (vs:=ags.toList.map (ev env)++cvs)<|by simp at hs⊢;lia
   have hl:(execOp (ev env) ⟨d,.call ⟨.value f,ags,ts⟩,ty,pos,aft,g⟩).run P w=.ok (.enter f' (ags.toList.map (ev env)++cvs).toArray) w:=by simp[execOp,resolve,hv,Rn,invoke,xg<|h2▸hp.1]
   have hm:St fr.we fr.Se (wH s.dom z (ags.toList.map (ev env)++cvs)++OS vs fr cx (xu σ.ob os)) (wO P s.dom z (ags.toList.map (ev env)++cvs)++GS P vs env fr cx σ) w:=by
    refine St.perm (St.weak hk fun S w ha=>ze.append ?_ ha) (hz vs fr env S0 w (zj hΓ) cvs hi ?_).2.1
    ·obtain⟨cvs',hb,hg,hc⟩:=za hf<|zj ha f;rw[hv]at hb;have:cvs=cvs':=by simpa using hb
     subst this;exact(hz vs fr env S w (zj ha) cvs hi hc).1
    ·obtain⟨cvs',hb,hg,hc⟩:=za hf<|zj hΓ f;rw[hv]at hb;have:cvs=cvs':=by simpa using hb
     subst this;exact hc
   unfold xX
   rw[hl]
   rw[h2]at hj
   refine(hj fr.we fr.Se _ _ w hm).mono ?_
   rintro e w' ⟨us,he,hr,hw⟩
   refine⟨wQ us,he,?_⟩
   refine jR (vs:=vs) (vs':=Xa s.cod us σ.nx vs) (l:=(vI s.cod q (bif Zj s.cod then 0 else 1) σ.nx).1) (Γl:=wC s.cod q us) hB hd rfl (PV _ _) (fun o ho=>kj ho) Z1 ?_ (fun S w ha=>mJ ha hr) ?_
   ·intro e he
    rcases OX.1 he with he|he
    ·exact(uf e he).2
    ·exact Pc (hB.o1 e<|kr e he)<|PV _ _
   ·have e1:OS (Xa s.cod us σ.nx vs) fr cx ((vI s.cod q (bif Zj s.cod then 0 else 1) σ.nx).2++xu σ.ob os)=wI s.cod q us++OS vs fr cx (xu σ.ob os):=by
     show MS _ (_++_)++(MS _ cx.ob++_)=_;have a1:MS (Xa s.cod us σ.nx vs) (xu σ.ob os)=MS vs (xu σ.ob os):=yY fun e he=>kj<|hB.o1 e<|kr e he;have a2:MS (Xa s.cod us σ.nx vs) cx.ob=MS vs cx.ob:=yY fun e he=>kj<|hB.o2 e he;rw[a2,show MS (Xa s.cod us σ.nx vs) ((vI s.cod q (bif Zj s.cod then 0 else 1) σ.nx).2++xu σ.ob os)=MS _ _++MS _ _ from PS,a1,XI,O2]
    rw[e1]
    exact hw
 ·next b hu=>
   obtain⟨ht,h⟩:=zw h
   refine⟨_,h,PV _ _,fun fr vs env w hR=> ?_⟩
   obtain⟨hB,hk⟩:=hR
   obtain⟨S0,_,hΓ⟩:=hk.ex
   obtain⟨cvs,hv,hi,_⟩:=za hf<|zj hΓ f
   have hj:=hp.2 z q hq (ags.toList.map (ev env)++cvs)<|by simp at hs⊢;lia
   rw[hu]at hj
   have hl:(execOp (ev env) ⟨d,.call ⟨.value f,ags,ts⟩,ty,pos,aft,g⟩).run P w=.ok (.enter f' (ags.toList.map (ev env)++cvs).toArray) w:=by simp[execOp,resolve,hv,Rn,invoke,xg<|h2▸hp.1]
   have hy:kN s.dom (ags.toList.map (ev env)++cvs)=os.map vs:=by
    obtain⟨cvs',hb,hg,hc⟩:=za hf<|zj hΓ f;rw[hv]at hb;have:cvs=cvs':=by simpa using hb
    subst this;exact(hz vs fr env S0 w (zj hΓ) cvs hi hc).2.2
   have hm:St fr.we fr.Se (wH s.dom z (ags.toList.map (ev env)++cvs)++OS vs fr cx (xu σ.ob os)) (wO P s.dom z (ags.toList.map (ev env)++cvs)++GS P vs env fr cx σ) w:=by
    refine St.perm (St.weak hk fun S w ha=>ze.append ?_ ha) (hz vs fr env S0 w (zj hΓ) cvs hi ?_).2.1
    ·obtain⟨cvs',hb,hg,hc⟩:=za hf<|zj ha f;rw[hv]at hb;have:cvs=cvs':=by simpa using hb
     subst this;exact(hz vs fr env S w (zj ha) cvs hi hc).1
    ·obtain⟨cvs',hb,hg,hc⟩:=za hf<|zj hΓ f;rw[hv]at hb;have:cvs=cvs':=by simpa using hb
     subst this;exact hc
   unfold xX
   rw[hl]
   rw[h2]at hj
   refine(hj fr.we fr.Se _ _ w hm).mono ?_
   rintro e w' ⟨us,he,⟨hr,hx⟩,hw⟩
   refine⟨wQ<|us.take<|s.cod.length-(b+1),he,?_⟩
   have hn:∀o,o<σ.nx->Xa s.cod us σ.nx vs o=vs o:=fun o ho=>kj ho
   have hA:∀o∈os,o<σ.nx:=fun o ho=>by
    obtain⟨X,hX⟩:=hC o ho;exact hB.o1 _ hX
   have hD:MS (Xa s.cod us σ.nx vs) (QB os (vI s.cod q (Vr<|s.cod.length-(b+1)) σ.nx).2)=wI s.cod q us:=by
    rw[lj,XI];rw[YW,VM ht hr,hx,hy];exact RZ fun o ho=>hn o<|hA o ho
   refine jR (vs:=vs) (vs':=Xa s.cod us σ.nx vs) (l:=(vI s.cod q (Vr<|s.cod.length-(b+1)) σ.nx).1.filter fun e=>RA e.1<|Vr (s.cod.length-(b+1))+(s.cod.length-(b+1))) (Γl:=wC s.cod q us) hB hd rfl (PV _ _) hn (fun e he=>Z1 e (PO.1 he).1) ?_ (fun S w ha=>fU ha hr<|by lia) ?_
   ·intro e he
    rcases OX.1 he with he|he
    ·exact Pc (hA _<|bu e he)<|PV _ _
    ·exact Pc (hB.o1 e<|kr e he)<|PV _ _
   ·have e1:OS (Xa s.cod us σ.nx vs) fr cx (QB os (vI s.cod q (Vr<|s.cod.length-(b+1)) σ.nx).2++xu σ.ob os)=wI s.cod q us++OS vs fr cx (xu σ.ob os):=by
     show MS _ (_++_)++(MS _ cx.ob++_)=_;have a1:MS (Xa s.cod us σ.nx vs) (xu σ.ob os)=MS vs (xu σ.ob os):=yY fun e he=>kj<|hB.o1 e<|kr e he;have a2:MS (Xa s.cod us σ.nx vs) cx.ob=MS vs cx.ob:=yY fun e he=>kj<|hB.o2 e he;rw[a2,show MS (Xa s.cod us σ.nx vs) (QB os (vI s.cod q (Vr<|s.cod.length-(b+1)) σ.nx).2++xu σ.ob os)=MS _ _++MS _ _ from PS,a1,hD,O2]
    rw[e1]
    exact hw
theorem GF(hC:∀s∈cf.cs,zQ P s){f:Operand}{f':FuncId}{cs:List PD}{s:jo}{ags:Array Operand}{ts:Array TypeId}{k:Sg->Option R}(hd:yJ cx d=true)(hf:yx cx σ f=some (.fn f' cs))
 (hs:fi cx σ f' ags.toList cf.cs=some s) (h:DW cf cx σ d s ags.toList cs k=some r):Yj P cx ⟨d,.call ⟨.value f,ags,ts⟩,ty,pos,aft,g⟩ σ k r:=by
 obtain⟨h1,h2⟩:=tL hs;obtain⟨z,os,h,ha,hb,hz⟩:=ua hC h;obtain⟨q,hq,h⟩:=ZP h;exact iZ hd hf (hC s h1) h2 ha hb hz hq h
theorem nt{f:FuncId}{ags:List Operand}:∀{l:List qN}{p:qN},oW cx σ f ags l=some p->p∈l/\p.s.f=f
 |c::l,p,h=>by
  unfold oW at h;split at h
  ·simp_all
  ·obtain⟨h1,h2⟩:=nt h;exact⟨H1 _ h1,h2⟩
def DQ(P:Program)(cx:Sg)(o:Oper)(σ:Sg)(kp:PX->Sg->Option R)(r:R):Prop:=∃q σ',kp q σ'=some r/\σ'.nx=σ.nx/\∀(fr:Fr) (vs:Nat->Value) (env:yb) (w:World),ZR P fr cx σ vs env w->Al P o env w (fun ch w'=>ch=XU q/\ZR P fr cx σ' vs env w')
theorem HC(hC:∀s∈cf.cs,zQ P s){f:Operand}{f':FuncId}{cs:List PD}{p:qN}{ags:Array Operand}{ts:Array TypeId}{kp:PX->Sg->Option R}{k:Sg->Option R}(hd:yJ cx d=true)(hf:yx cx σ f=some (.fn f' cs))
 (hj:Vo P p) (h2:p.s.f=f') (h:Gd cf cx σ d p ags.toList cs kp k=some r):Yj P cx ⟨d,.call ⟨.value f,ags,ts⟩,ty,pos,aft,g⟩ σ k r\/DQ P cx ⟨d,.call ⟨.value f,ags,ts⟩,ty,pos,aft,g⟩ σ kp r:=by
 unfold Gd at h;obtain⟨z,os,h,hi,hq,hz⟩:=ua hC h;obtain⟨y,hy,h⟩:=ZP h
 cases y with
 |inr q=>exact .inl<|iZ (s:=p.n) hd hf hj.n h2 hi hq hz (by show(match p.M z with|some (.inr r)=>some r|_=>none)=some q;rw[hy]) h
 |inl q=>
  refine .inr ⟨q,_,h,rfl,fun fr vs env w hR=> ?_⟩;obtain⟨hB,hk⟩:=hR;obtain⟨S0,_,hΓ⟩:=hk.ex;obtain⟨cvs,hv,hl,_⟩:=za hf<|zj hΓ f;have hm:=(hj.2 z (ags.toList.map (ev env)++cvs)<|by simp at hi⊢;lia).2 q hy;have hn:(execOp (ev env) ⟨d,.call ⟨.value f,ags,ts⟩,ty,pos,aft,g⟩).run P w=.ok (.enter f' (ags.toList.map (ev env)++cvs).toArray) w:=by simp[execOp,resolve,hv,Rn,invoke,xg<|h2▸hj.1]
  have ho:St fr.we fr.Se (wH p.s.dom z (ags.toList.map (ev env)++cvs)++OS vs fr cx (xu σ.ob os)) (wO P p.s.dom z (ags.toList.map (ev env)++cvs)++GS P vs env fr cx σ) w:=by
   refine St.perm (St.weak hk fun S w ha=>ze.append ?_ ha) (hz vs fr env S0 w (zj hΓ) cvs hl ?_).2.1
   ·obtain⟨cvs',hb,hp,hg⟩:=za hf<|zj ha f;rw[hv]at hb;have:cvs=cvs':=by simpa using hb
    subst this;exact(hz vs fr env S w (zj ha) cvs hl hg).1
   ·obtain⟨cvs',hb,hp,hg⟩:=za hf<|zj hΓ f;rw[hv]at hb;have:cvs=cvs':=by simpa using hb
    subst this;exact hg
  unfold Al;rw[hn];rw[h2]at hm;refine⟨fun c hc=>(by cases hc),(hm fr.we fr.Se _ _ w ho).mono ?_⟩;rintro e w' ⟨he,hr⟩;exact⟨_,he,rfl,⟨fun e he=>hB.o1 e<|kr e he,hB.o2,hB.r1,hB.r2⟩,hr⟩
end
end
section
theorem St.pr{we:World}{Se:Nat->Prop}{ms:List MF}{Γ:List FF}{w:World}{p:Prop}(hp:p)(h:St we Se ms Γ w):St we Se (nb p::ms) Γ w:=by
 obtain⟨h1,h2,h3,S,h4,h5,h6,h7,h8⟩:=h;refine⟨h1,h2,⟨fun k hk=>hk.elim,h3⟩,S,h4,h5,fun m hm k hk=> ?_,⟨hp,h7⟩,h8⟩;rcases OY.1 hm with rfl|hm
 ·exact hk.elim
 ·grind
theorem St.unpr{we:World}{Se:Nat->Prop}{ms:List MF}{Γ:List FF}{w:World}{p:Prop}(h:St we Se (nb p::ms) Γ w):p/\St we Se ms Γ w:=
 ⟨xy h (i:=0) rfl fun S hp=>hp,St.drop (i:=0) h⟩
section
variable{P:Program}{cf:Cf}{fr:Fr}{cx σ:Sg}{vs vs':Nat->Value}{env:yb}{w:World}{R:Type}{r:R}
 {d:Option Tmp}{ty t yt:TypeId}{pos:String}{aft:Array Edge}{g:Option (Nat×Bool)}{x y:Operand}
theorem ku{d d':Dv}{v:Value}{i:Nat}{S:Nat->Prop}(h:(xG P vs d v i).p S w)(hm:∀u,(yW P vs d u).p S w->(yW P vs d' u).p S w):(xG P vs d' v i).p S w:=by
 cases i with
 |zero=>exact hm _ h
 |succ i=>obtain⟨us,u,h1,h2,h3⟩:=h;exact⟨us,u,h1,h2,hm _ h3⟩
theorem jH{v u:Value}{mk:Nat->Dv}{X:Od}{ob:List (Nat×Od)}(hB:Bd cx σ)(hd:yJ cx d=true)(ha:∀e∈ob,e.1<σ.nx)(hf:∀o,xz (mk o)=some o)(hb:∀S w,(yW P (ja vs σ.nx u) (mk σ.nx) v).p S w)
 (hc:St fr.we fr.Se (uk (ja vs σ.nx u) (σ.nx,X)::OS vs fr cx ob) (GS P vs env fr cx σ) w):Xt P fr cx σ.nx vs ⟨σ.nx+1,xK σ.rg d [(0,mk σ.nx)],(σ.nx,X)::ob⟩ (put env d v) w:=by
 refine jR (vs':=ja vs σ.nx u) (Γl:=[]) hB hd rfl (PJ _) (fun o ho=>wz ho) ?_ ?_ ?_ ?_
 ·simp_all
 ·grind
 ·intro S w _ e he;obtain rfl:=OZ.1 he;exact hb S w
 ·show St _ _ (uk (ja vs σ.nx u) (σ.nx,X)::OS (ja vs σ.nx u) fr cx ob) _ _;rw[K8 hB ha];exact hc
theorem jr:∀{ob:List (Nat×Od)}{o:Nat}{X Y:Od},yE ob o=some X->yE (ve ob o Y) o=some Y/\zD (ve ob o Y) o=zD ob o
 |(o',X')::r,o,X,Y,h=>by
  unfold yE at h;unfold ve;cases hb:OW o' o<;>rw[hb]at h
  ·obtain⟨h1,h2⟩:=jr h;constructor
   ·simp only[cond_false];unfold yE;rw[hb];exact h1
   ·simp only[cond_false];unfold zD;rw[hb];simp only[cond_false,h2]
  ·constructor
   ·simp only[cond_true];unfold yE;rw[hb];rfl
   ·simp only[cond_true];unfold zD;rw[hb];rfl
theorem wY{o:Nat}{X:Od}{Γ:List FF}(ho:yE σ.ob o=some X)(h:St fr.we fr.Se (OS vs fr cx σ.ob) Γ w):St fr.we fr.Se (uk vs (o,X)::OS vs fr cx (zD σ.ob o)) Γ w:=h.perm<|xo ho
theorem VF{ob:List (Nat×Od)}{o:Nat}{X Y:Od}{Γ:List FF}(ho:yE ob o=some X)(h:St fr.we fr.Se (uk vs (o,Y)::OS vs fr cx (zD ob o)) Γ w):St fr.we fr.Se (OS vs fr cx<|ve ob o Y) Γ w:=by
 obtain⟨h1,h2⟩:=jr ho;have:=xo (vs:=vs) (fr:=fr) (cx:=cx) h1;rw[h2]at this;exact h.perm this.symm
theorem Wo{o o2:Nat}{X Y:Od}{Γ:List FF}(ha:OW o o2=false)(ho:yE σ.ob o=some X)(hb:yE σ.ob o2=some Y)(h:St fr.we fr.Se (OS vs fr cx σ.ob) Γ w):
 St fr.we fr.Se (uk vs (o,X)::uk vs (o2,Y)::OS vs fr cx (zD (zD σ.ob o) o2)) Γ w:=by
 have h1:yE (zD σ.ob o) o2=some Y:=by rw[Ze<|fun e=>by subst e;simp at ha];exact hb
 exact(h.perm<|xo ho).perm<|(xo h1).cons _
theorem gL{o:Nat}{u:Value}{X:Od}:uk (ja vs o u) (o,X)=uk (fun _=>u) (0,X):=by
 cases X<;>simp only[uk,yK]
theorem Hy{S:Nat->Prop}{w:World}:(qs [.slice none 0 0]).p S 0 (Value.cells (.slice none 0 0)).toList w:=⟨_,rfl,rfl,rfl⟩
theorem Ba(hT:ya P cf.tt){k:Sg->Option R}(hd:yJ cx d=true)(h:fh cf cx σ d t x y k=some r):Yj P cx ⟨d,.makeSlice t x y,ty,pos,aft,g⟩ σ k r:=by
 unfold fh at h;split at h
 ·next s E B ht=>
  obtain⟨hi,h⟩:=zw h;split at h
  ·next s' E1 B1 n he hn=>
   obtain⟨j,hj,h⟩:=gN h;obtain⟨hb,h⟩:=wK h;obtain⟨xs,hf,h⟩:=yI h;have hk:=dU hT he rfl;refine⟨_,h,PJ _,fun fr vs env w hR=> ?_⟩;obtain⟨hB,hg⟩:=hR;obtain⟨S0,_,hΓ⟩:=hg.ex;have hx:ev env x=.int .i64 (j:Int):=by rw[(xn hn<|zj hΓ x).1,hj]
   have ha:=(hT _ _ he).2.1;refine(ca (e:=qs [.slice none 0 0]) (z:=0) (xs:=xs) (n:=j) (xF hT ht) hk hx ((iC hi).symm.trans hx) ha hb (fun _ _=>Hy) hf w hg).mono ?_;rintro v w' ⟨b,rfl,_,hs⟩;have hc:xs.length=j:=by rw[hf];exact Sp
   have h1:=hs.closeF 0 rfl (by rw[hc];exact O3 _)<|oJ ha hb;rw[hc]at h1;refine jH (vs:=vs) (mk:=.mw) (u:=Zr (.slice (some ⟨b,0,none⟩) j j) [.slice none 0 0]) hB hd hB.o1 (fun _=>rfl) (fun S w=>by simp only[yW,yK];rfl) ?_;rw[gL];refine St.grp.2<|St.pr (p:=([.slice none 0 0]:List Value).length=([[]]:List (List s.D)).length) rfl ?_;have h2:=St.nilO (e:=s.rep) (E:=E1) h1;exact h2.perm<|Sc ..
  ·cases h
 ·cases h
theorem Ei{ao:Option Addr}{n c:Nat}:(Value.slice ao n c).oneCell'=true/\(Value.slice ao n c).cells= #[.slice ao n c]:=⟨rfl,rfl⟩
theorem Ql{α:Type}{e:zv α}{E:TypeId}{v:Value}{xs:List α}{S:Nat->Prop}(h:(mO e E v xs).p S w):v.oneCell'=true/\v.cells= #[v]:=by
 rcases XR h with⟨rfl,_⟩|⟨b,cap,rfl,_⟩<;>exact Ei
theorem FI(hT:ya P cf.tt)(hL:vd P cf.tt){n:Nat}{ps:Array (Nat×Operand)}{k:Sg->Option R}(hd:yJ cx d=true)(h:pY cf cx σ d t n ps.toList k=some r):Yj P cx ⟨d,.buildSlice t n ps,ty,pos,aft,g⟩ σ k r:=by
 unfold pY at h;split at h
 ·next s E B x ht hf=>
  obtain⟨hn,h⟩:=zw h;have hn:=zr hn;subst hn;split at h
  ·next o2 hg=>
   split at h
   ·next s2 E1 ys hc=>
    obtain⟨hi,h⟩:=zx h;cases hi;obtain⟨bytes,zero,hj⟩:=ui hT hL ht;refine⟨_,h,PJ _,fun fr vs env w hR=> ?_⟩;obtain⟨hB,hb⟩:=hR;obtain⟨S0,_,hΓ⟩:=hb.ex;have hk:ev env x=vs o2:=za hg<|zj hΓ x;obtain⟨q1,q2⟩:=xy (wY hc hb) (i:=0) (m:=mO s.rep E1 (vs o2) ys) rfl fun S hp=>Ql hp;have hl:wM [(0,vs o2)]=[vs o2]:=by rw[CV,q2]
    refine(tJ (e:=qs [vs o2]) (zs:=[0]) (len:=1) (parts:=ps.toList) (vs:=[(0,vs o2)]) (xF hT ht) hj (Tq) rfl (by show 1*1<=_;lia) (by rw[hf];simp[hk]) (fun S w ha=>⟨by rw[q2];rfl,trivial⟩) (fun S w ha=> ?_) w<|wY hc hb).mono ?_
    ·rw[hl];exact⟨[vs o2],[],rfl,⟨_,rfl,q1,rfl⟩,rfl⟩
    rintro v w' ⟨v',rfl,_,hs⟩;refine jH (vs:=vs) (mk:=.mw) (u:=Zr v [vs o2]) hB hd (fun e he=>hB.o1 e<|xv e he) (fun _=>rfl) (fun S w=>by simp only[yW,yK];rfl) ?_;rw[gL];exact St.grp.2<|St.pr (p:=([vs o2]:List Value).length=([ys]:List (List s.D)).length) rfl hs
   ·cases h
  ·cases h
 ·cases h
theorem nY(hT:ya P cf.tt){E0:TypeId}{k:Sg->Option R}(hd:yJ cx d=true)(h:UF cf σ d E0 k=some r):Yj P cx ⟨d,.alloc E0,ty,pos,aft,g⟩ σ k r:=by
 unfold UF at h;split at h
 ·next s E B ht=>
  have hg:=dU hT ht rfl;refine⟨_,h,PJ _,fun fr vs env w hR=> ?_⟩;obtain⟨hB,ha⟩:=hR;refine(W0 (e:=(qs [.slice none 0 0]).c) (z:=0) hg (fun S w=>Hy (S:=S) (w:=w)) w ha).mono ?_;rintro v w' ⟨b,rfl,_,hs⟩;refine jH (vs:=vs) (mk:=.mw) (u:=Zr (.pointer<|some ⟨b,0,none⟩) [.slice none 0 0]) hB hd hB.o1 (fun _=>rfl) (fun S w=>by simp only[yW,yK];rfl) ?_;rw[gL];refine St.grp.2<|St.pr (p:=([.slice none 0 0]:List Value).length=1) rfl ?_;exact(St.nilO (e:=s.rep) (E:=E)<|hs.toP 0 rfl).perm<|Sc ..
 ·next ty' n B ht=>
  split at h
  ·next i E1 hi=>
   split at h
   ·next off s g' st hf=>
    obtain⟨zero,hb,hj,hc,_,he⟩:=(hT _ _ ht).1;simp only at hb hc he;refine⟨_,h,PJ _,fun fr vs env w hR=> ?_⟩;obtain⟨hB,ha⟩:=hR;refine(W0 (e:=uJ ty'.rep off (st ([]:List s.D)) [.slice none 0 0]) (z:=(ty'.z,0)) hb (fun S w=>nF hf (hc S w) (he _ _ _ _ _ _ hf) rfl) w ha).mono ?_;rintro v w' ⟨b,rfl,_,hs⟩;refine jH (vs:=vs) (mk:=.mw) (u:=Zr (.pointer<|some ⟨b,0,none⟩) [.slice none 0 0]) hB hd hB.o1 (fun _=>rfl) (fun S w=>by simp only[yW,yK];rfl) ?_;rw[gL];refine St.grp.2<|St.pr (p:=([.slice none 0 0]:List Value).length=1/\mx s (yq n ty' i)) ⟨rfl,_,_,_,hf⟩ ?_;have h3:=(St.nilO (e:=s.rep) (E:=E1)<|hs.toP 0 rfl).perm<|Sc ..;show St _ _ (mP (uJ ty'.rep (qv<|yq n ty' i) (vn s (yq n ty' i) []) [.slice none 0 0]) E0 _ (ty'.z,0)::mO s.rep E1 (.slice none 0 0) []::_) _ _;rw[hf];have hp:vn s (some ⟨off,.l s,g',st⟩) ([]:List s.D)=st ([]:List s.D):=funext fun z=>YN;rw[hp];exact h3
   ·cases h
  ·cases h
 ·cases h
theorem Ay{ms:List MF}{Γ:List FF}{we:World}{Se:Nat->Prop}{α:Type}{e:X1 α}{z:α}{v:Value}{E:TypeId}(hx:ev env x=v)(hf:∀(S:Nat->Prop) (w:World),ze S Γ w->e.p S z v.cells.toList w):
 OG P ⟨d,.box E x,ty,pos,aft,g⟩ env we Se ms Γ (fun b=>(.pointer<|some ⟨b,0,none⟩)) (fun b=>(mB e E b z::ms)) (fun _=>Γ) (fun _=>True):=by
 intro w ha;refine xX.of_value (w':=w.alloc (.cells v.cells E)) ?_ ⟨_,rfl,trivial,ha.fresh (jA.alloc w _) rfl (by simp) fun S h5 hΓ=>⟨_,heap_alloc_new w _,?_⟩⟩
 ·simp only[execOp,hx,Instr.box,newVar,newRow,O5,run_newObj_alloc,O0,Pg]
 ·exact e.keep (e.sub (hf S w hΓ) fun k hk hs=>⟨hs,by lia⟩) (jA.alloc w _).to
theorem DY(hT:ya P cf.tt){E0:TypeId}{k:Sg->Option R}(hd:yJ cx d=true)(h:rH cf cx σ d E0 x k=some r):Yj P cx ⟨d,.box E0 x,ty,pos,aft,g⟩ σ k r:=by
 unfold rH at h;split at h
 ·next ty' n B i E1 t2 y n2 i2 ht hc hx=>
  split at h
  ·next off s g' st hf=>
   obtain⟨hg,h⟩:=zw h;rw[IR,IR]at hg;obtain rfl:=zr hg.1;obtain rfl:=zr hg.2.1;obtain rfl:=jQ hg.2.2;obtain⟨he,h⟩:=zx h;refine⟨_,h,PJ _,fun fr vs env w hR=> ?_⟩;obtain⟨hB,hb⟩:=hR;refine(Ay (e:=uJ ty'.rep off (st ([]:List s.D)) [.slice none 0 0]) (z:=(y,0)) rfl (fun S w ha=> ?_) w hb).mono ?_
   ·have hy:=za hx<|zj ha x;obtain⟨h1,f,h2,h3⟩:=hy;rw[hf]at h2;cases h2;exact nF hf (vU h1) h3 rfl
   rintro v w' ⟨b,rfl,_,hs⟩;refine jH (vs:=vs) (mk:=.mw) (u:=Zr (.pointer<|some ⟨b,0,none⟩) [.slice none 0 0]) hB hd hB.o1 (fun _=>rfl) (fun S w=>by simp only[yW,yK];rfl) ?_;rw[gL];refine St.grp.2<|St.pr (p:=([.slice none 0 0]:List Value).length=1/\mx s (yq _ ty' _)) ⟨rfl,_,_,_,hf⟩ ?_;have h3:=(St.nilO (e:=s.rep) (E:=E1)<|hs.toP 0 rfl).perm<|Sc ..;show St _ _ (mP (uJ ty'.rep (qv<|yq _ ty' _) (vn s (yq _ ty' _) []) [.slice none 0 0]) E0 _ (y,0)::mO s.rep E1 (.slice none 0 0) []::_) _ _;rw[hf];have hp:vn s (some ⟨off,.l s,g',st⟩) ([]:List s.D)=st ([]:List s.D):=funext fun z=>YN;rw[hp];exact h3
  ·cases h
 ·cases h
theorem Bo{v:Option Dv}{o:Nat}(h:dy σ v=some o):∃t n i E s1 E1 z xs,v=some (.vf o t n i)/\yE σ.ob o=some (.vr t E s1 E1 n i z xs):=by
 unfold dy at h;split at h
 ·next o' s0 n0 i=>
  split at h
  ·next s E s1 E1 n j z xs ho=>
   cases hb:OW i j && (OW n0 n && (Ty.same s0 s).isSome)<;>rw[hb]at h
   ·cases h
   ·cases h;rw[IR,IR]at hb;obtain rfl:=zr hb.1;obtain rfl:=zr hb.2.1;obtain rfl:=jQ hb.2.2;grind
  ·cases h
 ·cases h
theorem QK{hv:List Value}(h:hv.length=1):hv=[hv.headD undef]:=by
 match hv,h with
 |[a],_=>rfl
theorem BK(hT:ya P cf.tt){o:Nat}{k:Sg->Option R}(hd:yJ cx d=true)(hf:yx cx σ x=some (.mw o))(h:eR cf σ d t o k=some r):Yj P cx ⟨d,.load t x,ty,pos,aft,g⟩ σ k r:=by
 unfold eR at h;split at h
 ·next q E' B s E E0 xs ht ho=>
  obtain⟨zero,hg,_⟩:=qn hT ht;refine⟨_,h,PJ _,fun fr vs env w hR=> ?_⟩;obtain⟨hB,hc⟩:=hR;obtain⟨S0,_,hΓ⟩:=hc.ex;have hi:ev env x=zN (vs o):=za hf<|zj hΓ x;obtain⟨ha,h1⟩:=St.unpr<|St.grp.1<|wY ho hc;obtain⟨b,hb,h2⟩:=h1.openP 0 rfl;refine(cX (qQ (e:=(qs<|yL<|vs o).c) (f:=qs<|yL<|vs o) (z':=0) (up:=id) 0 rfl (hi.trans hb) (vj.self (qs<|yL<|vs o) 0) hg) w h2).mono ?_;rintro u w' ⟨_,rfl,_,hs⟩;obtain⟨S1,_,hj⟩:=hs.ex;have hu:=ll hj.1;have hl:=QK ha;have hk:u=(yL<|vs o).headD undef:=by grind
  have h3:=(hs.weak (Δ:=GS P vs env fr cx σ) fun S w h=>h.2).toP 0 rfl;rw[<-hb]at h3;refine jH (vs:=vs) (mk:=.ow) (u:=u) hB hd (fun e he=> ?_) (fun _=>rfl) (fun S w=>jZ S w) ?_
  ·obtain⟨e',g1,g2⟩:=kH ho e he;rw[<-g2];exact hB.o1 e' g1
  ·rw[kz,hk];have h4:St fr.we fr.Se (mO s.rep E ((yL<|vs o).headD undef) xs::(uk vs (o,.ho E0)::OS vs fr cx (zD σ.ob o))) (GS P vs env fr cx σ) w':=by
    have h5:St fr.we fr.Se (mP (qs<|yL<|vs o).c E0 (zN<|vs o) 0::mO s.rep E ((yL<|vs o).headD undef) xs::OS vs fr cx (zD σ.ob o)) (GS P vs env fr cx σ) w':=h3;have h6:=St.pr (p:=(yL<|vs o).length=1) ha h5;have h7:St fr.we fr.Se ([nb<|(yL<|vs o).length=1,mP (qs<|yL<|vs o).c E0 (zN<|vs o) 0]++mO s.rep E ((yL<|vs o).headD undef) xs::OS vs fr cx (zD σ.ob o)) (GS P vs env fr cx σ) w':=h6;exact(St.grp.2 h7).perm<|Sc ..
   have hp:=xo (vs:=vs) (fr:=fr) (cx:=cx) (jr (Y:=.ho E0) ho).1;rw[(jr (Y:=.ho E0) ho).2]at hp;exact h4.perm<|hp.symm.cons _
 ·cases h
theorem pZ(hT:ya P cf.tt){ps:Array (Nat×Operand)}{k:Sg->Option R}(hd:yJ cx d=true)(h:K5 cf cx σ d t ps.toList k=some r):Yj P cx ⟨d,.build t ps,ty,pos,aft,g⟩ σ k r:=by
 unfold K5 at h;split at h
 ·next e n B i _ ht hv=>
  obtain⟨zero,he,hk,hg,_,hi⟩:=(hT _ _ ht).1;obtain⟨ha,_,⟨fs,hm,pl,ho,hj⟩,_⟩:=(hT _ _ ht).2.2.2;simp only at he hk hg hi ha hj;obtain⟨hn,h⟩:=zw h;split at h
  ·next off s gt st hf=>
   obtain⟨z,h,hH⟩:=eH h;have hr:∀F,ES P ⟨d,.build t ps,ty,pos,aft,g⟩ cx σ F [(0,.dz e z n i)]:=fun F=>wG fun env w S vs hM hl=>by
    have hb:=hH P vs env S w fun x hx=>zO hl (by simpa[O7]using hx);refine⟨_,_,_,_,[NY n e (ps.toList.map fun q:Nat×Operand=>(q.1,ev env q.2)) e.z z],[],J1 (e:=e.rep) (z0:=e.z) (z:=z) (parts:=ps.toList) (ha▸he) ha hg ⟨fs,hm,ho⟩ rfl (fun out=>out[off]? =some (.slice none 0 0))<|fun S w h cs hs hc=> ?_,trivial,⟨hb,trivial⟩,fun u w' hu hw=>zd ⟨hw.1,_,hf,hu⟩⟩;obtain⟨out,q1,q2,q3⟩:=HB.fill hj h.1 hc;refine⟨out,q1,q2,?_⟩;rw[q3 i _ hf (fun p hp=> ?_) rfl,hs]
    ·exact hi _ _ _ _ _ _ hf
    ·obtain⟨q,hq,rfl⟩:=O8.1 hp;have:=Pe.1 hn q hq;intro e1;simp only at e1;rw[e1]at this;simp at this
   exact⟨_,h,O3 _,fun fr vs env w hR=>Du (hr _).mono hd (by rfl) hR⟩
  ·cases h
 ·cases h
theorem Bp(hT:ya P cf.tt){o:Nat}{k:Sg->Option R}(hd:yJ cx d=true)(hi:dy σ (yx cx σ x)=some o)(h:ef cf σ d t o k=some r):Yj P cx ⟨d,.load t x,ty,pos,aft,g⟩ σ k r:=by
 obtain⟨t0,n0,i,E',s',E1',z',xs',hn,ha⟩:=Bo hi;unfold ef at h;split at h
 ·next s0 q B s1 E s2 E1 n j z xs ht ho=>
  rw[ha]at ho;simp only[O6,Od.vr.injEq]at ho;obtain⟨rfl,rfl,rfl,rfl,rfl,rfl,hz,hq⟩:=ho;cases hz;cases hq;obtain⟨hg,h⟩:=zw h;obtain⟨zero,hr,_⟩:=qn hT ht;refine⟨_,h,PJ _,fun fr vs env w hR=> ?_⟩;obtain⟨hB,hj⟩:=hR;obtain⟨S0,_,hΓ⟩:=hj.ex;obtain⟨b',f,hk,hf,hv⟩:=za hn<|zj hΓ x;obtain⟨⟨hc,hw⟩,h1⟩:=St.unpr<|St.grp.1<|wY ha hj;obtain⟨b,hb,h2⟩:=h1.openP 0 rfl;rw[hb]at hk;cases hk;have hl:qv (yq n0 t0 i)=f.off:=by rw[hf];rfl
  have hm:ev env x=.pointer (some ⟨b',qv<|yq n0 t0 i,none⟩):=by rw[hl];exact hv.trans<|by rw[Pk]
  refine(cX (qQ (e:=uJ t0.rep (qv<|yq n0 t0 i) (vn s' (yq n0 t0 i) [])<|yL<|vs o) (f:=qs<|yL<|vs o) (z':=0) (up:=fun r=>(z',r)) 0 rfl hm vj.hole hr) w h2).mono ?_;rintro u w' ⟨_,rfl,_,hs⟩;obtain⟨S1,_,hx⟩:=hs.ex;have hu:=ll hx.1;have hy:=QK hc;have hA:u=(yL<|vs o).headD undef:=by
   rw[hy]at hu;simpa using hu.symm
  have h3:=(hs.weak (Δ:=GS P vs env fr cx σ) fun S w h=>h.2).toP 0 rfl;rw[<-hb]at h3;refine jH (vs:=vs) (mk:=.ow) (u:=u) hB hd (fun e he=> ?_) (fun _=>rfl) (fun S w=>jZ S w) ?_
  ·obtain⟨e',g1,g2⟩:=kH ha e he;rw[<-g2];exact hB.o1 e' g1
  ·rw[kz,hA];have h4:St fr.we fr.Se (mO s'.rep E1' ((yL<|vs o).headD undef) xs'::(uk vs (o,.vh t0 E' s' E1' n0 i z')::OS vs fr cx (zD σ.ob o))) (GS P vs env fr cx σ) w':=by
    have h5:St fr.we fr.Se (mP (uJ t0.rep (qv<|yq n0 t0 i) (vn s' (yq n0 t0 i) [])<|yL<|vs o) E' (zN<|vs o) (z',0)::mO s'.rep E1' ((yL<|vs o).headD undef) xs'::OS vs fr cx (zD σ.ob o)) (GS P vs env fr cx σ) w':=h3;have h6:=St.pr (p:=(yL<|vs o).length=1/\mx s' (yq n0 t0 i)) ⟨hc,hw⟩ h5;have h7:St fr.we fr.Se ([nb<|(yL<|vs o).length=1/\mx s' (yq n0 t0 i),mP (uJ t0.rep (qv<|yq n0 t0 i) (vn s' (yq n0 t0 i) [])<|yL<|vs o) E' (zN<|vs o) (z',0)]++mO s'.rep E1' ((yL<|vs o).headD undef) xs'::OS vs fr cx (zD σ.ob o)) (GS P vs env fr cx σ) w':=h6;exact(St.grp.2 h7).perm<|Sc ..
   have hp:=xo (vs:=vs) (fr:=fr) (cx:=cx) (jr (Y:=.vh t0 E' s' E1' n0 i z') ha).1;rw[(jr (Y:=.vh t0 E' s' E1' n0 i z') ha).2]at hp;exact h4.perm<|hp.symm.cons _
 ·cases h
structure pF(a b:Value):Prop where
 out:zN b=zN a
 hv:∀(r:Nat) (v:Value),(yL a)[r]? =some v->(yL b)[r]? =some v
theorem nh{o n:Nat}(hr:pF (vs o) (vs n)){dv:Dv}{v:Value}{S:Nat->Prop}(h:(yW P vs dv v).p S w):(yW P vs (CF o n dv) v).p S w:=by
 cases dv with
 |mw p=>
  show(yW P vs (bif OW p o then .mw n else .mw p) v).p S w;cases hb:OW p o
  ·exact h
  ·obtain rfl:=zr hb;exact(show v=zN (vs p)from h).trans hr.out.symm
 |mv p l m=>
  show(yW P vs (bif OW p o then .mv n l m else .mv p l m) v).p S w;cases hb:OW p o
  ·exact h
  ·obtain rfl:=zr hb;simp only[yW,cond_true]at h⊢;rw[hr.out];exact h
 |hp p j=>
  show(yW P vs (bif OW p o then .hp n j else .hp p j) v).p S w;cases hb:OW p o
  ·exact h
  ·obtain rfl:=zr hb;simp only[yW,cond_true]at h⊢;rw[hr.out];exact h
 |rw p r=>
  show(yW P vs (bif OW p o then .rw n r else .rw p r) v).p S w;cases hb:OW p o
  ·exact h
  ·obtain rfl:=zr hb;exact hr.hv _ _ h
 |rp p t r j f=>
  show(yW P vs (bif OW p o then .rp n t r j f else .rp p t r j f) v).p S w;cases hb:OW p o
  ·exact h
  ·obtain rfl:=zr hb;obtain⟨h1,b,m,cap,h2,h3,h4⟩:=h;exact⟨h1,b,m,cap,hr.hv _ _ h2,h3,h4⟩
 |_=>exact h
theorem py{o n p:Nat}{v:Dv}(h:xz (CF o n v)=some p):xz v=some p\/p=n:=by
 cases v with
 |mw q=>
  have h:xz (bif OW q o then Dv.mw n else .mw q)=some p:=h;cases hb:OW q o<;>rw[hb]at h
  ·grind
  ·cases h;exact .inr rfl
 |mv q l m=>
  have h:xz (bif OW q o then Dv.mv n l m else .mv q l m)=some p:=h;cases hb:OW q o<;>rw[hb]at h
  ·grind
  ·cases h;exact .inr rfl
 |hp q j=>
  have h:xz (bif OW q o then Dv.hp n j else .hp q j)=some p:=h;cases hb:OW q o<;>rw[hb]at h
  ·grind
  ·cases h;exact .inr rfl
 |rw q r=>
  have h:xz (bif OW q o then Dv.rw n r else .rw q r)=some p:=h;cases hb:OW q o<;>rw[hb]at h
  ·grind
  ·cases h;exact .inr rfl
 |rp q t r j f=>
  have h:xz (bif OW q o then Dv.rp n t r j f else .rp q t r j f)=some p:=h;cases hb:OW q o<;>rw[hb]at h
  ·exact .inl h
  ·cases h;exact .inr rfl
 |_=>exact .inl h
theorem ct{o n:Nat}:∀{rg:List (Nat×Nat×Dv)},∀e∈Cb o n rg,∃e'∈rg,e=(e'.1,e'.2.1,CF o n e'.2.2)
 |[],e,he=>absurd he UV
 |(t,i,v)::rg,e,he=>by
  rcases OY.1 he with rfl|he
  ·simp_all
  ·obtain⟨e',h1,h2⟩:=ct e he;grind
theorem cG{o n:Nat}:∀{rg:List (Nat×Nat×Dv)},∀e∈Qw o n rg,e∈rg\/∃e'∈rg,∃p,e'.2.2=.mw p/\e=(e'.1,e'.2.1,bif OW p o then .mw n else .mw p)
 |[],e,he=>absurd he UV
 |(t,i,v)::rg,e,he=>by
  have ih:∀e∈Qw o n rg,e∈(t,i,v)::rg\/∃e'∈(t,i,v)::rg,∃p,e'.2.2=.mw p/\e=(e'.1,e'.2.1,bif OW p o then .mw n else .mw p):=fun e he=>by
   rcases cG e he with h|⟨e',h1,p,h2,h3⟩
   ·simp_all
   ·grind
  cases v with
  |mw p=>
   rcases OY.1 (show e∈(t,i,bif OW p o then Dv.mw n else .mw p)::Qw o n rg from he)with rfl|he
   ·simp_all
   ·grind
  |_=>
   rcases OY.1 he with rfl|he
   ·exact .inl<|Nm
   ·exact ih e he
theorem YT{u v:Value}{o:Nat}{X:Od}{ob:List (Nat×Od)}{rg:List (Nat×Nat×Dv)}(hB:Bd cx σ)(hd:yJ cx d=true)(hc:∀e∈ob,e.1<σ.nx)
 (hb:∀e∈rg,∃e'∈xK σ.rg d [],e.1=e'.1/\e.2.1=e'.2.1/\(∀p,xz e.2.2=some p->xz e'.2.2=some p\/p=σ.nx)/\∀v S w,(yW P (ja vs σ.nx u) e'.2.2 v).p S w->(yW P (ja vs σ.nx u) e.2.2 v).p S w)
 (hg:St fr.we fr.Se (uk (ja vs σ.nx u) (σ.nx,X)::OS vs fr cx ob) (GS P vs env fr cx σ) w):Xt P fr cx σ.nx vs ⟨σ.nx+1,rg,(σ.nx,X)::ob⟩ (put env d v) w:=by
 obtain⟨ha,hi⟩:ZR P fr cx ⟨σ.nx+1,xK σ.rg d [],(σ.nx,X)::ob⟩ (ja vs σ.nx u) (put env d v) w:=by
  refine Uf (σ':=⟨σ.nx+1,xK σ.rg d [],(σ.nx,X)::ob⟩) (l:=[]) (vs:=vs) (vs':=ja vs σ.nx u) (Γl:=[]) hB hd rfl (PJ _) (fun o ho=>wz ho) (fun _ he=>absurd he UV) ?_ (fun S w _ e he=>absurd he UV) ?_
  ·grind
  ·show St _ _ (uk (ja vs σ.nx u) (σ.nx,X)::OS (ja vs σ.nx u) fr cx ob) _ _;rw[K8 hB hc];exact hg
 refine⟨ja vs σ.nx u,fun o ho=>wz ho,⟨ha.o1,ha.o2,fun e he p hp=> ?_,ha.r2⟩,hi.weak fun S w h=>ze.append (wg.2 fun f hf=> ?_)<|ze.right h⟩
 ·obtain⟨e',h1,_,_,h2,_⟩:=hb e he;rcases h2 p hp with h|rfl
  ·exact ha.r1 e' h1 p h
  ·simp_all
 ·obtain⟨e,he,rfl⟩:=O8.1 hf;obtain⟨e',h1,h2,h3,_,h4⟩:=hb e he;have h5:=kD (ze.left h) (t:=e'.1) (i:=e'.2.1) (d:=e'.2.2) h1;rw[h2,h3];exact ku h5 fun u hu=>h4 u S w hu
theorem AR{u:Value}{o:Nat}(hr:pF (ja vs σ.nx u o) (ja vs σ.nx u σ.nx)):∀e∈Cb o σ.nx σ.rg,∃e'∈xK σ.rg none [],e.1=e'.1/\e.2.1=e'.2.1/\(∀p,xz e.2.2=some p->xz e'.2.2=some p\/p=σ.nx)/\∀v S w,(yW P (ja vs σ.nx u) e'.2.2 v).p S w->(yW P (ja vs σ.nx u) e.2.2 v).p S w:=by
 intro e he;obtain⟨e',h1,rfl⟩:=ct e he;exact⟨e',h1,rfl,rfl,fun p hp=>py hp,fun v S w h=>nh hr h⟩
theorem Yx{u:Value}{o:Nat}{rg:List (Nat×Nat×Dv)}(hr:zN (ja vs σ.nx u σ.nx)=zN (ja vs σ.nx u o)):∀e∈Qw o σ.nx rg,∃e'∈rg,e.1=e'.1/\e.2.1=e'.2.1/\(∀p,xz e.2.2=some p->xz e'.2.2=some p\/p=σ.nx)/\∀v S w,(yW P (ja vs σ.nx u) e'.2.2 v).p S w->(yW P (ja vs σ.nx u) e.2.2 v).p S w:=by
 intro e he;rcases cG e he with h|⟨e',h1,p,h2,rfl⟩
 ·exact⟨e,h,rfl,rfl,fun p hp=> .inl hp,fun v S w h=>h⟩
 ·refine⟨e',h1,rfl,rfl,fun q hq=> ?_,fun v S w h=> ?_⟩
  ·skip;cases hb:OW p o
   ·simp_all
   ·simp only[hb]at hq;cases hq;exact .inr rfl
  ·rw[h2]at h;cases hb:OW p o
   ·exact h
   ·have hp:=zr hb;subst hp;exact h.trans hr.symm
end
end
section
section
variable{P:Program}{cf:Cf}{fr:Fr}{cx σ:Sg}{vs vs':Nat->Value}{env:yb}{w:World}{R:Type}{r:R}
 {d:Option Tmp}{ty t yt:TypeId}{pos:String}{aft:Array Edge}{g:Option (Nat×Bool)}{x y:Operand}
theorem en{α:Type}{xss:List (List α)}{r:Nat}(h:r<xss.length):xss[r]? =some (vz xss r):=by simp_all [vz]
theorem Yn{o:Nat}{s:Ty}{E E1:TypeId}{xss:List (List s.D)}{ix:List Nat}{ms:List MF}{Γ:List FF}(h:St fr.we fr.Se (uk vs (o,.mat s E E1 xss ix)::ms) Γ w):
 (yL<|vs o).length=xss.length/\St fr.we fr.Se ((mO (qs<|yL<|vs o) E (zN<|vs o) ix::xB s.rep E1 (yL<|vs o) xss)++ms) Γ w:=St.unpr<|St.grp.1 h
theorem bR{u:Value}{s:Ty}{E E1:TypeId}{xss:List (List s.D)}{ix:List Nat}{ms:List MF}{Γ:List FF}(hl:(yL u).length=xss.length)(h:St fr.we fr.Se ((mO (qs<|yL u) E (zN u) ix::xB s.rep E1 (yL u) xss)++ms) Γ w):
 St fr.we fr.Se (Js s.rep E E1 u xss ix::ms) Γ w:=St.grp.2<|St.pr hl h
theorem Lx{k:Sg->Option R}{ti:TI}(hT:ya P cf.tt)(hr:vV cf t=some ti){o p j:Nat}{e:Ty}{f:Fl e.D}(hx:yx cx σ x=some (.rp o e p j f))(h:wV σ ti.ty (yx cx σ x) (yx cx σ y) k=some r):
 Yj P cx ⟨none,.store t x y,ty,pos,aft,g⟩ σ k r:=by
 obtain⟨zero,hd,_⟩:=qn hT hr;rw[hx]at h;simp only[wV]at h;split at h
 ·next s' E E1 xss ix hb ho _=>
  obtain⟨ht,h1⟩:=zx h;cases ht;obtain⟨q,h2,hq⟩:=jw h1;obtain⟨zss,hz,h⟩:=yI h2;obtain⟨hb⟩:=hb;refine⟨_,h,O3 _,fun fr vs env w hR=> ?_⟩;obtain⟨hB,he⟩:=hR;obtain⟨S0,_,hΓ⟩:=he.ex;obtain⟨hu,b,m,cap,hv,hj,hw⟩:=za hx<|zj hΓ x;have hf:=wY ho he;obtain⟨hn,hp⟩:m=(vz (α:=e.D) xss p).length/\p<xss.length:=xy hf (i:=0) rfl fun S hp=>⟨WB (W8 (show(Js e.rep E E1 (vs o) xss ix).p S w from hp) hv).1 rfl,(W8 (show(Js e.rep E E1 (vs o) xss ix).p S w from hp) hv).2⟩;obtain⟨hl,hg⟩:=Yn hf;have hi:=CN (e:=e.rep) (E:=E) (E1:=E1) (v:=zN<|vs o) (ix:=ix) hv (en (α:=e.D) hp)<|OS vs fr cx<|zD σ.ob o;obtain⟨b',cap',hy,hA,hC,hs⟩:=hg.openO (p+1) hi (by lia);cases hy;rw[<-hb]at hd;have hk:=(vj.rowT0 e.rep cap (vz (α:=e.D) xss p) j ((vz (α:=e.D) xss p).getD j e.z)<|getD_some e.z<|by lia).comp<|hu<|(vz (α:=e.D) xss p).getD j e.z;refine(vu (f:=f.f.rep) (y':=q) (p+1) (xA hi) hw rfl hk hd (fun S w ha=>hq P vs env S w<|zj ha y) w hs).mono ?_;rintro v w' ⟨_,rfl,_,hD⟩;refine YS (vs:=vs) hB ho<|VF ho ?_;have hc:(xad (vz (α:=e.D) xss p) j<|f.set q<|(vz (α:=e.D) xss p).getD j e.z).length=(vz (α:=e.D) xss p).length:=Ri ..;have hm:=hD.closeF (p+1) (xA<|xA hi) (by rw[hc];exact hA) hC;rw[set_set,set_set,hc,aB hv hp hl]at hm;rw[hz];exact bR (by rw[show(Iv (α:=e.D) xss p _).length=xss.length from Ri ..];exact hl) hm
 ·cases h
theorem LS{k:Sg->Option R}{ti:TI}(hT:ya P cf.tt)(hq:vV cf t=some ti){o j o' p:Nat}(hx:yx cx σ x=some (.hp o j))(hy:yx cx σ y=some (.rw o' p))(h:wV σ ti.ty (yx cx σ x) (yx cx σ y) k=some r):
 Yj P cx ⟨none,.store t x y,ty,pos,aft,g⟩ σ k r:=by
 obtain⟨zero,hc,_⟩:=qn hT hq;rw[hx,hy]at h;simp only[wV]at h;obtain⟨hr,h⟩:=zw h;obtain rfl:=zr hr;split at h
 ·next s' E E1 xss ix q ho ht=>
  obtain⟨iz,hz,h⟩:=yI h;refine⟨_,h,O3 _,fun fr vs env w hR=> ?_⟩;obtain⟨hB,hd⟩:=hR;obtain⟨S0,_,hΓ⟩:=hd.ex;obtain⟨b,m,cap,hv,hj,hu⟩:=za hx<|zj hΓ x;have hw:(yL<|vs o')[p]? =some (ev env y):=za hy<|zj hΓ y;have he:=wY ho hd;obtain⟨hn,hf⟩:m=ix.length/\(ev env y).oneCell'=true:=xy he (i:=0) rfl fun S hp=>⟨WB (cP (show(Js s'.rep E E1 (vs o') xss ix).p S w from hp)).2.1 hv,(Ql (W8 (show(Js s'.rep E E1 (vs o') xss ix).p S w from hp) hw).1).1⟩;obtain⟨hl,hg⟩:=Yn he;obtain⟨b',cap',hi,hA,hC,hs⟩:=hg.openO 0 rfl (by lia);rw[hv]at hi;cases hi;have hk:=vj.rowT0 (qs<|yL<|vs o') cap ix j (ix.getD j 0) (getD_some 0<|by lia);rw[ht]at hc;refine(vu (f:=qs<|yL<|vs o') (y':=p) 0 rfl hu rfl hk hc (fun S w ha=> ?_) w hs).mono ?_
  ·exact gp (za hy<|zj ha y) hf
  rintro v w' ⟨_,rfl,_,hD⟩;refine YS (vs:=vs) hB ho<|VF ho ?_;have hb:(ix.set j p).length=ix.length:=Ri ..;have hm:=hD.closeF 0 rfl (by rw[hb];exact hA) hC;rw[hb,<-hv]at hm;rw[hz];exact bR hl hm
 ·cases h
theorem BT{u:Value}{o:Nat}{hv:List Value}(hu:yL u=yL (vs o)++hv)(ho:zN u=zN (vs o))(ha:o<σ.nx):pF (ja vs σ.nx u o) (ja vs σ.nx u σ.nx):=by
 rw[wz ha,yK];refine⟨ho,fun r v h=> ?_⟩;grind
theorem Xr{o:Nat}{X:Od}(hB:Bd cx σ)(h:yE σ.ob o=some X):o<σ.nx:=by
 obtain⟨i,h1,_⟩:=xm h;exact hB.o1 _<|Pq h1
theorem XO(hB:Bd cx σ){o p:Nat}:∀e∈zD (zD σ.ob o) p,e.1<σ.nx:=fun e he=>hB.o1 e<|xv e<|xv e he
theorem IE{k:Sg->Option R}{ti:TI}(hT:ya P cf.tt)(ht:vV cf t=some ti){o j o2:Nat}(hx:yx cx σ x=some (.hp o j))(hy:yx cx σ y=some (.ow o2))(h:wV σ ti.ty (yx cx σ x) (yx cx σ y) k=some r):
 Yj P cx ⟨none,.store t x y,ty,pos,aft,g⟩ σ k r:=by
 obtain⟨zero,hd,_⟩:=qn hT ht;rw[hx,hy]at h;simp only[wV]at h;obtain⟨he,h⟩:=zw h;rw[Rj]at he;split at h
 ·next s' E E1 xss ix s2 E2 ys q ho hu hw=>
  obtain⟨hE,h0⟩:=zw h;obtain rfl:=zr hE;obtain⟨hA,h1⟩:=zx h0;cases hA;obtain⟨zss,hz,h2⟩:=yI h1;obtain⟨iz,hi,h3⟩:=yI h2;refine⟨_,h3,PJ _,fun fr vs env w hR=> ?_⟩;obtain⟨hB,hf⟩:=hR;obtain⟨S0,_,hΓ⟩:=hf.ex;obtain⟨b,m,cap,hv,hj,hC⟩:=za hx<|zj hΓ x;have hD:ev env y=vs o2:=za hy<|zj hΓ y;have hb:=Wo he ho hu hf;have hn:m=ix.length:=xy hb (i:=0) rfl fun S hp=>WB (cP (show(Js s'.rep E E1 (vs o) xss ix).p S w from hp)).2.1 hv;obtain⟨hk,_⟩:(vs o2).oneCell'=true/\_:=xy hb (i:=1) (m:=mO s'.rep E1 (vs o2) ys) rfl fun S hp=>Ql hp;have hl:=(Yn hb).1
  have hg:St fr.we fr.Se ((mO (qs<|yL (vs o)++[vs o2]) E (zN<|vs o) ix::xB s'.rep E1 (yL (vs o)++[vs o2]) (xss++[ys]))++OS vs fr cx (zD (zD σ.ob o) o2)) (GS P vs env fr cx σ) w:=
   St.grp.1 (St.adopt hl<|St.grp.2 (Yn hb).2)
  obtain⟨b',cap',hm,hF,hG,hs⟩:=hg.openO 0 rfl (by lia);rw[hv]at hm;cases hm;have hq:=vj.rowT0 (qs<|yL (vs o)++[vs o2]) cap ix j (ix.getD j 0) (getD_some 0<|by lia);rw[hw]at hd;refine(vu (f:=qs<|yL (vs o)++[vs o2]) (y':=xss.length) 0 rfl hC hD hq hd (fun S w ha=>gp (by rw[<-hl];simp) hk) w hs).mono ?_;rintro v w' ⟨_,rfl,_,hH⟩;have hc:(ix.set j xss.length).length=ix.length:=Ri ..;have hr:=hH.closeF 0 rfl (by rw[hc];exact hF) hG;rw[hc,<-hv]at hr;refine YT (o:=o) (u:=Zr (zN<|vs o)<|yL (vs o)++[vs o2]) hB rfl (XO hB) (AR<|BT rfl rfl<|Xr hB ho) ?_;rw[gL,hi,hz];refine bR (u:=Zr (zN<|vs o)<|yL (vs o)++[vs o2]) (by show(yL (vs o)++[vs o2]).length=(xss++[ys]).length;simp[hl]) hr
 ·cases h
theorem Ij{k:Sg->Option R}{ti:TI}(hT:ya P cf.tt)(hj:vV cf t=some ti){o o2:Nat}(hx:yx cx σ x=some (.mw o))(hy:yx cx σ y=some (.ow o2))(h:wV σ ti.ty (yx cx σ x) (yx cx σ y) k=some r):
 Yj P cx ⟨none,.store t x y,ty,pos,aft,g⟩ σ k r:=by
 obtain⟨zero,hc,_⟩:=qn hT hj;rw[hx,hy]at h;simp only[wV]at h;obtain⟨hd,h⟩:=zw h;rw[Rj]at hd;split at h
 ·next E0 s2 E2 ys q ho hk hm=>
  refine⟨_,h,PJ _,fun fr vs env w hR=> ?_⟩;obtain⟨hB,he⟩:=hR;obtain⟨S0,_,hΓ⟩:=he.ex;have hn:ev env x=zN (vs o):=za hx<|zj hΓ x;have hq:ev env y=vs o2:=za hy<|zj hΓ y;have hf:=Wo hd ho hk he;obtain⟨hg,_⟩:(vs o2).oneCell'=true/\_:=xy hf (i:=1) (m:=mO s2.rep E2 (vs o2) ys) rfl fun S hp=>Ql hp;obtain⟨hl,h1⟩:=St.unpr<|St.grp.1 hf;have h1:St fr.we fr.Se (mP (qs<|yL<|vs o).c E0 (zN<|vs o) 0::mO s2.rep E2 (vs o2) ys::OS vs fr cx (zD (zD σ.ob o) o2)) (GS P vs env fr cx σ) w:=h1;obtain⟨b,hb,h2⟩:=h1.openP 0 rfl;have hi:=QK hl;have h3:=h2.conv (i:=0) (m:=mB (qs<|yL<|vs o).c E0 b 0) (m':=mB (qs<|yL (vs o)++[vs o2]).c E0 b 0) rfl rfl fun S hp=>by
   obtain⟨cs,g1,u,g2,g3,g4⟩:=hp;exact⟨cs,g1,u,by rw[Py (O4.1 g2).1];exact g2,g3,g4⟩
  rw[hm]at hc;refine(vu (e:=(qs<|yL (vs o)++[vs o2]).c) (f:=qs<|yL (vs o)++[vs o2]) (z':=0) (y':=1) (up:=id) 0 rfl (hn.trans hb) hq (vj.self (qs<|yL (vs o)++[vs o2]) 0) hc (fun S w ha=>gp (by rw[hi];rfl) hg) w h3).mono ?_;rintro v w' ⟨_,rfl,_,hr⟩;have h4:St fr.we fr.Se (mB (qs<|yL (vs o)++[vs o2]).c E0 b 1::mO s2.rep E2 (vs o2) ys::OS vs fr cx (zD (zD σ.ob o) o2)) (GS P vs env fr cx σ) w':=hr;have h5:=h4.conv (i:=0) (m:=mB (qs<|yL (vs o)++[vs o2]).c E0 b 1) (m':=mB (qs [vs o2]).c E0 b 0) rfl rfl fun S hp=>by
   obtain⟨cs,g1,u,g2,g3,g4⟩:=hp;refine⟨cs,g1,u,?_,g3,g4⟩;rw[hi]at g2;exact g2
  have h6:=h5.toP 0 rfl;rw[<-hb]at h6;have h7:St fr.we fr.Se (mP (qs [vs o2]).c E0 (zN<|vs o) 0::mO s2.rep E2 (vs o2) ys::OS vs fr cx (zD (zD σ.ob o) o2)) (GS P vs env fr cx σ) w':=h6;refine YT (o:=o) (u:=Zr (zN<|vs o) [vs o2]) hB rfl (XO hB) (Yx<|by rw[yK,wz<|Xr hB ho];rfl) ?_
  ·rw[gL];exact St.grp.2<|St.pr (p:=([vs o2]:List Value).length=1) rfl h7
 ·cases h
theorem HP{k:Sg->Option R}{ti:TI}(hT:ya P cf.tt)(hr:vV cf t=some ti){o o2 s0 n0 i}(hx:yx cx σ x=some (.vf o s0 n0 i))(hy:yx cx σ y=some (.ow o2))(h:wV σ ti.ty (yx cx σ x) (yx cx σ y) k=some r):
 Yj P cx ⟨none,.store t x y,ty,pos,aft,g⟩ σ k r:=by
 obtain⟨zero,hc,_⟩:=qn hT hr;rw[hx,hy]at h;simp only[wV]at h;obtain⟨hd,h⟩:=zw h;rw[Rj]at hd;split at h
 ·next s1 E s2 E1 n j z s3 E3 ys ho hs=>
  obtain⟨hg,h0⟩:=zw h;rw[IR,IR,IR,IR]at hg;obtain⟨⟨⟨g1,g2⟩,g3⟩,g4,g5⟩:=hg;obtain rfl:=zr g1;obtain rfl:=zr g2;obtain rfl:=zr g4;obtain rfl:=jQ g5;have ht:=jQ g3;obtain⟨hu,hv⟩:=zx h0;cases hu;refine⟨_,hv,PJ _,fun fr vs env w hR=> ?_⟩;obtain⟨hB,he⟩:=hR;obtain⟨S0,_,hΓ⟩:=he.ex;obtain⟨b',f,hi,hf,hw⟩:=za hx<|zj hΓ x;have hz:ev env y=vs o2:=za hy<|zj hΓ y;have hj:=Wo hd ho hs he;obtain⟨hk,_⟩:(vs o2).oneCell'=true/\_:=xy hj (i:=1) (m:=mO s2.rep E1 (vs o2) ys) rfl fun S hp=>Ql hp;obtain⟨⟨hl,hA⟩,h1⟩:=St.unpr<|St.grp.1 hj;have h1:St fr.we fr.Se (mP (uJ s0.rep (qv<|yq n0 s0 i) (vn s2 (yq n0 s0 i) [])<|yL<|vs o) E (zN<|vs o) (z,0)::mO s2.rep E1 (vs o2) ys::OS vs fr cx (zD (zD σ.ob o) o2)) (GS P vs env fr cx σ) w:=h1;obtain⟨b,hb,h2⟩:=h1.openP 0 rfl;have hm:=QK hl;obtain rfl:b'=b:=by rw[hb]at hi;cases hi;rfl
  have hn:qv (yq n0 s0 i)=f.off:=by rw[hf];rfl
  have hq:ev env x=.pointer (some ⟨b',qv<|yq n0 s0 i,none⟩):=by rw[hn];exact hw.trans<|by rw[Pk]
  have h3:=h2.conv (i:=0) (m:=mB (uJ s0.rep (qv<|yq n0 s0 i) (vn s2 (yq n0 s0 i) [])<|yL<|vs o) E b' (z,0)) (m':=mB (uJ s0.rep (qv<|yq n0 s0 i) (vn s2 (yq n0 s0 i) [])<|yL (vs o)++[vs o2]) E b' (z,0)) rfl rfl fun S hp=>by
   obtain⟨cs,g1,g2⟩:=hp;exact⟨cs,g1,Aw g2⟩
  rw[ht]at hc;refine(vu (e:=uJ s0.rep (qv<|yq n0 s0 i) (vn s2 (yq n0 s0 i) [])<|yL (vs o)++[vs o2]) (f:=qs<|yL (vs o)++[vs o2]) (z':=0) (y':=1) (up:=fun r=>(z,r)) 0 rfl hq hz vj.hole hc (fun S w ha=>gp (by rw[hm];rfl) hk) w h3).mono ?_;rintro v w' ⟨_,rfl,_,hC⟩;have h4:St fr.we fr.Se (mB (uJ s0.rep (qv<|yq n0 s0 i) (vn s2 (yq n0 s0 i) [])<|yL (vs o)++[vs o2]) E b' (z,1)::mO s2.rep E1 (vs o2) ys::OS vs fr cx (zD (zD σ.ob o) o2)) (GS P vs env fr cx σ) w':=hC;have h5:=h4.conv (i:=0) (m:=mB (uJ s0.rep (qv<|yq n0 s0 i) (vn s2 (yq n0 s0 i) [])<|yL (vs o)++[vs o2]) E b' (z,1)) (m':=mB (uJ s0.rep (qv<|yq n0 s0 i) (vn s2 (yq n0 s0 i) []) [vs o2]) E b' (z,0)) rfl rfl fun S hp=>by
   obtain⟨cs,g1,g2⟩:=hp;exact⟨cs,g1,HQ (by rw[hm];rfl) g2⟩
  have h6:=h5.toP 0 rfl;rw[<-hb]at h6;have h7:St fr.we fr.Se (mP (uJ s0.rep (qv<|yq n0 s0 i) (vn s2 (yq n0 s0 i) []) [vs o2]) E (zN<|vs o) (z,0)::mO s2.rep E1 (vs o2) ys::OS vs fr cx (zD (zD σ.ob o) o2)) (GS P vs env fr cx σ) w':=h6;refine YT (o:=o) (u:=Zr (zN<|vs o) [vs o2]) hB rfl (XO hB) (Yx<|by rw[yK,wz<|Xr hB ho];rfl) ?_
  ·rw[gL];exact St.grp.2<|St.pr (p:=([vs o2]:List Value).length=1/\mx s2 (yq n0 s0 i)) ⟨rfl,hA⟩ h7
 ·cases h
theorem pz{k:Sg->Option R}{ti:TI}(hT:ya P cf.tt)(hm:vV cf t=some ti){o n i j E:Nat}{s s1:Ty}{z:s.D}{f:Fl s.D}{X:s.D->Od}{rest:Value->List MF}
 (hX:∀vs z,uk vs (o,X z)=Qu (nb ((yL<|vs o).length=1/\mx s1 (yq n s j))::mP (uJ s.rep (qv<|yq n s j) (vn s1 (yq n s j) [])<|yL<|vs o) E (zN<|vs o) (z,0)::rest (vs o)))
 (hx:yx cx σ x=some (.vf o s n i)) (ho:yE σ.ob o=some (X z)) (hn:i≠j) (hf:yq n s i=some f) (h:xV (Ty.same f.f ti.ty).isSome (Vz (yx cx σ y) f.f fun y=>nm (f.set y z) fun z=>k ⟨σ.nx,σ.rg,ve σ.ob o<|X z⟩)=some r):
 Yj P cx ⟨none,.store t x y,ty,pos,aft,g⟩ σ k r:=by
 obtain⟨zero,hc,_⟩:=qn hT hm;obtain⟨hg,h⟩:=zw h;have hp:=jQ hg;obtain⟨q,h2,hq⟩:=jw h;obtain⟨z2,hr,h⟩:=yI h2;refine⟨_,h,O3 _,fun fr vs env w hR=> ?_⟩;obtain⟨hB,hd⟩:=hR;obtain⟨S0,_,hΓ⟩:=hd.ex;have h0:=wY ho hd;rw[hX]at h0;obtain⟨⟨hl,he⟩,h1⟩:=St.unpr<|St.grp.1 h0;obtain⟨b,hb,h2⟩:=h1.openP 0 rfl;obtain⟨b',f',hi,hj,hs⟩:=za hx<|zj hΓ x;obtain rfl:b'=b:=by rw[hb]at hi;cases hi;rfl
 rw[hf]at hj;cases hj;rw[<-hp]at hc;refine(vu (e:=uJ s.rep (qv<|yq n s j) (vn s1 (yq n s j) [])<|yL<|vs o) (f:=f.f.rep) (z':=f.get z) (y':=q) (up:=fun y=>(f.set y z,0)) 0 rfl (hs.trans<|by rw[Pk]) rfl (gZ he hf hn) hc (fun S w ha=>hq P vs env S w<|zj ha y) w h2).mono ?_;rintro v w' ⟨_,rfl,_,ht⟩;refine YS (vs:=vs) hB ho<|VF ho ?_;have hk:=ht.toP 0 rfl;rw[<-hb]at hk;rw[hX,hr];exact St.grp.2<|St.pr (p:=(yL<|vs o).length=1/\mx s1 (yq n s j)) ⟨hl,he⟩ hk
theorem LR{k:Sg->Option R}{ti:TI}(hT:ya P cf.tt)(hm:vV cf t=some ti){o n2 i2:Nat}{t2:Ty}{y2:t2.D}(hx:yx cx σ x=some (.mw o))(hy:yx cx σ y=some (.dz t2 y2 n2 i2))(h:wV σ ti.ty (yx cx σ x) (yx cx σ y) k=some r):
 Yj P cx ⟨none,.store t x y,ty,pos,aft,g⟩ σ k r:=by
 obtain⟨zero,hd,_⟩:=qn hT hm;rw[hx,hy]at h;simp only[wV]at h;split at h
 ·next s1 E s2 E1 n j z xs ho=>
  obtain⟨hg,h0⟩:=zw h;rw[IR,IR]at hg;obtain rfl:=zr hg.1;obtain rfl:=zr hg.2.1;have hn:=jQ hg.2.2;obtain⟨hq,hr⟩:=zx h0;subst hq;refine⟨_,hr,PJ _,fun fr vs env w hR=> ?_⟩;obtain⟨hB,hi⟩:=hR;obtain⟨S0,_,hΓ⟩:=hi.ex;have hs:ev env x=zN (vs o):=za hx<|zj hΓ x;obtain⟨_,f,hf,hj⟩:=za hy<|zj hΓ y;obtain⟨⟨hl,ht⟩,h1⟩:=St.unpr<|St.grp.1<|wY ho hi;have h1:St fr.we fr.Se (mP (uJ t2.rep (qv<|yq n2 t2 i2) (vn s2 (yq n2 t2 i2) [])<|yL<|vs o) E (zN<|vs o) (z,0)::mO s2.rep E1 ((yL<|vs o).headD undef) xs::OS vs fr cx (zD σ.ob o)) (GS P vs env fr cx σ) w:=h1;have h1:St fr.we fr.Se (mP (uJ t2.rep (qv<|yq n2 t2 i2) (vn s2 (yq n2 t2 i2) [])<|yL<|vs o) E (zN<|vs o) (z,0)::OS vs fr cx (zD σ.ob o)) (GS P vs env fr cx σ) w:=St.drop (i:=1) h1;obtain⟨b,hb,h2⟩:=h1.openP 0 rfl;have h3:=h2.conv (i:=0) (m:=mB (uJ t2.rep (qv<|yq n2 t2 i2) (vn s2 (yq n2 t2 i2) [])<|yL<|vs o) E b (z,0)) (m':=mB (GH t2.rep.n t2.rep.agg t2.rep.n1).c E b none) rfl rfl fun S hp=>by
   obtain⟨cs,g1,g2⟩:=hp;exact⟨cs,g1,Fu g2⟩
  rw[hn]at hd;refine(vu (e:=(GH t2.rep.n t2.rep.agg t2.rep.n1).c) (f:=GH t2.rep.n t2.rep.agg t2.rep.n1) (z':=none) (y':=some (ev env y).cells.toList) (up:=id) 0 rfl (hs.trans hb) rfl (vj.self _ _) hd (fun S w ha=>E8 (za hy<|zj ha y).1) w h3).mono ?_;rintro v w' ⟨_,rfl,_,hu⟩;have h4:St fr.we fr.Se (mB (GH t2.rep.n t2.rep.agg t2.rep.n1).c E b (some (ev env y).cells.toList)::OS vs fr cx (zD σ.ob o)) (GS P vs env fr cx σ) w':=hu;obtain⟨off,gt,st,hc⟩:=ht;rw[hc]at hf;cases hf;have h5:=h4.grow (i:=0) (m:=mB (GH t2.rep.n t2.rep.agg t2.rep.n1).c E b<|some (ev env y).cells.toList) (m':=mB (uJ t2.rep off (st ([]:List s2.D)) [.slice none 0 0]) E b (y2,0)) rfl (zH.refl _ _) (fun k hk=> .inl hk) fun S _ hp ha=>by
   obtain⟨cs,g1,_,_,g2⟩:=hp;refine⟨cs,g1,?_⟩;rw[g2 _ rfl];exact nF hc (vU (za hy<|zj ha y).1) hj rfl
  have h6:=h5.toP 0 rfl;rw[<-hb]at h6;have h7:St fr.we fr.Se (mP (uJ t2.rep off (st ([]:List s2.D)) [.slice none 0 0]) E (zN<|vs o) (y2,0)::mO s2.rep E1 (.slice none 0 0) []::OS vs fr cx (zD σ.ob o)) (GS P vs env fr cx σ) w':=(St.nilO (e:=s2.rep) (E:=E1) h6).perm<|Sc ..;refine YT (o:=o) (u:=Zr (zN<|vs o) [.slice none 0 0]) hB rfl (fun e he=>hB.o1 e<|xv e he) (Yx<|by rw[yK,wz<|Xr hB ho];rfl) ?_
  ·rw[gL];refine St.grp.2<|St.pr (p:=([.slice none 0 0]:List Value).length=1/\mx s2 (yq n2 t2 i2)) ⟨rfl,_,_,_,hc⟩ ?_;show St _ _ (mP (uJ t2.rep (qv<|yq n2 t2 i2) (vn s2 (yq n2 t2 i2) []) [.slice none 0 0]) E (zN<|vs o) (y2,0)::mO s2.rep E1 (.slice none 0 0) []::_) _ _;rw[hc,show vn s2 (some ⟨off,.l s2,gt,st⟩) ([]:List s2.D)=st ([]:List s2.D)from funext fun z=>YN];exact h7
 ·cases h
theorem sa(hT:ya P cf.tt){k:Sg->Option R}{ti:TI}(ha:vV cf t=some ti)(h:wV σ ti.ty (yx cx σ x) (yx cx σ y) k=some r):Yj P cx ⟨none,.store t x y,ty,pos,aft,g⟩ σ k r:=by
 have h0:=h;unfold wV at h;split at h
 ·next o e r j f hx=>exact Lx hT ha hx h0
 ·next o s0 n0 i o2 hx hy=>exact HP hT ha hx hy h0
 ·next o s0 n0 i hx _=>
  split at h
  ·next s1 E s2 E1 n j z ys ho=>
   obtain⟨hg,h1⟩:=zw h;rw[IR]at hg;obtain rfl:=zr hg.1;obtain rfl:=jQ hg.2;obtain⟨hb,f,hf,h2⟩:=iL h1;exact pz hT ha (X:=fun z=> .vr s0 E s2 E1 n0 j z ys) (rest:=fun u=>[mO s2.rep E1 ((yL u).headD undef) ys]) (fun _ _=>rfl) hx ho hb hf h2
  ·next s1 E s2 E1 n j z ho=>
   obtain⟨hg,h1⟩:=zw h;rw[IR]at hg;obtain rfl:=zr hg.1;obtain rfl:=jQ hg.2;obtain⟨hb,f,hf,h2⟩:=iL h1;exact pz hT ha (X:=fun z=> .vh s0 E s2 E1 n0 j z) (rest:=fun _=>[]) (fun _ _=>rfl) hx ho hb hf h2
  ·cases h
 ·next o j o' r hx hy=>exact LS hT ha hx hy h0
 ·next o j o2 hx hy=>exact IE hT ha hx hy h0
 ·next o t2 y2 n2 i2 hx hy=>exact LR hT ha hx hy h0
 ·next o o2 hx hy=>exact Ij hT ha hx hy h0
 ·cases h
theorem Vg:∀{ob:List (Nat×Od)}{o p:Nat},o≠p->zD (zD ob o) p=zD (zD ob p) o
 |[],_,_,_=>rfl
 |(q,X)::r,o,p,h=>by
  have ih:=Vg (ob:=r) h;cases h1:OW q o
  ·cases h2:OW q p
   ·simp only[zD,h1,h2,cond_false];rw[ih]
   ·simp only[zD,h1,h2,cond_false,cond_true]
  ·cases h2:OW q p
   ·simp only[zD,h1,h2,cond_false,cond_true]
   ·simp_all
theorem Kt{S:Nat->Prop}{w:World}{hv ha:List Value}:∀{ix:List Nat}{cs:List Value},zX (qs ha) S ix cs w->zX (qs<|hv++ha) S (ix.map (hv.length+ ·)) cs w
 |[],_,h=>h
 |r::ix,cs,⟨c,q,h1,⟨u,h2,h3,h4⟩,h5⟩=>⟨c,q,h1,⟨u,by show(hv++ha)[hv.length+r]? =some u;rw[PW<|PV _ _,Nat.add_sub_cancel_left];exact h2,h3,h4⟩,Kt h5⟩
theorem Ka{α:Type}{e:zv α}{E:TypeId}:∀{hv ha:List Value}{xss yss:List (List α)},hv.length=xss.length->xB e E (hv++ha) (xss++yss)=xB e E hv xss++xB e E ha yss
 |[],_,[],_,_=>rfl
 |u::hv,ha,xs::xss,yss,h=>by
  show mO e E u xs::xB e E (hv++ha) (xss++yss)=mO e E u xs::(xB e E hv xss++xB e E ha yss);rw[Ka<|by simpa using h]
 |[],_,_::_,_,h=>by cases h
 |_::_,_,[],_,h=>by cases h
theorem E7(hT:ya P cf.tt){ags:Array Operand}{ts:Array TypeId}{k:Sg->Option R}(hd:yJ cx d=true)(h:sJ cf cx σ d ags.toList ts.toList k=some r):
 Yj P cx ⟨d,.call ⟨.builtin .append,ags,ts⟩,ty,pos,aft,g⟩ σ k r:=by
 unfold sJ at h;split at h
 ·next _ _ x y t t' hS hU=>
  obtain rfl:ags= #[x,y]:=by cases ags;simp_all
  obtain rfl:ts= #[t,t']:=by cases ts;simp_all
  split at h
  ·next s E B o p ht hx hy=>
   obtain⟨hg,h6⟩:=zw h;rw[IR]at hg;obtain⟨hC,hl⟩:=hg;obtain rfl:=zr hC;rw[Rj]at hl;clear h;split at h6
   ·next q1 q2 B1 s1 E1 F1 xss ix s2 E2 F2 yss iy hn ho hp=>
    obtain⟨hg,h1⟩:=zw h6;simp only[IR]at hg;obtain⟨hf,hj,hF⟩:=hg;have hf:=zr hf;have hj:=zr hj;have hF:=zr hF;subst hf;subst hj;subst hF;obtain⟨hD,h2⟩:=zx h1;cases hD;obtain⟨hb,h3⟩:=wK h2;obtain⟨zss,hz,h4⟩:=yI h3;obtain⟨iz,hi,h5⟩:=yI h4;have hE:=dU hT hn rfl;have hc:=(hT _ _ hn).2.1;refine⟨_,h5,PJ _,fun fr vs env w hR=> ?_⟩;obtain⟨hB,hr⟩:=hR;obtain⟨S0,_,hΓ⟩:=hr.ex;have hG:ev env x=zN (vs o):=za hx<|zj hΓ x;have hH:ev env y=zN (vs p):=za hy<|zj hΓ y;have hI:=Wo hl ho hp hr;obtain⟨hk,hJ⟩:=Yn hI;have hu:St fr.we fr.Se (uk vs (p,.mat s1 E2 F1 yss iy)::((mO (qs<|yL<|vs o) E2 (zN<|vs o) ix::xB s1.rep F1 (yL<|vs o) xss)++OS vs fr cx (zD (zD σ.ob o) p))) (GS P vs env fr cx σ) w:=hJ.perm P6;obtain⟨hK,hL⟩:=Yn hu;have hN:St fr.we fr.Se (mO (qs<|yL<|vs o) E2 (zN<|vs o) ix::mO (qs<|yL<|vs p) E2 (zN<|vs p) iy::(xB s1.rep F1 (yL<|vs o) xss++xB s1.rep F1 (yL<|vs p) yss++OS vs fr cx (zD (zD σ.ob o) p))) (GS P vs env fr cx σ) w:=by
     refine hL.perm ?_;simp only[PZ,O2];refine(TA _ P6).trans<|(Sc ..).trans ?_;refine TA _<|TA _ ?_;exact(Sj ..)
    have hO:=hN.conv (i:=0) (m:=mO (qs<|yL<|vs o) E2 (zN<|vs o) ix) (m':=mO (qs<|yL (vs o)++yL (vs p)) E2 (zN<|vs o) ix) rfl rfl fun S hq=>ia hq;have aw:∀m,m*B1<=140737488355328->m<=9223372036854775807:=fun m hm=>by
     have hc:0<B1:=hc;have:=SB m hc;lia
    have he:(iy.map (O9 xss+ ·)).length=iy.length:=Rp _;refine(Zq (e:=qs<|yL (vs o)++yL (vs p)) (ys:=iy.map (O9 xss+ ·)) 0 (xF hT ht) hE rfl Tq rfl hG hH (fun S w hM ha=> ?_) (aw _<|by rw[he];exact hb) (by rw[he];exact hb) w hO).mono ?_
    ·have hm:(mO (qs<|yL<|vs p) E2 (zN<|vs p) iy).p S w:=hM.2.1;have hw:(mO (qs<|yL (vs o)++yL (vs p)) E2 (zN<|vs p) (iy.map (O9 xss+ ·))).p S w:=by
      obtain⟨cs,a1,a2⟩:=hm;refine⟨cs,by rw[he];exact a1,?_⟩;rw[<-hk];exact Kt a2
     rcases XR hw with⟨hv,hA⟩|⟨b,cap,hv,hP,hQ⟩
     ·rw[hv,hA];exact⟨none,0,rfl,O3 _,PF _,.inl rfl⟩
     ·have h6:=Uh hw hv (l:=0) (n:=(iy.map (O9 xss+ ·)).length) (c:=cap) (by lia) hP hQ;rw[Tz,List.take_length]at h6;rw[hv];simpa using h6
    rintro v w' ⟨v',rfl,_,hs⟩;refine jH (vs:=vs) (mk:=.mw) (u:=Zr v<|yL (vs o)++yL (vs p)) hB hd (XO hB) (fun _=>rfl) (fun S w=>by simp only[yW,yK];rfl) ?_;rw[gL,hz,hi];have h7:St fr.we fr.Se (mO (qs<|yL (vs o)++yL (vs p)) E2 v (ix++iy.map (O9 xss+ ·))::mO (qs<|yL<|vs p) E2 (zN<|vs p) iy::(xB s1.rep F1 (yL<|vs o) xss++xB s1.rep F1 (yL<|vs p) yss++OS vs fr cx (zD (zD σ.ob o) p))) (GS P vs env fr cx σ) w':=hs;have h8:=St.drop (i:=1) h7;refine bR (u:=Zr v<|yL (vs o)++yL (vs p)) (by show(yL (vs o)++yL (vs p)).length=(xss++yss).length;simp[hk,hK]) ?_;show St _ _ ((mO (qs<|yL (vs o)++yL (vs p)) E2 v _::xB s1.rep F1 (yL (vs o)++yL (vs p)) (xss++yss))++_) _ _;rw[Ka hk];exact h8
   ·cases h6
  ·cases h
 ·cases h
theorem mN(hX:Vd P cf){s:KX}{f:Operand}{ags:Array Operand}{ts:Array TypeId}{k:Sg->Option R}(hd:yJ cx d=true)(hf:yx cx σ f=some (.fn s.f []))(hs:s∈cf.ms)(h:Qz cx σ d s ags.toList k=some r):
 Yj P cx ⟨d,.call ⟨.value f,ags,ts⟩,ty,pos,aft,g⟩ σ k r:=by
 obtain⟨hb,hq⟩:=hX.ms s hs;unfold Qz at h;split at h
 ·next _ x a p y hF=>
  obtain rfl:ags= #[x,a,p,y]:=by cases ags;simp_all
  split at h
  ·next o r0 av pv o' lo n hx ha hp hy=>
   obtain⟨hr,h6⟩:=zw h;obtain rfl:=zr hr;clear h;split at h6
   ·next s1 E E1 xss ix ho=>
    obtain⟨hg,h1⟩:=zw h6;rw[IR]at hg;have hE:=zr hg.1;have hi:=zr hg.2;obtain⟨ht,h2⟩:=zx h1;cases ht;obtain⟨zss,hz,h3⟩:=ZP h2;refine⟨_,h3,PJ _,fun fr vs env w hR=> ?_⟩;obtain⟨hB,hj⟩:=hR;obtain⟨S0,_,hΓ⟩:=hj.ex;have hw:(yL<|vs o)[r0]? =some (ev env x):=za hx<|zj hΓ x;have hk:=xn ha<|zj hΓ a;have hl:=xn hp<|zj hΓ p;have hA:lH (zN<|vs o) lo n (ev env y):=za hy<|zj hΓ y;obtain⟨cvs,hv,hC,hG⟩:=za hf<|zj hΓ f;obtain rfl:cvs=[]:=Rl.1 hC;have hm:=wY ho hj;rw[hE,hi]at hm;have hc:=hq xss ix r0 av pv lo n zss hz (vs o) (ev env x) (ev env y) hw hA hk.2 hl.2 fr.we fr.Se _ _ w hm;have hn:(execOp (ev env) ⟨d,.call ⟨.value f,#[x,a,p,y],ts⟩,ty,pos,aft,g⟩).run P w=.ok (.enter s.f #[ev env x,.int .i64 av,.int .i64 pv,ev env y]) w:=by simp[execOp,resolve,hv,Rn,invoke,xg hb,hk.1,hl.1]
    unfold xX;rw[hn];refine hc.mono ?_;rintro e w' ⟨v,u',rfl,hu,hD⟩;refine⟨v,rfl,YT (o:=o) (u:=u') hB hd (fun e he=>hB.o1 e<|xv e he) (Yx<|by rw[yK,wz<|Xr hB ho];exact hu) ?_⟩;rw[gL];show St _ _ (Js s.t.rep E E1 u' zss ix::_) _ _;rw[hE,hi];exact hD
   ·cases h6
  ·cases h
 ·cases h
theorem Bh(hX:Vd P cf){s:kg}{f:Operand}{ags:Array Operand}{ts:Array TypeId}{k:Sg->Option R}(hd:yJ cx d=true)(hf:yx cx σ f=some (.fn s.f []))(hs:s∈cf.vg)(h:eT cx σ d s ags.toList k=some r):
 Yj P cx ⟨d,.call ⟨.value f,ags,ts⟩,ty,pos,aft,g⟩ σ k r:=by
 obtain⟨hb,hk⟩:=hX.vg s hs;unfold eT at h;split at h
 ·next _ x xs hr=>
  obtain rfl:ags=(x::xs).toArray:=by cases ags;simp_all
  split at h
  ·next o hx=>
   split at h
   ·next t1 E1 s1 F1 n1 i1 z ys ho=>
    obtain⟨hg,h1⟩:=zw h;simp only[IR]at hg;obtain⟨g1,g2,g3,g4⟩:=hg;have g1:=zr g1;have g2:=zr g2;have g3:=zr g3;have g4:=zr g4;obtain⟨e1,h2⟩:=zx h1;subst e1;obtain⟨e2,h3⟩:=zx h2;cases e2;obtain⟨y,h4,hc,hy⟩:=VE h3;obtain⟨q,hq,h5⟩:=ZP h4;subst g1 g2 g3 g4;refine⟨_,h5,PJ _,fun fr vs env w hR=> ?_⟩;obtain⟨hB,hi⟩:=hR;obtain⟨S0,_,hΓ⟩:=hi.ex;have hl:ev env x=zN (vs o):=za hx<|zj hΓ x;obtain⟨cvs,hv,hm,ht⟩:=za hf<|zj hΓ f;obtain rfl:cvs=[]:=Rl.1 hm;have hn:St fr.we fr.Se (Hk s z ys (vs o)::OS vs fr cx (zD σ.ob o)) (Ai s.dom y (xs.map<|ev env)++GS P vs env fr cx σ) w:=(wY ho hi).weak fun S w hΓ=>ze.append (hy P vs env S w fun x _=>zj hΓ x) hΓ;have ha:=hk z ys y q hq (vs o) (xs.map<|ev env) (by simpa using hc) fr.we fr.Se _ _ w hn;have hj:(execOp (ev env) ⟨d,.call ⟨.value f,(x::xs).toArray,ts⟩,ty,pos,aft,g⟩).run P w=.ok (.enter s.f (zN (vs o)::xs.map (ev env)).toArray) w:=by simp[execOp,resolve,hv,Rn,invoke,xg hb,hl]
    unfold xX;rw[hj];refine ha.mono ?_;rintro e w' ⟨v,u',rfl,hu,hp⟩;refine⟨v,rfl,YT (o:=o) (u:=u') hB hd (fun e he=>hB.o1 e<|xv e he) (Yx<|by rw[yK,wz<|Xr hB ho];exact hu) ?_⟩;rw[gL];exact hp
   ·cases h
  ·cases h
 ·cases h
theorem Jq{o n:Nat}:∀{rg:List (Nat×Nat×Dv)},∀e∈bD o n rg,e∈rg\/∃e'∈rg,∃p,e'.2.2=.yd p/\e=(e'.1,e'.2.1,bif OW p o then .yd n else .yd p)
 |[],e,he=>absurd he UV
 |(t,i,v)::rg,e,he=>by
  have ih:∀e∈bD o n rg,e∈(t,i,v)::rg\/∃e'∈(t,i,v)::rg,∃p,e'.2.2=.yd p/\e=(e'.1,e'.2.1,bif OW p o then .yd n else .yd p):=fun e he=>by
   rcases Jq e he with h|⟨e',h1,p,h2,h3⟩
   ·simp_all
   ·grind
  cases v with
  |yd p=>
   rcases OY.1 (show e∈(t,i,bif OW p o then Dv.yd n else .yd p)::bD o n rg from he)with rfl|he
   ·simp_all
   ·exact ih e he
  |_=>
   rcases OY.1 he with rfl|he
   ·exact .inl<|Nm
   ·exact ih e he
theorem pT(hX:Vd P cf){o:Nat}{f:Operand}{ags:Array Operand}{ts:Array TypeId}{k:Sg->Option R}(hd:yJ cx d=true)(hf:yx cx σ f=some (.yd o))(h:ai cx σ d o ags.toList k=some r):
 Yj P cx ⟨d,.call ⟨.value f,ags,ts⟩,ty,pos,aft,g⟩ σ k r:=by
 unfold ai at h;split at h
 ·next _ x hC=>
  obtain rfl:ags= #[x]:=by cases ags;simp_all
  split at h
  ·next p hx=>
   obtain⟨hi,h⟩:=zw h;rw[Rj]at hi;split at h
   ·next t E X Y mX mY gg z s E2 ys ho hp=>
    obtain⟨hE,h1⟩:=zw h;have hE:=zr hE;subst hE;obtain⟨hm,h2⟩:=zx h1;cases hm;obtain⟨q,hq,h3⟩:=ZP h2
    have main:∀(fr:Fr) (vs:Nat->Value) (env:yb) (w:World),ZR P fr cx σ vs env w->xX P ⟨d,.call ⟨.value f,#[x],ts⟩,ty,pos,aft,g⟩ env w fun v w'=>v=.bool q.2.isLeft/\Bd cx σ/\lk P (Gm<|zN<|vs o) t.rep E2 mX mY gg/\
     ∃u',St fr.we fr.Se (Sum.elim (fun x=>mX x u') (fun y=>mY y u') q.2::mO t.rep E2 (vs p) q.1::OS vs fr cx (zD (zD σ.ob o) p)) (GS P vs env fr cx σ) w':=by
     intro fr vs env w hR;obtain⟨hB,hj⟩:=hR;obtain⟨S0,_,hΓ⟩:=hj.ex;have hn:ev env x=vs p:=za hx<|zj hΓ x;have ht:ev env f=.func (.yield<|Gm<|zN<|vs o) #[] #[]:=za hf<|zj hΓ f;have hv:=Wo hi ho hp hj;obtain⟨hY,h4⟩:=St.unpr<|St.grp.1 hv;rw[<-hX.pp]at hY;have h4:St fr.we fr.Se (mX z ((yL<|vs o).headD undef)::mO t.rep E2 (vs p) ys::OS vs fr cx (zD (zD σ.ob o) p)) (GS P vs env fr cx σ) w:=h4;obtain⟨fn,tmps,as',bd',hy,hR⟩:=hY ys z q.1 q.2 hq (vs p) _ _ _ _ _ w h4;have hk:(execOp (ev env) ⟨d,.call ⟨.value f,#[x],ts⟩,ty,pos,aft,g⟩).run P w=.ok (.round (Gm<|zN<|vs o) fn tmps as' bd') w:=by
      rw[<-hn]at hy;simp[execOp,resolve,ht,Rn,invoke,hy]
     unfold xX;rw[hk];exact hR.mono fun e w' ⟨h5,h6⟩=>⟨_,h5,rfl,hB,hY,h6⟩
    have fin:∀(X':Od) (b:Bool) (u':Value) (vs:Nat->Value) (fr:Fr) (env:yb) (w':World),Bd cx σ->St fr.we fr.Se (uk (ja vs σ.nx<|Zr (zN<|vs o) [u']) (σ.nx,X')::mO t.rep E2 (vs p) q.1::OS vs fr cx (zD (zD σ.ob o) p)) (GS P vs env fr cx σ) w'->
     Xt P fr cx σ.nx vs ⟨σ.nx+1,bD o σ.nx<|xK σ.rg d [(0,.kb b)],(σ.nx,X')::zD (ve σ.ob p (.own t E2 q.1)) o⟩ (put env d (.bool b)) w':=by
     intro X' b u' vs fr env w' hB hs;have hc:p≠o:=fun e=>by subst e;simp at hi
     have hw:=Xr hB ho;have hD:yE (zD σ.ob o) p=some (.own t E2 ys):=by rw[Ze hc];exact hp
     have hz:St fr.we fr.Se (uk (ja vs σ.nx<|Zr (zN<|vs o) [u']) (σ.nx,X')::OS vs fr cx (zD (ve σ.ob p (.own t E2 q.1)) o)) (GS P vs env fr cx σ) w':=by
      have h7:=xo (vs:=vs) (fr:=fr) (cx:=cx) (ob:=zD (ve σ.ob p (.own t E2 q.1)) o) (o:=p) (X:=.own t E2 q.1) (by rw[Ze hc];exact(jr hp).1);have h8:zD (zD (ve σ.ob p (.own t E2 q.1)) o) p=zD (zD σ.ob o) p:=by rw[Vg<|fun e=>hc e.symm,(jr hp).2,Vg<|fun e=>hc e]
      rw[h8]at h7;exact hs.perm<|h7.symm.cons _
     obtain⟨ha,hA⟩:ZR P fr cx ⟨σ.nx+1,xK σ.rg d [(0,.kb b)],(σ.nx,X')::zD (ve σ.ob p (.own t E2 q.1)) o⟩ (ja vs σ.nx<|Zr (zN<|vs o) [u']) (put env d (.bool b)) w':=by
      have hl:∀e∈zD (ve σ.ob p (.own t E2 q.1)) o,e.1<σ.nx:=fun e he=>by
       obtain⟨e1,g1,g2⟩:=kH hp e<|xv e he;rw[<-g2];exact hB.o1 e1 g1
      refine Uf (σ':=⟨σ.nx+1,xK σ.rg d [(0,.kb b)],(σ.nx,X')::zD (ve σ.ob p (.own t E2 q.1)) o⟩) (l:=[(0,.kb b)]) (vs:=vs) (Γl:=[]) hB hd rfl (PJ _) (fun o ho=>wz ho) (fun e he p hp=> ?_) (fun e he=> ?_) (fun S w _ e he=> ?_) ?_
      ·obtain rfl:=OZ.1 he;cases hp
      ·rcases OY.1 he with rfl|he
       ·exact Ru _
       ·exact Nat.lt_succ_of_lt<|hl e he
      ·obtain rfl:=OZ.1 he;exact rfl
      ·show St _ _ (uk (ja vs σ.nx _) (σ.nx,X')::OS (ja vs σ.nx _) fr cx (zD (ve σ.ob p (.own t E2 q.1)) o)) _ _;rw[K8 hB hl];exact hz
     refine⟨_,fun o ho=>wz ho,⟨ha.o1,ha.o2,fun e he r hr=> ?_,ha.r2⟩,hA.weak fun S w h=>ze.append (wg.2 fun f hf=> ?_)<|ze.right h⟩
     ·rcases Jq e he with h|⟨e',h1,r',h2,rfl⟩
      ·exact ha.r1 e h r hr
      ·cases hb:OW r' o<;>simp only[hb,cond_true,cond_false]at hr
       ·exact ha.r1 e' h1 r<|by rw[h2];exact hr
       ·cases hr;exact Ru _
     ·obtain⟨e,he,rfl⟩:=O8.1 hf;rcases Jq e he with h'|⟨e',h1,r',h2,rfl⟩
      ·exact kD (ze.left h) h'
      ·have h5:=kD (ze.left h) (t:=e'.1) (i:=e'.2.1) (d:=e'.2.2) h1;rw[h2]at h5;refine ku h5 fun u hu=> ?_;cases hb:OW r' o
       ·exact hu
       ·have hu:u=.func (.yield<|Gm<|zN<|ja vs σ.nx (Zr (zN<|vs o) [u']) r') #[] #[]:=hu;rw[zr hb,wz hw]at hu;show u=.func (.yield<|Gm<|zN<|ja vs σ.nx (Zr (zN<|vs o) [u']) σ.nx) #[] #[];rw[yK];exact hu
    cases hg:q.2 with
    |inl z'=>
     rw[hg]at h3;refine⟨_,h3,PJ _,fun fr vs env w hR=>(main fr vs env w hR).mono ?_⟩;rintro v w' ⟨rfl,hB,hY,u',hs⟩;rw[hg]at hs⊢;refine fin _ true u' vs fr env w' hB ?_;rw[gL];refine St.grp.2 ?_;rw[<-hX.pp];exact St.pr hY hs
    |inr y'=>
     rw[hg]at h3;refine⟨_,h3,PJ _,fun fr vs env w hR=>(main fr vs env w hR).mono ?_⟩;rintro v w' ⟨rfl,hB,hY,u',hs⟩;rw[hg]at hs⊢;refine fin _ false u' vs fr env w' hB ?_;rw[gL];exact hs
   ·cases h
  ·cases h
 ·cases h
end
end
section
section
variable{P:Program}{cf:Cf}{fr:Fr}{cx σ:Sg}{vs vs':Nat->Value}{env:yb}{w:World}{R:Type}{r:R}
 {d:Option Tmp}{ty t yt:TypeId}{pos:String}{aft:Array Edge}{g:Option (Nat×Bool)}{x y:Operand}
theorem bh{o:Nat}{s:Ty}{E:TypeId}{xs:List s.D}{S:Nat->Prop}(hf:(fV (eS s.rep) xs<|vs o).p S w):∀{rg:List (Nat×Nat×Dv)},ze S (RS P vs env rg) w->ze S (RS P vs env<|JI o (.own s E xs) rg) w
 |[],_=>trivial
 |(t,i,v)::rg,h=>by
  refine⟨?_,bh hf h.2⟩;have h1:=h.1;cases v<;>try exact h1
  rename_i o';unfold Ur;cases hb:OW o' o<;>simp only[hb]
  ·exact h1
  ·have:=zr hb;subst this;refine ku h1 fun u hu=> ?_;rw[show u=vs o' from hu];exact hf
theorem cB{o:Nat}{s:Ty}{E:TypeId}{z:s.D}{S:Nat->Prop}(hf:(fP s.rep z<|vs o).p S w):∀{rg:List (Nat×Nat×Dv)},ze S (RS P vs env rg) w->ze S (RS P vs env<|JI o (.var s E z) rg) w
 |[],_=>trivial
 |(t,i,v)::rg,h=>by
  refine⟨?_,cB hf h.2⟩;have h1:=h.1;cases v<;>try exact h1
  rename_i o' s';unfold Ur;cases hb:OW o' o<;>simp only[hb]
  ·exact h1
  ·have:=zr hb;subst this;refine ku h1 fun u hu=> ?_;rw[show u=vs o' from hu.1];exact hf
theorem cU{o:Nat}{s:Ty}{E E1:TypeId}{xss:List (List s.D)}{ix:List Nat}{S:Nat->Prop}(hf:(fV (eS<|eS s.rep) (mQ xss ix)<|zN<|vs o).p S w):∀{rg:List (Nat×Nat×Dv)},ze S (RS P vs env rg) w->ze S (RS P vs env<|JI o (.mat s E E1 xss ix) rg) w
 |[],_=>trivial
 |(t,i,v)::rg,h=>by
  refine⟨?_,cU hf h.2⟩;have h1:=h.1;cases v<;>try exact h1
  rename_i o';unfold Ur;cases hb:OW o' o<;>simp only[hb]
  ·exact h1
  ·have:=zr hb;subst this;refine ku h1 fun u hu=> ?_;rw[show u=zN (vs o')from hu];exact hf
theorem fX{o:Nat}{t s:Ty}{E E1 n i:Nat}{z:t.D}{xs:List s.D}{S:Nat->Prop}(hf:(fP t.rep (vn s (yq n t i) xs z)<|zN<|vs o).p S w):∀{rg:List (Nat×Nat×Dv)},ze S (RS P vs env rg) w->ze S (RS P vs env<|JI o (.vr t E s E1 n i z xs) rg) w
 |[],_=>trivial
 |(u,j,v)::rg,h=>by
  refine⟨?_,fX hf h.2⟩;have h1:=h.1;cases v<;>try exact h1
  rename_i o';unfold Ur;cases hb:OW o' o<;>simp only[hb]
  ·exact h1
  ·have:=zr hb;subst this;refine ku h1 fun u hu=> ?_;rw[show u=zN (vs o')from hu];exact hf
theorem uI{o:Nat}{X:Od}(hX:∀v,Ur o X v=v):∀{rg:List (Nat×Nat×Dv)},JI o X rg=rg
 |[]=>rfl
 |(t,i,v)::rg=>by
  show(t,i,Ur o X v)::JI o X rg=_;rw[hX,uI hX]
theorem tQ{o p:Nat}{X:Od}{v:Dv}(h:xz (Ur o X v)=some p):xz v=some p:=by
 unfold Ur at h;split at h
 ·next o' s E xs=>
  cases hb:OW o' o<;>rw[hb]at h
  ·exact h
  ·cases h
 ·next o' t' s E z=>
  cases hb:OW o' o<;>rw[hb]at h
  ·exact h
  ·cases h
 ·next o' s E E1 xss ix=>
  cases hb:OW o' o<;>rw[hb]at h
  ·exact h
  ·cases h
 ·next o' t E s E1 n i z xs=>
  cases hb:OW o' o<;>rw[hb]at h
  ·exact h
  ·cases h
 ·exact h
theorem cH{o:Nat}{X:Od}:∀{rg:List (Nat×Nat×Dv)},∀e∈JI o X rg,∀p,xz e.2.2=some p->∃e'∈rg,xz e'.2.2=some p
 |[],e,he=>absurd he UV
 |(t,i,v)::rg,e,he=>by
  intro p hp;rcases OY.1 he with rfl|he
  ·refine⟨(t,i,v),Nm,?_⟩;exact tQ hp
  ·obtain⟨e',h1,h2⟩:=cH e he p hp;grind
theorem J4{o:Nat}(h:ZR P fr cx σ vs env w):ZR P fr cx (aR σ o) vs env w:=by
 unfold aR;split
 ·next X ho=>
  obtain⟨hB,hc⟩:=h;obtain⟨i,hi,_,hd⟩:=xm ho;have hg:Bd cx ⟨σ.nx,JI o X σ.rg,zD σ.ob o⟩:=⟨fun e he=>hB.o1 e<|xv e he,hB.o2,fun e he p hp=>by obtain⟨e',h1,h2⟩:=cH e he p hp;exact hB.r1 e' h1 p h2,hB.r2⟩;refine⟨hg,?_⟩
  cases X with
  |own s E xs=>
   have hm:(OS vs fr cx σ.ob)[i]? =some (mO s.rep E (vs o) xs):=ky hi;have:=KN i hc hm;rw[ZY hi,<-hd]at this;exact this.weak fun S w ha=>ze.append (bh ha.1<|ze.left ha.2)<|ze.right ha.2
  |var s E z=>
   have hm:(OS vs fr cx σ.ob)[i]? =some (mP s.rep.c E (vs o) z):=ky hi;obtain⟨b,hv,hs⟩:=hc.openP i hm;have:=Ff (e:=s.rep) i hs<|xA hm;rw[W1,ZY hi,<-hd,<-hv]at this;exact this.weak fun S w ha=>ze.append (cB ha.1<|ze.left ha.2)<|ze.right ha.2
  |mat s E E1 xss ix=>
   have h1:=wY ho hc;have h2:St fr.we fr.Se (CM s.rep E E1 (zN<|vs o) (yL<|vs o) xss ix::OS vs fr cx (zD σ.ob o)) (GS P vs env fr cx σ) w:=St.grp.2 (Yn h1).2;exact(h2.mat_frz (Yn h1).1).weak fun S w ha=>ze.append (cU ha.1<|ze.left ha.2)<|ze.right ha.2
  |vr t E s E1 n i z xs=>
   have h1:=wY ho hc;have h2:=h1.freeze (i:=0) (F:=fP t.rep (vn s (yq n t i) xs z)<|zN<|vs o) rfl fun S S' hs hb hp=>by
    obtain⟨⟨⟨hl,hj⟩,⟨b,hv,cs,g1,g2⟩,hn,_⟩,_⟩:=hp;have g2:(uJ t.rep (qv<|yq n t i) (vn s (yq n t i) [])<|yL<|vs o).p S (z,0) cs.toList w:=g2;refine⟨b,0,cs.toList,hv,hb b ⟨_,H1 _<|Nm,by show pJ (zN<|vs o)=some b;rw[hv];rfl⟩,At.row g1,?_⟩;obtain⟨off,g',st,hf⟩:=hj;rw[hf]at g2⊢;rw[show vn s (some ⟨off,.l s,g',st⟩) ([]:List s.D)=st ([]:List s.D)from funext fun z=>YN]at g2;rw[YN];exact FC hf g2 (by rw[QK hl];rfl) hs<|XD hs (fun k hk=>hb k ⟨_,H1 _<|H1 _<|Nm,hk⟩) hn
   exact h2.weak fun S w ha=>ze.append (fX ha.1<|ze.left ha.2)<|ze.right ha.2
  |vh t E s E1 n i z=>
   rw[uI<|fun v=>by cases v<;>rfl];exact St.drop (i:=0)<|wY ho hc
  |bo s E E0 xs=>
   rw[uI<|fun v=>by cases v<;>rfl];exact St.drop (i:=0)<|wY ho hc
  |ho E0=>
   rw[uI<|fun v=>by cases v<;>rfl];exact St.drop (i:=0)<|wY ho hc
  |hid t E X Y mX mY g x=>
   rw[uI<|fun v=>by cases v<;>rfl];exact St.drop (i:=0)<|wY ho hc
  |hiy Y mY y=>
   rw[uI<|fun v=>by cases v<;>rfl];exact St.drop (i:=0)<|wY ho hc
 ·exact h
theorem tV(x:Operand)(h:ZR P fr cx σ vs env w):ZR P fr cx (Hf cx σ x) vs env w:=by grind [Hf,J4]
theorem U3(x:Operand)(h:vD P fr cx σ env w):vD P fr cx (Hf cx σ x) env w:=by
 obtain⟨hB,vs,ha⟩:=h;obtain⟨h1,h2⟩:=tV x ⟨hB,ha⟩;exact⟨h1,vs,h2⟩
theorem Q3:∀(l:List Operand) {σ:Sg},vD P fr cx σ env w->vD P fr cx (BY cx σ l) env w
 |[],_,h=>h
 |x::r,_,h=>Q3 r<|U3 x h
theorem ft{f:FuncId}:∀{cs:List jo}{s:jo},mu f cs=some s->s∈cs/\s.f=f/\s.bk=1
 |c::cs,s,h=>by
  unfold mu at h;split at h
  ·next h1 h2 h3 h4=>
   cases hb:OW c.f f<;>rw[hb]at h
   ·obtain⟨h5,h6⟩:=ft h;exact⟨H1 _ h5,h6⟩
   ·simp_all
  ·obtain⟨h5,h6⟩:=ft h;exact⟨H1 _ h5,h6⟩
theorem MH(hC:∀s∈cf.cs,zQ P s){f:Operand}{f':FuncId}{o:Nat}{t':Ty}{s:jo}{ags:Array Operand}{ts:Array TypeId}{k:Sg->Option R}(hd:yJ cx d=true)(hf:yx cx σ f=some (.bm f' o t'))(ht:ags.toList=[])
 (hs:mu f' cf.cs=some s) (h:MG σ d s o k=some r):Yj P cx ⟨d,.call ⟨.value f,ags,ts⟩,ty,pos,aft,g⟩ σ k r:=by
 obtain⟨h1,h2,hm⟩:=ft hs;have hc:=hC s h1;unfold MG at h;split at h
 ·next f0 t E t2 E2 M bk s' E' y ho=>
  obtain⟨hg,h3⟩:=zw h;obtain⟨hn,h4⟩:=zx h3;subst hn;obtain⟨z,hz,h5⟩:=ZP h4;rw[IR,IR]at hg;obtain rfl:=zr hg.1;obtain rfl:bk=1:=hm;obtain rfl:ags= #[]:=by cases ags;simp_all
  refine⟨_,h5,O3 _,fun fr vs env w hR=> ?_⟩;obtain⟨hB,hi⟩:=hR;obtain⟨S0,_,hΓ⟩:=hi.ex;obtain⟨hv,b,hb⟩:=za hf<|zj hΓ f;have hj:=hc.2 (y,()) z hz [vs o] rfl;have hk:(execOp (ev env) ⟨d,.call ⟨.value f,#[],ts⟩,ty,pos,aft,g⟩).run P w=.ok (.enter f' #[vs o]) w:=by simp[execOp,resolve,hv,Rn,invoke,xg<|h2▸hc.1]
  have hl:St fr.we fr.Se (mP s'.rep.c E (vs o) y::OS vs fr cx (zD σ.ob o)) (Zn (∃b,vs o=.pointer (some ⟨b,0,none⟩))::GS P vs env fr cx σ) w:=(wY ho hi).weak fun S w ha=>⟨⟨b,hb⟩,ha⟩;unfold xX;rw[hk];rw[show f0=f' from h2]at hj;refine(hj fr.we fr.Se _ _ w hl).mono ?_;rintro e w' ⟨us,he,⟨hu,hp⟩,hq⟩;obtain rfl:us=[vs o]:=hp;refine⟨_,he,?_⟩;refine jR (σ':=⟨σ.nx,xK σ.rg d [],ve σ.ob o (.var t2 E2 z)⟩) (d:=d) (l:=[]) (vs:=vs) (vs':=vs) (Γl:=[]) hB hd rfl (O3 _) (fun _ _=>rfl) (fun _ he=>absurd he UV) (fun e he=> ?_) (fun S w _ e he=>absurd he UV) ?_
  ·obtain⟨e',h1,h2⟩:=kH ho e he;rw[<-h2];exact hB.o1 e' h1
  ·refine VF ho ?_;have hr:St fr.we fr.Se (mP t2.rep.c E2 (vs o) z::OS vs fr cx (zD σ.ob o)) (Zn (∃b,vs o=.pointer (some ⟨b,0,none⟩))::GS P vs env fr cx σ) w':=hq;exact hr.weak fun S w ha=>ha.2
 ·cases h
theorem FV(hT:ya P cf.tt)(hL:vd P cf.tt)(hC:∀s∈cf.cs,zQ P s)(hX:Vd P cf){op:Op}{k:Sg->Option R}(hd:yJ cx d=true)(h:Gw cf cx σ d op k=some r):
 Yj P cx ⟨d,op,ty,pos,aft,g⟩ σ k r:=by
 unfold Gw at h;split at h
 ·exact A1 hT hd h
 ·next E x=>
  cases hb:Fe cf d<;>rw[hb]at h
  ·exact HN hT hL hC hX hd h
  ·exact Hp hd h
 ·next t x y=>
  obtain⟨hn,h⟩:=zw h;have hn:d=none:=by simpa using hn
  subst hn;split at h
  ·next ti hc=>exact BM hT hc h
  ·cases h
 ·exact GZ hT hd h
 ·exact H9 hT hL hd h
 ·next t x hi=>
  split at h
  ·next o hx=>exact AI hT hL hd hx h
  ·exact HN hT hL hC hX hd h
 ·exact Ln hT hd h
 ·exact Fm hT hL hd h
 ·next f ags ts=>
  split at h
  ·next f' cs hf=>
   split at h
   ·next s hs=>exact GF hC hd hf hs h
   ·exact HN hT hL hC hX hd h
  ·next f' o t hf=>
   split at h
   ·next s ha hs=>exact MH hC hd hf ha hs h
   ·cases h
  ·exact HN hT hL hC hX hd h
 ·exact HN hT hL hC hX hd h
theorem H8(hT:ya P cf.tt)(hL:vd P cf.tt)(hC:∀s∈cf.cs,zQ P s)(hX:Vd P cf){op:Op}{k:Sg->Option R}(hd:yJ cx d=true)(h:Nr cf cx σ d op k=some r):
 Yj P cx ⟨d,op,ty,pos,aft,g⟩ σ k r:=by
 unfold Nr at h
 cases hc:MZ cf cx σ d op with
 |no=>rw[hc]at h;exact FV hT hL hC hX hd h
 |_=>
  rw[hc]at h;simp only[NH]at h;unfold MZ at hc;split at hc
  ·next t x y=>
   cases hb:ay (yx cx σ x)<;>rw[hb]at hc<;>cases hc
   all_goals
    obtain⟨hn,h⟩:=zw h
    have hn:d=none:=by simpa using hn
    subst hn
    split at h
    ·next ti ha=>exact sa hT ha h
    ·cases h
  ·next t x y=>
   cases hb:ed cf d<;>rw[hb]at hc<;>cases hc;all_goals exact Ba hT hd h
  ·next t n ps=>
   cases hb:ed cf d<;>rw[hb]at hc<;>cases hc;all_goals exact FI hT hL hd h
  ·next E=>
   cases hb:ed cf d||(Qh cf d).isSome<;>rw[hb]at hc<;>cases hc
   all_goals exact nY hT hd h
  ·next t ps=>
   cases hb:(Qh cf d).isSome<;>rw[hb]at hc<;>cases hc;all_goals exact pZ hT hd h
  ·next E x=>
   cases hb:(Qh cf d).isSome<;>rw[hb]at hc<;>cases hc;all_goals exact DY hT hd h
  ·next t x=>
   split at hc
   ·next o hx=>cases hc<;>exact BK hT hd hx h
   ·split at hc
    ·next o hw ho=>cases hc<;>exact Bp hT hd ho h
    ·cases hc
  ·next ags ts=>
   cases hb:ags.toList.any (fun x=>nL<|yx cx σ x)<;>rw[hb]at hc<;>cases hc;all_goals exact E7 hT hd h
  ·next f ags ts=>
   split at hc
   ·next o hf=>cases hc<;>exact pT hX hd hf h
   ·next f' hf=>
    split at hc
    ·next s hs=>
     obtain⟨h1,h2⟩:=sA hs;subst h2;cases hc<;>exact mN hX hd hf h1 h
    ·split at hc
     ·next s hs=>
      obtain⟨h1,h2⟩:=oc hs;subst h2;cases hc<;>exact Bh hX hd hf h1 h
     ·cases hc
   ·cases hc
  ·cases hc
theorem pE(hT:ya P cf.tt)(hL:vd P cf.tt)(hC:∀s∈cf.cs,zQ P s)(hX:Vd P cf){op:Op}{kp:PX->Sg->Option R}{k:Sg->Option R}(hd:yJ cx d=true)(h:CJ cf cx σ d op kp k=some r):
 Yj P cx ⟨d,op,ty,pos,aft,g⟩ σ k r\/DQ P cx ⟨d,op,ty,pos,aft,g⟩ σ kp r:=by
 unfold CJ at h;split at h
 ·next p ags cs hp=>
  unfold BW at hp;split at hp
  ·next f ags' ts=>
   split at hp
   ·next f' cs' hf=>
    split at hp
    ·next p' he=>
     cases hp;obtain⟨h1,h2⟩:=nt he;exact HC hC hd hf (hX.ps _ h1) h2 h
    ·cases hp
   ·cases hp
  ·cases hp
 ·split at h
  ·next x hx=>
   unfold IC at hx;split at hx
   ·next x'=>
    cases hx;split at h
    ·next q hq=>
     refine .inr ⟨q,σ,h,rfl,fun fr vs env w hR=> ?_⟩;obtain⟨hB,ha⟩:=hR;obtain⟨S0,_,hΓ⟩:=ha.ex;have hv:ev env x=.iface q.1 (.agg #[.int .i64 q.2]):=za hq<|zj hΓ x;refine⟨fun c hc=>(by cases hc),?_⟩;have hb:(execOp (ev env) ⟨d,.panic x,ty,pos,aft,g⟩).run P w=.halt (.panic (.iface q.1 (.agg #[.int .i64 q.2]))) w:=by simp[execOp,Instr.panic,hv,goPanic]
     rw[hb];exact⟨rfl,hB,ha⟩
    ·cases h
   ·cases hx
  ·exact .inl<|H8 hT hL hC hX hd h
theorem rN{t:Tmp}:put env (some t) (env t)=env:=by grind [Vf,ZX]
theorem XH{t:Tmp}{b:Bool}(hn:qk cx.rg t=true)(hv:env t=.bool b)(h:vD P fr cx σ env w):vD P fr cx (Um σ t b) env w:=by
 obtain⟨hB,vs,ha⟩:=h
 have:=Xt.rel<|jR (d:=some t) (σ':=Um σ t b) (Γl:=[]) hB hn rfl (O3 _) (fun _ _=>rfl)
  (fun e he o ho=>by obtain rfl:=OZ.1 he;cases ho) hB.o1 (fun S w _ e he=>by obtain rfl:=OZ.1 he;exact hv) ha
 rwa[rN]at this
theorem X2{t:Tmp}{x:Bool}{S:Nat->Prop}(h:get cx σ t 0=some (.d .b x))(hl:Lk P vs env S w cx σ t):env t=.bool x:=Wi<|hl 0 _ h
theorem dw{b:Bool}{a c:Option R}(h:Mi b a c=some r):(b=true/\a=some r)\/(b=false/\c=some r):=by
 cases b
 ·exact .inr ⟨rfl,h⟩
 ·exact .inl ⟨rfl,h⟩
theorem Cz{all:List Oper}{o:Oper}{k:Sg->Bool->Option R}(h:Xo cx all o σ k=some r)(hR:vD P fr cx σ env w):∃σ' b,k σ' b=some r/\vD P fr cx σ' env w/\zG all.toArray env o=b:=by
 have ha:=hR;obtain⟨hB,vs,hd⟩:=hR;obtain⟨S,_,hΓ⟩:=hd.ex;unfold Xo at h;split at h
 ·next hg=>exact⟨σ,true,h,ha,by unfold zG;rw[hg]⟩
 ·next j want hg=>
  split at h
  ·next o' he=>
   split at h
   ·next t ht=>
    have hc:∀{v},env t=v->gd all.toArray env j=(match v with|.bool b=>some b|_=>none):=by
     rintro v rfl;unfold gd;grind
    have hw:zG all.toArray env o=(gd all.toArray env j==some want):=by unfold zG;rw[hg]
    split at h
    ·next b hb=>
     have hv:env t=.bool b:=qZ hΓ t 0 _ hb;refine⟨σ,_,h,ha,?_⟩;rw[hw,hc hv];cases b<;>cases want<;>rfl
    ·next hb=>
     have hv:env t=undef:=qZ hΓ t 0 _ hb;refine⟨σ,_,h,ha,?_⟩;rw[hw,hc hv];rfl
    ·next x hb=>
     obtain⟨hn,h⟩:=zw h;have hv:env t=.bool x:=X2 hb<|qZ hΓ t;rcases dw h with⟨hx,h⟩|⟨hx,h⟩
     ·exact⟨_,_,h,XH hn (hv.trans<|congrArg SG hx) ha,by rw[hw,hc<|hv.trans<|congrArg SG hx];cases want<;>rfl⟩
     ·exact⟨_,_,h,XH hn (hv.trans<|congrArg SG hx) ha,by rw[hw,hc<|hv.trans<|congrArg SG hx];cases want<;>rfl⟩
    ·cases h
   ·cases h
  ·cases h
theorem Gb{o:Oper}{k:Sg->Option R}(h:V8 cx o σ k=some r)(hR:vD P fr cx σ env w):∃σ',k σ'=some r/\vD P fr cx σ' env w:=by
 have ha:=hR;obtain⟨hB,vs,hc⟩:=hR;obtain⟨S,_,hΓ⟩:=hc.ex;unfold V8 at h;split at h
 ·next t _ _ _=>
  split at h
  ·next x hb=>
   obtain⟨hn,h⟩:=zw h;have hv:=X2 hb<|qZ hΓ t;rcases dw h with⟨hx,h⟩|⟨hx,h⟩
   ·exact⟨_,h,XH hn (hv.trans<|congrArg SG hx) ha⟩
   ·exact⟨_,h,XH hn (hv.trans<|congrArg SG hx) ha⟩
  ·grind
 ·grind
theorem GI{N:Nd}{ops:Array Oper}{o:Oper}{rest:List Oper}{Q:Qs}(hw:zG ops env o=true)(hd:xr N.n o.dst=true)(h:xX P o env w (fun v w'=>Aq P N ops rest Q (put env o.dst v) w')):Aq P N ops (o::rest) Q env w:=by
 intro a h1 h2 h3;subst h3;unfold wpListIn;rw[iq<|by rw[jh];exact hw];refine h.wp fun v w' hk=> ?_;exact hk _ (by rw[kJ];exact h1) (by rw[qy];exact h2)<|qE<|by rw[h1];exact uK hd
theorem BG{N:Nd}{ops:Array Oper}{o:Oper}{rest:List Oper}{Q:Qs}(hw:zG ops env o=false)(hd:xr N.n o.dst=true)(h:Aq P N ops rest Q (put env o.dst undef) w):Aq P N ops (o::rest) Q env w:=by
 intro a h1 h2 h3;subst h3;unfold wpListIn;rw[ir<|by rw[jh,hw];exact Pa];exact⟨fun _ _=>trivial,h _ (by rw[kJ];exact h1) (by rw[qy];exact h2)<|qE<|by rw[h1];exact uK hd⟩
theorem FQ(hd:yJ cx d=true)(h:vD P fr cx σ env w):vD P fr cx (σ.put d [(0,.un)]) (put env d undef) w:=by
 obtain⟨hB,vs,ha⟩:=h;exact(jR (σ':=σ.put d [(0,.un)]) (Γl:=[]) hB hd rfl (O3 _) (fun _ _=>rfl) (fun e he o ho=>by obtain rfl:=OZ.1 he;cases ho) hB.o1 (fun S w _ e he=>by obtain rfl:=OZ.1 he;exact rfl) ha).rel
def Y9(cx:Sg)(a b:yb):Prop:=∀e∈cx.rg,b e.1=a e.1
theorem Y9.refl{a:yb}:Y9 cx a a:=fun _ _=>rfl
theorem Y9.trans{a b c:yb}(h:Y9 cx a b)(k:Y9 cx b c):Y9 cx a c:=fun e he=>(k e he).trans<|h e he
theorem Y9.put{a b:yb}{v:Value}(hd:yJ cx d=true)(h:Y9 cx a b):Y9 cx a (put b d v):=fun e he=>by
 rw[ZX fun ht=> ?_]
 ·exact h e he
 ·subst ht;simp only[yJ,qk,Pe]at hd;have:=hd e he;simp at this
theorem Qt(hT:ya P cf.tt)(hL:vd P cf.tt)(hC:∀s∈cf.cs,zQ P s)(hX:Vd P cf){N:Nd}{all:List Oper}{Q:Qs}{kp:PX->Sg->Option R}{k:Sg->Option R}{env0:yb}
 (hK:∀σ',k σ'=some r->∀env w,Y9 cx env0 env->vD P fr cx σ' env w->Q .normal env w) (hP:∀q σ',kp q σ'=some r->∀env w,Y9 cx env0 env->vD P fr cx σ' env w->Q (.panic<|XU q) env w):
 ∀{l:List Oper}{σ:Sg}{env:yb}{w:World},Y9 cx env0 env->(l.all fun o=>xr N.n o.dst)=true->lG cf cx all kp l σ k=some r->vD P fr cx σ env w->Aq P N all.toArray l Q env w
 |[],σ,env,w,hS,_,h,hR=>fun a h1 h2 h3=>wpListIn_nil ⟨h1,h2,h3▸hK σ h env w hS hR⟩
 |o::l,σ,env,w,hS,hN,h,hR=>by
  simp only[List.all_cons,IR]at hN;obtain⟨hd,h⟩:=zw h;obtain⟨σ1,b,h,hR,hw⟩:=Cz h hR;cases b
  ·exact BG hw hN.1<|Qt hT hL hC hX hK hP (hS.put hd) hN.2 h<|FQ hd hR
  ·obtain⟨σ2,h,hR⟩:=Gb h hR;have hR:=Q3 (En cf cx σ2 o.dst o.op) hR;obtain⟨hB,vs,ha⟩:=hR;rcases pE hT hL hC hX hd h with⟨σ',h',_,hm⟩|⟨q,σ',h',_,hm⟩
   ·exact GI hw hN.1<|(hm fr vs env w ⟨hB,ha⟩).mono fun v w' hc=>Qt hT hL hC hX hK hP (hS.put hd) hN.2 h' hc.rel
   ·refine AU hw<|(hm fr vs env w ⟨hB,ha⟩).mono ?_;rintro ch w' ⟨rfl,he,hb⟩;exact hP q σ' h' env w' hS ⟨he,vs,hb⟩
end
end
section
section
variable{P:Program}{cf:Cf}{fr:Fr}{cx σ σ0:Sg}{vs vs':Nat->Value}{env env0:yb}{w:World}{R:Type}{r:R}
 {d:Option Tmp}{ty t yt:TypeId}{pos:String}{aft:Array Edge}{g:Option (Nat×Bool)}{x y:Operand}
theorem bH:∀{a b:List (Nat×Nat×Dv)}{t i:Nat},(∀e∈a,e.1≠t)->Y3 (a++b) t i=Y3 b t i
 |[],_,_,_,_=>rfl
 |(t',i',d)::a,b,t,i,h=>by
  show(bif OW t' t && OW i' i then some d else Y3 (a++b) t i)=_;rw[qt<|h (t',i',d)<|Nm];exact bH fun e he=>h e<|H1 _ he
theorem pK{rg:List (Nat×Nat×Dv)}{t t' i:Nat}(h:t'≠t):Y3 (Fj rg t) t' i=Y3 rg t' i:=by
 induction rg with
 |nil=>rfl
 |cons e rg ih=>
  obtain⟨s,j,d⟩:=e;unfold Fj at ih⊢;rw[List.filter_cons];cases hb:OW s t
  ·simp only[S7,if_true];unfold Y3;rw[ih]
  ·simp only[SC,Pd,if_false];rw[ih];have:=zr hb;subst this;conv=>rhs;unfold Y3
   rw[qt<|fun e=>h e.symm];rfl
theorem ek{rg:List (Nat×Nat×Dv)}{t t' i:Nat}{l:List (Nat×Dv)}(h:t'≠t):Y3 (xK rg (some t) l) t' i=Y3 rg t' i:=by grind [xK,bH,pK]
theorem CB{t t' i:Nat}{l:List (Nat×Dv)}{n:Nat}{ob:List (Nat×Od)}{dv:Dv}(hn:qk cx.rg t=true)(h:get cx ⟨n,xK σ.rg (some t) l,ob⟩ t' i=some dv):(t'=t/\(i,dv)∈l)\/(t'≠t/\get cx σ t' i=some dv):=by
 by_cases ht:t'=t
 ·subst ht;rcases VI h with hm|hm
  ·have hm:=hm;rcases OX.1 hm with hm|hm
   ·simp_all
   ·have:=(PO.1 hm).2;simp at this
  ·simp only[qk,Pe]at hn;have:=hn _ hm;simp at this
 ·right;refine⟨ht,?_⟩;unfold get at h⊢;rw[show Y3 (xK σ.rg (some t) l) t' i=Y3 σ.rg t' i from ek ht]at h;exact h
theorem nR{t:Nat}{l:List (Nat×Dv)}{n:Nat}{ob:List (Nat×Od)}{S:Nat->Prop}(hn:qk cx.rg t=true){t':Nat}(h1:t'=t->∀e∈l,(xG P vs e.2 (env t) e.1).p S w)(h2:t'≠t->Lk P vs env S w cx σ t'):Lk P vs env S w cx ⟨n,xK σ.rg (some t) l,ob⟩ t':=by
 intro i dv hd;rcases CB hn hd with⟨rfl,hm⟩|⟨ha,hg⟩
 ·simp_all
 ·exact h2 ha i dv hg
theorem Z8{l:List (Nat×Dv)}(hB:Bd cx σ)(hl:∀e∈l,∀o,xz e.2=some o->o<σ.nx):Bd cx (σ.put d l):=by
 refine⟨hB.o1,hB.o2,fun e he o ho=> ?_,hB.r2⟩
 cases d with
 |none=>exact hB.r1 e he o ho
 |some t=>
  rcases OX.1 he with he|he
  ·obtain⟨e',ha,rfl⟩:=O8.1 he;exact hl e' ha o ho
  ·exact hB.r1 e (PO.1 he).1 o ho
theorem VH{t t':Nat}{x b:Bool}{S:Nat->Prop}(hn:qk cx.rg t=true)(hb:get cx σ t 0=some (.d .b x))(hx:x=b)(h:Lk P vs env S w cx σ t'):Lk P vs env S w cx (Um σ t b) t':=by
 refine nR hn (fun e e' he=> ?_)<|fun _=>h;subst e;obtain rfl:=OZ.1 he;exact(X2 hb h).trans<|congrArg SG hx
theorem dn{all:List Oper}{o:Oper}{k:Sg->Bool->Option R}(h:Xo cx all o σ k=some r)(hB:Bd cx σ):∃σ' b,k σ' b=some r/\σ'.ob=σ.ob/\σ'.nx=σ.nx/\Bd cx σ'/\
 (∀(P:Program) vs env S w t,Lk P vs env S w cx σ t->Lk P vs env S w cx σ' t)/\(∀(P:Program) vs env S w,(∀t∈Pt all.toArray o,Lk P vs env S w cx σ t)->zG all.toArray env o=b):=by
 unfold Xo at h;split at h
 ·next hg=>exact⟨σ,true,h,rfl,rfl,hB,fun _ _ _ _ _ _ h=>h,fun P vs env S w _=>by unfold zG;rw[hg]⟩
 ·next j want hg=>
  split at h
  ·next o' hf=>
   split at h
   ·next t ht=>
    have ha:t∈Pt all.toArray o:=by
     unfold Pt;simp_all
    have hc:∀{env:yb}{v},env t=v->gd all.toArray env j=(match v with|.bool b=>some b|_=>none):=by
     rintro env v rfl;unfold gd;simp only[SS,hf,Option.bind_some,ht];rfl
    have hw:∀env,zG all.toArray env o=(gd all.toArray env j==some want):=fun env=>by unfold zG;rw[hg]
    split at h
    ·next b hb=>
     refine⟨σ,_,h,rfl,rfl,hB,fun _ _ _ _ _ _ h=>h,fun P vs env S w hl=> ?_⟩;have hv:env t=.bool b:=hl t ha 0 _ hb;rw[hw,hc hv];cases b<;>cases want<;>rfl
    ·next hb=>
     refine⟨σ,_,h,rfl,rfl,hB,fun _ _ _ _ _ _ h=>h,fun P vs env S w hl=> ?_⟩;have hv:env t=undef:=hl t ha 0 _ hb;rw[hw,hc hv];rfl
    ·next x hb=>
     obtain⟨hn,h⟩:=zw h;have hd:∀b,Bd cx (Um σ t b):=fun b=>Z8 (d:=some t) hB fun e he o ho=>by obtain rfl:=OZ.1 he;cases ho
     rcases dw h with⟨hx,h⟩|⟨hx,h⟩
     ·refine⟨_,_,h,rfl,rfl,hd _,fun P vs env S w t' hl=>VH hn hb hx hl,fun P vs env S w hl=> ?_⟩;have hv:=(X2 hb<|hl t ha).trans<|congrArg SG hx;rw[hw,hc hv];cases want<;>rfl
     ·refine⟨_,_,h,rfl,rfl,hd _,fun P vs env S w t' hl=>VH hn hb hx hl,fun P vs env S w hl=> ?_⟩;have hv:=(X2 hb<|hl t ha).trans<|congrArg SG hx;rw[hw,hc hv];cases want<;>rfl
    ·cases h
   ·cases h
  ·cases h
theorem ls{o:Oper}{k:Sg->Option R}(h:V8 cx o σ k=some r)(hB:Bd cx σ):∃σ',k σ'=some r/\σ'.ob=σ.ob/\σ'.nx=σ.nx/\Bd cx σ'/\(∀(P:Program) vs env S w t,Lk P vs env S w cx σ t->Lk P vs env S w cx σ' t):=by
 unfold V8 at h;split at h
 ·next t _ _ _=>
  split at h
  ·next x hb=>
   obtain⟨hn,h⟩:=zw h;have ha:∀b,Bd cx (Um σ t b):=fun b=>Z8 hB fun e he o ho=>by obtain rfl:=OZ.1 he;cases ho
   rcases dw h with⟨hx,h⟩|⟨hx,h⟩
   ·exact⟨_,h,rfl,rfl,ha _,fun P vs env S w t' hl=>VH hn hb hx hl⟩
   ·exact⟨_,h,rfl,rfl,ha _,fun P vs env S w t' hl=>VH hn hb hx hl⟩
  ·grind
 ·grind
def Bb(P:Program)(vs:Nat->Value)(l:List (Nat×Dv)):Pr where
 p S v w:=∀e∈l,(xG P vs e.2 v e.1).p S w
 keepS h k:=fun e he=>(xG P vs e.2 _ e.1).keep (h e he) k
 sub h k:=fun e he=>(xG P vs e.2 _ e.1).sub (h e he) k
def fQ(P:Program)(vs:Nat->Value)(Γ:List FF)(env0:yb)(cx σ:Sg)(K:List (Tmp×Pr)):Prop:=∀(env:yb) (S:Nat->Prop) (w:World),ze S Γ w->∀t,qB K env0 env S w t->Lk P vs env S w cx σ t
def CH(cx:Sg)(K:List (Tmp×Pr)):Prop:=∀e∈K,qk cx.rg e.1=true
theorem jk{K:List (Tmp×Pr)}{S:Nat->Prop}:∀{ts:List Tmp},jE K env0 env S w ts->∀t∈ts,qB K env0 env S w t
 |[],_,_,h=>absurd h UV
 |_::_,h,t,ht=>by
  rcases OY.1 ht with rfl|ht
  ·exact h.1
  ·exact jk h.2 t ht
theorem QX{Γ:List FF}{K:List (Tmp×Pr)}{Φ:Pr}{l:List (Nat×Dv)}{o:Oper}(hd:yJ cx o.dst=true)(h:fQ P vs Γ env0 cx σ K)(hΦ:∀S v w,Φ.p S v w->∀e∈l,(xG P vs e.2 v e.1).p S w):fQ P vs Γ env0 cx (σ.put o.dst l) (YY o.dst Φ K):=by
 intro env S w hΓ t ht
 cases ha:o.dst with
 |none=>
  rw[ha]at ht;exact h env S w hΓ t ht
 |some s=>
  rw[ha]at ht hd;refine nR hd (fun e=> ?_)<|fun hb=> ?_
  ·subst e;unfold qB YY at ht;simp_all
  ·refine h env S w hΓ t ?_;unfold qB YY at ht;rw[List.find?_cons,qt<|fun e=>hb e.symm]at ht;exact ht
theorem aH{K:List (Tmp×Pr)}{Φ:Pr}{d:Option Tmp}(hd:yJ cx d=true)(h:CH cx K):CH cx (YY d Φ K):=by
 cases d with
 |none=>exact h
 |some s=>
  intro e he;rcases OY.1 he with rfl|he
  ·exact hd
  ·exact h e he
theorem eN(hT:ya P cf.tt)(hL:vd P cf.tt)(hC:∀s∈cf.cs,zQ P s)(hX:Vd P cf){all:List Oper}{k:Sg->Option R}{Γ:List FF}:∀{os:List Oper}{σ:Sg}{K:List (Tmp×Pr)},pA cf cx all os σ k=some r->
 fQ P vs Γ env0 cx σ K->CH cx K->σ.ob=σ0.ob->Bd cx σ->∃(Φs:List Pr) (σ':Sg),Φs.length=os.length/\Mf P all.toArray (OS vs fr cx σ0.ob) Γ env0 (os.zip Φs) K/\k σ'=some r/\fQ P vs Γ env0 cx σ' (aY (os.zip Φs) K)/\CH cx (aY (os.zip Φs) K)/\σ'.ob=σ0.ob/\Bd cx σ'
 |[],σ,K,h,hi,hn,ho,hB=>⟨[],σ,rfl,trivial,h,hi,hn,ho,hB⟩
 |o::os,σ,K,h,hi,hn,ho,hB=>by
  unfold pA at h;obtain⟨hd,h⟩:=zw h;obtain⟨σ1,b,h,hf,hx,hg,ha,hq⟩:=dn h hB;have hw:∀{env:yb}{S:Nat->Prop}{w:World},ze S Γ w->jE K env0 env S w (o.looksAt all.toArray)->zG all.toArray env o=b:=fun{env S w} hΓ hh=>hq P vs env S w fun t ht=>hi env S w hΓ t<|jk hh t ht;cases b
  ·have hb:fQ P vs Γ env0 cx (σ1.put o.dst [(0,.un)]) (YY o.dst (NN undef) K):=QX hd (fun env S w hΓ t ht=>ha P vs env S w t<|hi env S w hΓ t ht) fun S v w hv e he=>by obtain rfl:=OZ.1 he;exact hv
   obtain⟨Φs,σ',h1,h2,h3,h4,h5,h6,h7⟩:=eN hT hL hC hX (os:=os) h hb (aH hd hn) (hf.trans ho) (Z8 hg fun e he p hp=>by obtain rfl:=OZ.1 he;cases hp);refine⟨NN undef::Φs,σ',by simp[h1],⟨fun S w env hS hM hΓ hh=>⟨fun hc=> ?_,fun _=>rfl⟩,h2⟩,h3,h4,h5,h6,h7⟩;grind
  ·obtain⟨σ2,h,hr,hy,hs,hj⟩:=ls h hg;obtain⟨l,h,hu⟩:=nK (P:=P) (d:=o.dst) (ty:=o.type) (pos:=o.pos) (aft:=o.after) (g:=o.guard) (F:=fr.F) hT hL hC hX h;obtain⟨hl,h⟩:=zw h;have hk:∀env S w t,Lk P vs env S w cx σ t->Lk P vs env S w cx σ2 t:=fun env S w t ht=>hj P vs env S w t<|ha P vs env S w t ht;have hb:fQ P vs Γ env0 cx (σ2.put o.dst l) (YY o.dst (Bb P vs l) K):=QX hd (fun env S w hΓ t ht=>hk env S w t<|hi env S w hΓ t ht) fun S v w hv=>hv;have hm:σ2.ob=σ0.ob:=hr.trans<|hf.trans ho;obtain⟨Φs,σ',h1,h2,h3,h4,h5,h6,h7⟩:=eN hT hL hC hX (os:=os) h hb (aH hd hn) hm<|Z8 hs<|J5 hl;refine⟨Bb P vs l::Φs,σ',by simp[h1],⟨fun S w env hS hM hΓ hh=>⟨fun hc=> ?_,fun hc=> ?_⟩,h2⟩,h3,h4,h5,h6,h7⟩
   ·refine hu env w S vs hS (by rw[hm];exact hM) fun t ht=>hk env S w t<|hi env S w hΓ t<|jk hh t ?_;exact OX.2 (.inl ht)
   ·rw[hw hΓ hh]at hc;cases hc
end
end
theorem UD{l:List Oper}{D:Nat->Bool}(hd:∀j,D j=true->∀e∈(zt l j).after,Rf .any e=true->D e.on=true):∀(f j i:Nat),D j=true->xD l f j i=true->D i=true
 |0,j,i,hj,h=>by
  obtain⟨e,he,hb,rfl⟩:=vA h;grind
 |f+1,j,i,hj,h=>by
  unfold xD at h;rw[R2]at h;rcases h with h|h
  ·obtain⟨e,he,hb,rfl⟩:=vA h;grind
  ·rw[TM]at h;obtain⟨e,he,hb⟩:=h;rw[IR]at hb;exact UD hd f e.on i (hd j hj e (R8.1 he) hb.1) hb.2
section
def jU(al:Rb->Bool)(rs:List Rb):List (Nat×Od):=rs.filterMap fun r=>if al r=true then some (r.o,r.x)else none
def WG(i:Nat)(rs:List Rb):List (Nat×Od):=rs.filterMap fun r=>if r.c=some i then some (r.o,r.x)else none
def QG(i:Nat)(rs:List Rb):List (Nat×Od):=rs.filterMap fun r=>if r.a=some i then some (r.o,r.x)else none
def YG(i:Nat)(rs:List Rb):List (Nat×Od):=rs.filterMap fun r=>if i∈r.rd then some (r.o,r.x)else none
theorem bA{al al':Rb->Bool}{i:Nat}:∀{rs:List Rb},(∀r∈rs,(r.c=some i/\i∉r.rd/\r.a≠some i/\al r=true/\al' r=false)\/(r.a=some i/\r.c≠some i/\i∉r.rd/\al r=false/\al' r=true)\/
 (i∈r.rd/\r.c≠some i/\r.a≠some i/\al r=true/\al' r=true)\/(r.c≠some i/\r.a≠some i/\i∉r.rd/\al r=al' r))->
 ∃rest,(∀e∈rest,∃r∈rs,e=(r.o,r.x)/\al r=true/\al' r=true)/\(jU al rs).Perm (WG i rs++(YG i rs++rest))/\(jU al' rs).Perm (QG i rs++(YG i rs++rest))
 |[],_=>⟨[],fun e he=>absurd he UV,Su _,Su _⟩
 |r::rs,h=>by
  obtain⟨rest,h1,h2,h3⟩:=bA (rs:=rs) fun q hq=>h q<|H1 _ hq;have ha:∀e∈rest,∃q∈r::rs,e=(q.o,q.x)/\al q=true/\al' q=true:=fun e he=>by grind
  rcases h r (Nm)with⟨a1,a2,a3,a4,a5⟩|⟨a1,a2,a3,a4,a5⟩|⟨a1,a2,a3,a4,a5⟩|⟨a1,a2,a3,a4⟩
  ·refine⟨rest,ha,?_,?_⟩
   ·simp only[jU,WG,YG,Pf,a1,a2,a4,if_true,if_false,reduceIte]at h2⊢;simp_all
   ·simp only[jU,QG,YG,Pf,a3,a2,a5,if_false,reduceIte,Pd]at h3⊢;exact h3
  ·refine⟨rest,ha,?_,?_⟩
   ·simp only[jU,WG,YG,Pf,a2,a3,a4,if_false,reduceIte,Pd]at h2⊢;exact h2
   ·simp only[jU,QG,YG,Pf,a1,a3,a5,if_true,if_false,reduceIte]at h3⊢;exact h3.cons _
  ·refine⟨rest,ha,?_,?_⟩
   ·simp only[jU,WG,YG,Pf,a1,a2,a4,if_true,if_false,reduceIte]at h2⊢;exact(h2.cons _).trans P6.symm
   ·simp only[jU,QG,YG,Pf,a1,a3,a5,if_true,if_false,reduceIte]at h3⊢;exact(h3.cons _).trans P6.symm
  ·cases hb:al r with
   |false=>
    rw[hb]at a4;refine⟨rest,ha,?_,?_⟩
    ·simp only[jU,WG,YG,Pf,a1,a3,hb,if_false,reduceIte,Pd]at h2⊢;exact h2
    ·simp only[jU,QG,YG,Pf,a2,a3,<-a4,if_false,reduceIte,Pd]at h3⊢;exact h3
   |true=>
    rw[hb]at a4;refine⟨(r.o,r.x)::rest,fun e he=> ?_,?_,?_⟩
    ·rcases OY.1 he with rfl|he
     ·exact⟨r,Nm,rfl,hb,a4.symm⟩
     ·exact ha e he
    ·simp only[jU,WG,YG,Pf,a1,a3,hb,if_true,if_false,reduceIte]at h2⊢;rw[<-O2]at h2⊢;exact(h2.cons _).trans P6.symm
    ·simp only[jU,QG,YG,Pf,a2,a3,<-a4,if_true,if_false,reduceIte]at h3⊢;rw[<-O2]at h3⊢;exact(h3.cons _).trans P6.symm
def KV(P:Program)(vs:Nat->Value)(KL:List (Tmp×List (Nat×Dv))):List (Tmp×Pr):=KL.map fun e=>(e.1,Bb P vs e.2)
def JF(d:Option Tmp)(l:List (Nat×Dv))(KL:List (Tmp×List (Nat×Dv))):List (Tmp×List (Nat×Dv)):=match d with
 |some t=>(t,l)::KL
 |none=>KL
def uV:List (Oper×List (Nat×Dv))->List (Tmp×List (Nat×Dv))->List (Tmp×List (Nat×Dv))
 |[],K=>K
 |(o,l)::r,K=>uV r<|JF o.dst l K
def OL(P:Program)(vs:Nat->Value)(L:List (Oper×List (Nat×Dv))):List (Oper×Pr):=L.map fun e=>(e.1,Bb P vs e.2)
section
variable{P:Program}{vs:Nat->Value}
theorem pS{d:Option Tmp}{l:List (Nat×Dv)}{KL:List (Tmp×List (Nat×Dv))}:KV P vs (JF d l KL)=YY d (Bb P vs l) (KV P vs KL):=by cases d<;>rfl
theorem tC:∀(L:List (Oper×List (Nat×Dv))) (KL:List (Tmp×List (Nat×Dv))),KV P vs (uV L KL)=aY (OL P vs L) (KV P vs KL)
 |[],KL=>rfl
 |(o,l)::r,KL=>by
  show KV P vs (uV r<|JF o.dst l KL)=aY (OL P vs r) (YY o.dst (Bb P vs l)<|KV P vs KL);rw[tC r,pS]
end
def L3(P:Program)(ops:Array Oper)(we:World)(Se:Nat->Prop)(mE:List MF)(Γ:List FF)(env0:yb)(vs:Nat->Value)(n0:Nat)(rs:List Rb)(KL:List (Tmp×List (Nat×Dv)))(i:Nat)(o:Oper)(L:List (Nat×Dv))(I:Oi):Prop:=
 n0<=I.lo/\I.lo<=I.hi/\(∀e∈L,∀p,xz e.2=some p->p<I.hi/\p∈I.refs)/\(∀e∈QG i rs,e.1<I.hi)/\
 ∀vs',(∀p,p<n0->vs' p=vs p)->∀(env:yb) (F:List MF) (G:List FF) (w:World),St we Se (MS vs' (WG i rs++YG i rs)++(mE++F)) (Kz (KV P vs' KL) env0 env (o.looksAt ops)::(Γ++G)) w->
  (zG ops env o=true->xX P o env w (fun v w'=>∃vs2,(∀p,p<I.lo->vs2 p=vs' p)/\St we Se (MS vs2 (QG i rs)++(MS vs' (YG i rs)++(mE++F))) (GV P vs2 v L++(Γ++G)) w'))/\
  (zG ops env o=false->WG i rs=[]/\QG i rs=[]/\∀S w,ze S (GV P vs' undef L) w)
structure Mw(l:List Oper)(m:Nat)(rs:List Rb)(is:List Oi):Prop where
 a:∀r∈rs,∀j,r.a=some j->j<m/\∀i∈r.rd,xD l 16 i j=true
 c:∀r∈rs,∀k,r.c=some k->k<m/\(∀j,r.a=some j->xD l 16 k j=true)/\∀i∈r.rd,xD l 16 k i=true
 n:∀i I,is[i]? =some I->∀r∈rs,I.lo<=r.o->r.o<I.hi->∃j,r.a=some j/\(j=i\/xD l 16 j i=true)
 f:∀i I j J,is[i]? =some I->is[j]? =some J->∀p∈J.refs,I.lo<=p->p<I.hi->j=i\/xD l 16 j i=true
 uniq:∀i j t,i<m->j<m->i≠j->(zt l i).dst=some t->(zt l j).dst≠some t
theorem mg{l:List Oper}{m:Nat}{rs:List Rb}{is:List Oi}(h:Av l m rs is=true):Mw l m rs is:=by
 unfold Av at h;rw[IR,IR]at h;obtain⟨⟨hr,hn⟩,hu⟩:=h;have hb:∀i I,is[i]? =some I->BA l i I rs is.zipIdx=true:=fun i I hi=>Pe.1 hn (I,i)<|List.mem_zipIdx_iff_getElem?.2 hi;have inb:∀(I:Oi) (p:Nat),I.lo<=p->p<I.hi->Mh I p=true:=fun I p h1 h2=>by
  unfold Mh;simp_all
 refine⟨fun r ha j hj=> ?_,fun r ha k hk=> ?_,fun i I hi r ha h1 h2=> ?_,fun i I j J hi hj p hp h1 h2=> ?_,fun i j t hi hj hc hd he=> ?_⟩
 ·have:=Pe.1 hr r ha;simp_all
 ·have:=Pe.1 hr r ha;rw[IR]at this;have:=this.2;rw[hk]at this;simp only[IR,Pe]at this;refine⟨by have:=PC this.1.1;lia,fun j hj=> ?_,this.2⟩;have:=this.1.2;rw[hj]at this;exact this
 ·have:=hb i I hi;unfold BA at this;rw[IR]at this;have:=Pe.1 this.1 r ha;rw[inb I _ h1 h2,SC,Sa]at this;split at this
  ·next j hj=>
   rw[R2]at this;exact⟨j,hj,this.imp zr id⟩
  ·cases this
 ·have:=hb i I hi;unfold BA at this;rw[IR]at this;have:=Pe.1 this.2 (J,j)<|List.mem_zipIdx_iff_getElem?.2 hj;have:=Pe.1 this p hp;rw[inb I _ h1 h2,SC,Sa,R2]at this;exact this.imp zr id
 ·have:=Pe.1 (Pe.1 hu i<|PK.2 hi) j<|PK.2 hj;rw[qt hc,Sa,hd]at this;simp[he]at this
end
section
section
variable{P:Program}{N:Nd}{we:World}{Se:Nat->Prop}{ms:List MF}{Γ:List FF}{Q:Qs}{env0:yb}{l:List Oper}{m:Nat}
theorem lu{Lp:List (Oper×Pr)}(hc:∀i,i<m->∃Φ,Lp[i]? =some (zt l i,Φ))(ha:∀(i:Nat) (x:Oper×Pr),Lp[i]? =some x->i<m/\x.1=zt l i){D:Nat->Bool}{env:yb}{S:Nat->Prop}{w:World}{i:Nat}{t:Tmp}
 (hd:∀t,(∀i,i<m->D i=true->(zt l i).dst≠some t)->env t=env0 t) (hf:(Vt Lp D env).p S w) (hk:i<=m) (ht:∀j,j<m->(zt l j).dst=some t->(D j=true↔j<i)):qB (aY (Lp.take i) []) env0 env S w t:=by
 unfold qB;rcases XF t (Lp.take i) []with⟨j,y,g1,g2,g3,g4⟩|⟨g1,g2⟩
 ·rw[g4];rw[Rk]at g1;split at g1
  ·next hb=>
   obtain⟨hg,hy⟩:=ha j y g1;exact hf j y t ((ht j hg<|hy▸g2).2 hb) g1 g2
  ·cases g1
 ·rw[g2];refine hd t fun j hj hi he=> ?_;have hb:=(ht j hj he).1 hi;obtain⟨Φ,hΦ⟩:=hc j hj;exact g1 j (zt l j,Φ) (by rw[Rk,iq hb];exact hΦ) he
theorem sj(hc:jq l m=true){Lp:List (Oper×Pr)}(hm:∀i,i<m->∃Φ,Lp[i]? =some (zt l i,Φ))(hd:∀(i:Nat) (x:Oper×Pr),Lp[i]? =some x->i<m/\x.1=zt l i){D:Nat->Bool}{env:yb}{S:Nat->Prop}{w:World}{i:Nat}
 (hp:i<m) (hn:D i=false) (hf:∀e∈(zt l i).after,Rf .any e=true->D e.on=true) (hg:∀j,D j=true->∀e∈(zt l j).after,Rf .any e=true->D e.on=true)
 (ho:∀t,(∀i,i<m->D i=true->(zt l i).dst≠some t)->env t=env0 t) (hq:(Vt Lp D env).p S w):jE (aY (Lp.take i) []) env0 env S w (Pt l.toArray<|zt l i):=by
 obtain⟨h0,h1,h2,h3,hu⟩:=vP hc;have hv:i<l.length:=by lia
 have hi:∀t,t∈Pt l.toArray (zt l i)->∀j,j<m->(zt l j).dst=some t->j≠i->(D j=true↔j<i):=by
  intro t ht j hj hk hr;have h7:=h2 i j t hp hj hr hk (.inl ht);constructor
  ·intro hs;rcases Re j i with h|h
   ·exact h
   ·exfalso;obtain⟨e,he,hb,hl⟩:=vA (h7.2<|by lia);have h8:=hg j hs e he hb;rw[hl,hn]at h8;cases h8
  ·intro ha;obtain⟨e,he,hb,hl⟩:=vA<|h7.1 ha;have h8:=hf e he hb;rwa[hl]at h8
 exact uF _ fun t ht=>lu hm hd ho hq (by lia) fun j hj hk=>by
  by_cases ha:j=i
  ·subst ha;rw[hn];simp
  ·exact hi t ht j hj hk ha
def uZ(D:Nat->Bool)(r:Rb):Bool:=(match r.a with
 |none=>true
 |some j=>D j) && !(match r.c with
 |none=>false
 |some k=>D k)
theorem fI{D:Nat->Bool}{i:Nat}(ha:∀e∈(zt l i).after,Rf .any e=true->D e.on=true)(hc:∀j,D j=true->∀e∈(zt l j).after,Rf .any e=true->D e.on=true):∀(f j:Nat),xD l f i j=true->D j=true
 |0,j,h=>by
  obtain⟨e,he,hb,rfl⟩:=vA h;simp_all
 |f+1,j,h=>by
  unfold xD at h;rw[R2]at h;rcases h with h|h
  ·obtain⟨e,he,hb,rfl⟩:=vA h;simp_all
  ·rw[TM]at h;obtain⟨e,he,hb⟩:=h;rw[IR]at hb;exact UD hc f e.on j (ha e (R8.1 he) hb.1) hb.2
theorem KC{al al':Rb->Bool}:∀{rs:List Rb},(∀r∈rs,al r=al' r)->jU al rs=jU al' rs
 |[],_=>rfl
 |r::rs,h=>by
  have ih:=KC fun q hq=>h q<|H1 _ hq;unfold jU at ih⊢;grind
theorem St.mid{we:World}{Se:Nat->Prop}{A B:List MF}{m:MF}{Γ:List FF}{w:World}(h:St we Se (A++m::B) Γ w):St we Se (m::(A++B)) Γ w:=St.perm h P6
theorem St.dropM{we:World}{Se:Nat->Prop}{Γ:List FF}{w:World}:∀{A B C:List MF},St we Se (A++(B++C)) Γ w->St we Se (A++C) Γ w
 |A,[],C,h=>h
 |A,b::B,C,h=>St.dropM<|St.drop (i:=0)<|St.mid h
def iY(l:List Oper)(pn:Option Nat)(j:Nat):Bool:=match pn with
 |some i0=>OW j i0||xD l 16 j i0
 |none=>false
def uq(r:Rb):Bool:=r.a.isNone && r.c.isNone
def Mu(P:Program)(ops:Array Oper)(we:World)(Se:Nat->Prop)(mE:List MF)(Γ:List FF)(env0:yb)(vs:Nat->Value)(n0:Nat)(q:PX)(rs:List Rb)(KL:List (Tmp×List (Nat×Dv)))(i:Nat)(o:Oper):Prop:=
 ∀vs',(∀p,p<n0->vs' p=vs p)->∀(env:yb) (F:List MF) (G:List FF) (w:World),St we Se (MS vs' (WG i rs)++(mE++F)) (Kz (KV P vs' KL) env0 env (o.looksAt ops)::(Γ++G)) w->
  zG ops env o=true/\Al P o env w (fun ch w'=>ch=XU q/\St we Se (mE++F) (Γ++G) w')
theorem Wy{p:Rb->Bool}{r:Rb}{rs:List Rb}:jU p (r::rs)=bif p r then(r.o,r.x)::jU p rs else jU p rs:=by
 unfold jU;grind
theorem Jg{p q:Rb->Bool}:∀{rs:List Rb},(∀r∈rs,p r=true->q r=true)->(jU q rs).Perm (jU p rs++jU (fun r=>q r && !p r) rs)
 |[],_=>Su _
 |r::rs,h=>by
  have ih:=Jg fun q hq=>h q<|H1 _ hq;rw[Wy,Wy,Wy]
  cases hp:p r with
  |false=>
   cases hq:q r with
   |false=>exact ih
   |true=>exact(TA _ ih).trans P6.symm
  |true=>
   simp_all
theorem Fq{i:Nat}:∀{rs:List Rb},WG i rs=jU (fun r=>decide<|r.c=some i) rs
 |rs=>by unfold WG jU;simp only[decide_eq_true_eq]
theorem mZ{D:Nat->Bool}{i:Nat}{rs:List Rb}(ha:D i=false)(hc:∀r∈rs,r.c=some i->uZ D r=true)(hk:∀r∈rs,uq r=true->uZ D r=true/\r.c≠some i):
 (jU (uZ D) rs).Perm (WG i rs++(jU uq rs++jU (fun r=> !decide (r.c=some i) && uZ D r && !uq r) rs)):=by
 rw[Fq];refine(Jg fun r hr h=>hc r hr<|of_decide_eq_true h).trans<|Pw _ ?_;have:=Jg (p:=uq) (q:=fun r=> !decide (r.c=some i) && uZ D r) (rs:=rs) fun r hr h=>by simp[(hk r hr h).1,(hk r hr h).2]
 grind
theorem Au{id:Nat}{mE:List MF}(pn:Option Nat)(q:PX)(m:Nat)(Ls:List (List<|Nat×Dv))(is:List Oi)(rs:List Rb)(ts:List Tmp)(vs:Nat->Value)(n0:Nat)(hm:P.follows .mixedOrders=true)(hc:jq l m=true)(hl:Ls.length=m)(hil:is.length=m)(hx:Av l m rs is=true)
 (hms:MS vs (jU (fun r=>r.a.isNone) rs)++mE=ms) (hd:(l.all fun o=>xr N.n o.dst)=true) (hO:∀i0,pn=some i0->i0<m)
 (hP:∀i x I,((l.take m).zip Ls)[i]? =some x->is[i]? =some I->iY l pn i=false->L3 P l.toArray we Se mE Γ env0 vs n0 rs (uV (((l.take m).zip Ls).take i) []) i x.1 x.2 I)
 (h4:∀i0 x,pn=some i0->((l.take m).zip Ls)[i0]? =some x->YG i0 rs=[]/\Mu P l.toArray we Se mE Γ env0 vs n0 q rs (uV (((l.take m).zip Ls).take i0) []) i0 x.1)
 (finP:pn.isSome=true->∀(env:yb) (w:World) (vs':Nat->Value),(∀p,p<n0->vs' p=vs p)->(∀t,(∀i,i<m->(zt l i).dst≠some t)->env t=env0 t)->St we Se (MS vs' (jU uq rs)++mE) Γ w->Q (.panic<|XU q) env w)
 (fin:pn=none->∀(env:yb) (w:World) (vs':Nat->Value),(∀p,p<n0->vs' p=vs p)->St we Se (MS vs' (jU (fun r=>r.c.isNone) rs)++mE) (Kz (KV P vs'<|uV ((l.take m).zip Ls) []) env0 env ts::Γ) w->Aq P N l.toArray (l.drop m) Q env w):
 T P N we Se ms Γ (.region id l.toArray true) Q env0:=by
 obtain⟨h0,h1,h2,h3,h3'⟩:=vP hc;have hp:=mg hx;obtain⟨L,hL⟩:∃L,L=(l.take m).zip Ls:=⟨_,rfl⟩;rw[<-hL]at hP h4 fin;have hLl:L.length=m:=by rw[hL];simp;lia
 have hQ:∀i,i<m->∃x,L[i]? =some (zt l i,x):=fun i hi=>by
  have hil:i<l.length:=Pc hi h0;have hidx:i<Ls.length:=hl.symm▸hi;refine⟨Ls[i]'(hidx),?_⟩;rw[hL,S6];refine⟨?_,by simp⟩;rw[Rk,iq hi];simp[zt,hil]
 have hR:∀i x,L[i]? =some x->i<m/\x.1=zt l i:=fun i x hx=>by
  have hi:i<m:=by have:=(O4.1 hx).1;lia
  obtain⟨Φ,h⟩:=hQ i hi;rw[h]at hx;cases hx;exact⟨hi,rfl⟩
 have opre:∀vs' i,i<m->∃Φ,(OL P vs' L)[i]? =some (zt l i,Φ):=fun vs' i hi=>by
  obtain⟨x,h⟩:=hQ i hi;exact⟨_,by rw[OL,Rz,h];rfl⟩
 have opre':∀vs' (i:Nat) (x:Oper×Pr),(OL P vs' L)[i]? =some x->i<m/\x.1=zt l i:=fun vs' i x hx=>by
  rw[OL,Rz]at hx
  cases hy:L[i]? with
  |none=>rw[hy]at hx;cases hx
  |some y=>rw[hy]at hx;cases hx;exact hR i y hy
 refine GJ m (fun D env w=>(∀j,D j=true->iY l pn j=false)/\(∀t,(∀i,i<m->D i=true->(zt l i).dst≠some t)->env t=env0 t)/\∃vs',(∀p,p<n0->vs' p=vs p)/\St we Se (MS vs' (jU (uZ D) rs)++mE) (Γ++[Vt (OL P vs' L) D env]) w) hm hc hd ?_ ?_ ?_
 ·intro w hw;refine⟨fun _ hj=>(by cases hj),fun t _=>rfl,vs,fun _ _=>rfl,?_⟩;have:uZ (fun _=>false)=fun r=>r.a.isNone:=by
   funext r;unfold uZ;cases r.a<;>cases r.c<;>rfl
  rw[this,hms];exact hw.weak fun S w h=>ze.append h ⟨fun i x t hi=>(by cases hi),trivial⟩
 ·rintro D i env w hY hq hlow hS hC ⟨hT,hu,vs',hM,hU⟩;have hil':i<l.length:=by lia
  obtain⟨x,h7⟩:=hQ i hY;obtain⟨I,hI⟩:∃I,is[i]? =some I:=⟨_,Pb<|by lia⟩;have hb:∀j,xD l 16 i j=true->D j=true:=fun j hj=>fI hS hC 16 j hj;have hZ:∀k,D k=true->xD l 16 k i≠true:=fun k hk hr=>by
   have:=UD hC 16 k i hk hr;rw[hq]at this;cases this
  have hH:∀S:Nat->Prop,∀w:World,(Vt (OL P vs' L) D env).p S w->jE (KV P vs'<|uV (L.take i) []) env0 env S w (Pt l.toArray<|zt l i):=fun S w h8=>by
   rw[tC];have:=sj hc (opre vs') (opre' vs') hY hq hS hC hu h8;rw[show OL P vs' (L.take i)=(OL P vs' L).take i by unfold OL;rw[List.map_take]];exact this
  by_cases hD:iY l pn i=true
  ·obtain⟨i0,rfl⟩:∃i0,pn=some i0:=by cases pn with
    |none=>cases hD
    |some i0=>exact⟨i0,rfl⟩
   have hsf:iY l (some i0) i0=true:=by simp[iY]
   have hi0:i=i0:=by
    simp only[iY,R2]at hD;rcases hD with h|h
    ·exact zr h
    ·exact absurd (hT i0<|hb i0 h)<|by rw[hsf];exact Bool.noConfusion
   subst hi0;obtain⟨hr0,hN⟩:=h4 i _ rfl h7;have hcl:∀r∈rs,r.c=some i->uZ D r=true:=fun r hr hf=>by
    unfold uZ;rw[hf];simp only[hq,S7,Bool.and_true]
    cases ha:r.a with
    |none=>rfl
    |some j=>exact hb j<|(hp.c r hr i hf).2.1 j ha
   have hO:=mZ (D:=D) (i:=i) hq hcl (fun r hr h=>by
    simp only[uq,IR,Option.isNone_iff_eq_none]at h;refine⟨?_,by rw[h.2];exact fun e=>by cases e⟩;unfold uZ;rw[h.1,h.2];rfl)
   have hv:St we Se (MS vs' (WG i rs)++(mE++(MS vs' (jU uq rs)++MS vs' (jU (fun r=> !decide (r.c=some i) && uZ D r && !uq r) rs)))) (Kz (KV P vs'<|uV (L.take i) []) env0 env (Pt l.toArray<|zt l i)::(Γ++[Vt (OL P vs' L) D env])) w:=by
    refine St.weak (hU.perm ?_) fun S w h=>⟨hH S w (ze.right (Γ:=Γ) h).1,h⟩;have e1:(MS vs'<|jU (uZ D) rs).Perm (MS vs' (WG i rs)++(MS vs' (jU uq rs)++MS vs' (jU (fun r=> !decide (r.c=some i) && uZ D r && !uq r) rs))):=by
     unfold MS;rw[<-PS,<-PS];exact hO.map _
    refine(SJ mE e1).trans ?_;rw[O2];exact Pw _ Sr
   obtain⟨hw1,hop⟩:=hN vs' hM env _ [Vt (OL P vs' L) D env] w hv;refine⟨fun _=> .inr<|hop.mono fun ch w' ⟨hch,hs⟩=> ?_,fun hw=>(by rw[hw1]at hw;cases hw)⟩;subst hch;refine finP rfl env w' vs' hM (fun t ht=>hu t fun j hj _=>ht j hj) ?_;refine St.weak (Γ:=Γ++[Vt (OL P vs' L) D env]) ?_ fun S w h=>ze.left h;have h1:St we Se ([]++(MS vs' (jU (fun r=> !decide (r.c=some i) && uZ D r && !uq r) rs)++(MS vs' (jU uq rs)++mE))) (Γ++[Vt (OL P vs' L) D env]) w':=by
    refine hs.perm ?_;rw[P1,<-O2,<-O2];exact(Sr.trans<|Pw _ Sr).trans<|List.Perm.of_eq (O2 ..).symm
   exact St.dropM (A:=[]) h1
  have hD:iY l pn i=false:=by simpa using hD
  obtain⟨o1,o2,o3,o4,hN⟩:=hP i _ I h7 hI hD
  have h5:∀r∈rs,(r.c=some i/\i∉r.rd/\r.a≠some i/\uZ D r=true/\uZ (Jr D i) r=false)\/(r.a=some i/\r.c≠some i/\i∉r.rd/\uZ D r=false/\uZ (Jr D i) r=true)\/
   (i∈r.rd/\r.c≠some i/\r.a≠some i/\uZ D r=true/\uZ (Jr D i) r=true)\/(r.c≠some i/\r.a≠some i/\i∉r.rd/\uZ D r=uZ (Jr D i) r):=by
   intro r hr;have hE:xD l 16 i i≠true:=fun h=>by have:=hb i h;rw[hq]at this;cases this
   have hA:∀j,j≠i->Jr D i j=D j:=fun j hj=>KH hj;by_cases hf:r.c=some i
   ·obtain⟨c1,c2,c3⟩:=hp.c r hr i hf;have hB:i∉r.rd:=fun h=>hE<|c3 i h;have hg:r.a≠some i:=fun h=>hE<|c2 i h;refine .inl ⟨hf,hB,hg,?_,?_⟩
    ·unfold uZ;rw[hf];simp only[hq,S7,Bool.and_true]
     cases ha:r.a with
     |none=>rfl
     |some j=>exact hb j<|c2 j ha
    ·unfold uZ;rw[hf];simp only[Wz,SC,Bool.and_false]
   ·by_cases hg:r.a=some i
    ·obtain⟨a1,a2⟩:=hp.a r hr i hg;have hB:i∉r.rd:=fun h=>hE<|a2 i h;refine .inr (.inl ⟨hg,hf,hB,?_,?_⟩)
     ·unfold uZ;rw[hg];simp only[hq,Bool.false_and]
     ·unfold uZ;rw[hg];simp only[Wz,Bool.true_and]
      cases hn:r.c with
      |none=>rfl
      |some k=>
       simp only;rw[hA k<|fun e=>hf<|by rw[hn,e]]
       cases h9:D k with
       |false=>rfl
       |true=>exact absurd ((hp.c r hr k hn).2.1 i hg)<|hZ k h9
    ·have h':∀k,r.c=some k->i∈r.rd->D k=false:=fun k hk hi=>by
      cases h9:D k with
      |false=>rfl
      |true=>exact absurd ((hp.c r hr k hk).2.2 i hi)<|hZ k h9
     have hV:uZ (Jr D i) r=uZ D r:=by
      unfold uZ
      cases ha:r.a with
      |none=>
       cases hn:r.c with
       |none=>rfl
       |some k=>simp only;rw[hA k<|fun e=>hf<|by rw[hn,e]]
      |some j=>
       cases hn:r.c with
       |none=>simp only;rw[hA j<|fun e=>hg<|by rw[ha,e]]
       |some k=>simp only;rw[hA j (fun e=>hg<|by rw[ha,e]),hA k<|fun e=>hf<|by rw[hn,e]]
     by_cases hB:i∈r.rd
     ·have:uZ D r=true:=by
       unfold uZ;have e1:(match r.c with|none=>false|some k=>D k)=false:=by
        cases hn:r.c with
        |none=>rfl
        |some k=>exact h' k hn hB
       rw[e1];simp only[S7,Bool.and_true]
       cases ha:r.a with
       |none=>rfl
       |some j=>exact hb j<|(hp.a r hr j ha).2 i hB
      exact .inr (.inr (.inl ⟨hB,hf,hg,this,hV.trans this⟩))
     ·exact .inr (.inr (.inr ⟨hf,hg,hB,hV.symm⟩))
  obtain⟨rest,hrest,p1,p2⟩:=bA h5;have hv:St we Se (MS vs' (WG i rs++YG i rs)++(mE++MS vs' rest)) (Kz (KV P vs'<|uV (L.take i) []) env0 env (Pt l.toArray<|zt l i)::(Γ++[Vt (OL P vs' L) D env])) w:=by
   refine St.weak (hU.perm ?_) fun S w h=>⟨hH S w (ze.right (Γ:=Γ) h).1,h⟩;have e1:(MS vs'<|jU (uZ D) rs).Perm (MS vs' (WG i rs++YG i rs)++MS vs' rest):=by
    unfold MS;rw[<-PS,O2];exact p1.map _
   refine(SJ mE e1).trans ?_;rw[O2];exact Pw _ Sr
  have hN:=hN vs' hM env (MS vs' rest) [Vt (OL P vs' L) D env] w hv;have h6:∀(v:Value) (t:Tmp),(∀i',i'<m->Jr D i i'=true->(zt l i').dst≠some t)->put env (zt l i).dst v t=env0 t:=fun v t ht=>by
   rw[ZX<|ht i hY<|Wz D i];exact hu t fun j hj hDj=>ht j hj<|Br hDj
  have close:∀(v:Value) (w':World) (vs2:Nat->Value),(∀p,p<I.lo->vs2 p=vs' p)->St we Se (MS vs2 (QG i rs)++(MS vs' (YG i rs)++(mE++MS vs' rest))) (GV P vs2 v x++(Γ++[Vt (OL P vs' L) D env])) w'->
   ∃vs3,(∀p,p<n0->vs3 p=vs p)/\St we Se (MS vs3 (jU (uZ<|Jr D i) rs)++mE) (Γ++[Vt (OL P vs3 L) (Jr D i)<|put env (zt l i).dst v]) w':=by
   intro v w' vs2 hv2 hs;have e3:∃vs3:Nat->Value,vs3=fun p=>if I.lo<=p/\p<I.hi then vs2 p else vs' p:=⟨_,rfl⟩;obtain⟨vs3,e3⟩:=e3;have hW:∀p,p<I.hi->vs3 p=vs2 p:=fun p hp=>by
    rw[e3];simp only;split
    ·rfl
    ·next hc=>exact(hv2 p<|by lia).symm
   have hF:∀p,¬(I.lo<=p/\p<I.hi)->vs3 p=vs' p:=fun p hp=>by
    rw[e3];exact ir hp
   refine⟨vs3,fun p hp=>(hF p<|by lia).trans<|hM p hp,?_⟩;have hG:∀r∈rs,uZ D r=true->vs3 r.o=vs' r.o:=fun r hr hG=>hF r.o fun⟨g1,g2⟩=>by
    obtain⟨j,hj,hji⟩:=hp.n i I hI r hr g1 g2;unfold uZ at hG;rw[hj,IR]at hG;rcases hji with rfl|hji
    ·have:=hG.1;simp only at this;rw[hq]at this;cases this
    ·exact hZ j hG.1 hji
   have m1:MS vs3 (QG i rs)=MS vs2 (QG i rs):=yY fun e he=>hW e.1<|o4 e he;have m2:MS vs3 (YG i rs)=MS vs' (YG i rs):=yY fun e he=>by
    obtain⟨r,hr,hre⟩:=Sq.1 he;split at hre
    ·next hi=>
     cases hre;rcases h5 r hr with⟨a1,a2,_⟩|⟨a1,a2,a3,_⟩|⟨a1,a2,a3,a4,_⟩|⟨a1,a2,a3,_⟩
     ·exact absurd hi a2
     ·exact absurd hi a3
     ·exact hG r hr a4
     ·exact absurd hi a3
    ·cases hre
   have m3:MS vs3 rest=MS vs' rest:=yY fun e he=>by
    obtain⟨r,hr,rfl,h1,_⟩:=hrest e he;exact hG r hr h1
   have hO:(MS vs3 (jU (uZ<|Jr D i) rs)++mE).Perm (MS vs2 (QG i rs)++(MS vs' (YG i rs)++(mE++MS vs' rest))):=by
    rw[<-m1,<-m2,<-m3];have e1:(MS vs3<|jU (uZ<|Jr D i) rs).Perm (MS vs3 (QG i rs)++(MS vs3 (YG i rs)++MS vs3 rest)):=by
     unfold MS;rw[<-PS,<-PS];exact p2.map _
    refine(SJ mE e1).trans ?_;rw[O2,O2];exact Pw _<|Pw _ Sr
   refine St.weak (hs.perm hO.symm) fun S w2 h=> ?_;have hΓ:=ze.right h;refine ze.append (ze.left hΓ) ⟨?_,trivial⟩;have h8:=(ze.right hΓ).1;intro j y t hj hy ht;rw[OL,Rz]at hy
   cases hz:L[j]? with
   |none=>rw[hz]at hy;cases hy
   |some z=>
    rw[hz]at hy;cases hy;obtain⟨hjm,hzo⟩:=hR j z hz;by_cases hji:j=i
    ·subst hji;rw[h7]at hz;cases hz;have ht':(zt l j).dst=some t:=ht;show(Bb P vs3 x).p S (put env (zt l j).dst v t) w2;rw[ht',Vf];intro e he;have:=wg.1 (ze.left h) _<|O8.2 ⟨e,he,rfl⟩;have hc':xG P vs3 e.2 v e.1=xG P vs2 e.2 v e.1:=by
      unfold xG;simp only[YC (P:=P) (vs':=vs3) (vs:=vs2) (d:=e.2) fun o ho=>hW o (o3 e he o ho).1]
     rw[hc'];exact this
    ·rw[KH hji]at hj;have hne:(zt l i).dst≠some t:=hp.uniq j i t hjm hY hji<|hzo▸ht;show(Bb P vs3 z.2).p S (put env (zt l i).dst v t) w2;rw[ZX hne];intro e he;have:=h8 j (z.1,Bb P vs' z.2) t hj (by rw[OL,Rz,hz];rfl) ht;have:=this e he;obtain⟨J,hJ⟩:∃J,is[j]? =some J:=⟨_,Pb<|by lia⟩;obtain⟨_,_,q3,_,_⟩:=hP j _ J hz hJ<|hT j hj;have hc':xG P vs3 e.2 (env t) e.1=xG P vs' e.2 (env t) e.1:=by
      unfold xG;simp only[YC (P:=P) (vs':=vs3) (vs:=vs') (d:=e.2) fun o ho=>hF o fun⟨g1,g2⟩=>by
       rcases hp.f i I j J hI hJ o (q3 e he o ho).2 g1 g2 with h|h
       ·exact hji h
       ·exact hZ j hj h]
     rw[hc'];exact this
  have hX:∀j,Jr D i j=true->iY l pn j=false:=fun j hj=>by
   by_cases h:j=i
   ·rw[h];exact hD
   ·rw[KH h]at hj;exact hT j hj
  refine⟨fun hw=> .inl<|(hN.1 hw).mono fun v w' ⟨vs2,hv2,hs⟩=>⟨hX,h6 v,close v w' vs2 hv2 hs⟩,fun hw=>⟨hX,h6 undef,?_⟩⟩;obtain⟨g1,g2,g3⟩:=hN.2 hw;refine close undef w vs' (fun _ _=>rfl) ?_;rw[g1,P1]at hv;rw[g2];refine St.weak (show St we Se (MS vs' []++(MS vs' (YG i rs)++(mE++MS vs' rest))) _ w from hv) fun S w h=>ze.append (g3 S w) h.2
 ·rintro D env w hK hlow ⟨hT,hu,vs',hM,hU⟩;have hpn:pn=none:=by
   cases pn with
   |none=>rfl
   |some i0=>exact absurd (hT i0<|hK i0<|hO i0 rfl)<|by simp[iY]
  refine fin hpn env w vs' hM ?_;have hav:jU (uZ D) rs=jU (fun r=>r.c.isNone) rs:=by
   refine KC fun r hr=> ?_;have:uZ D r=r.c.isNone:=by
    unfold uZ;have e1:(match r.a with|none=>true|some j=>D j)=true:=by
     cases ha:r.a with
     |none=>rfl
     |some j=>exact hK j (hp.a r hr j ha).1
    rw[e1]
    cases hn:r.c with
    |none=>rfl
    |some k=>simp only[hK k (hp.c r hr k hn).1];rfl
   exact this
  rw[hav]at hU;refine hU.weak fun S w h=>⟨?_,ze.left h⟩;refine uF ts fun t _=> ?_;have:=lu (i:=m) (t:=t) (opre vs') (opre' vs') hu (ze.right (Γ:=Γ) h).1 (O3 m) fun j hj _=>⟨fun _=>hj,fun _=>hK j hj⟩;rw[tC];rwa[P3<|by unfold OL;rw[Rp];lia]at this
end
end
end Go.Proofs.YtbaoeefdjpaomaaGreatDoor
