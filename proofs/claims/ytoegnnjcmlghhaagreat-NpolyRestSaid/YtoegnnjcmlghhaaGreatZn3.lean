/- What a proof needs: rules of walking, mirrors of functions and their plain laws. No condition. -/
import Derived.Test.YtoegnnjcmlghhaaGreatZn2
import Derived.RangeFuncLeaves
set_option linter.all false
namespace Go.Proofs.YtoegnnjcmlghhaaGreat
open Bool renaming false->I,true->qR
open Go renaming Value->jp,World->jP,TypeId->ut,Operand->uL,execOp->uT,Program->Z2,undef->XS,Oper->Wd,FuncId->Wf,Tmp->Wn,Code->Wt,resolve->WR,wpListIn->V1,invoke->V3,Act->QR,maxLen->JP,asIntOf->UL,builtin->am,Addr->aC,Loop->li,Exit->lm,goInt->pU,Deferred->rW
open Go.Proofs.YtoegnnjcmlghhaaGreat renaming bd->G,za->Y,Zr->U,nm->B,ze->F,iq->E,zf->S,ir->P
open List renaming length->X,length->A2
open Nat renaming beq->Q
open Option renaming some->Z,none->wW
open _root_ renaming rfl->O,List->N,Int->J,Nat->K,Option->V,List->wF,Nat->wP,Option->wS,absurd->kW,trivial->ul,Bool->uS,funext->Z0,Array->Z5,True->Ws,reduceCtorEq->WT,reduceIte->UP,False->UT
open Deferred renaming ofValue->xda
open Instr renaming slice->xfS,sliceAt->xcZ,sliceBound->xeL,sliceBounds->xeA
open List renaming drop->xdT,filterMap_cons->xaR,filterMap_eq_nil_iff->xex,getD->xeN,getElem?_append_left->xbi,length->xaK,map_congr_left->xch,perm_append_comm->xen,set->xga,take->xdH,take_of_length_le->xaY
open List.Perm renaming append_right->xeP,cons->xfB,refl->xdD,swap->xdY
open Nat renaming beq->xak,blt->xde,eq_of_beq_eq_true->xdF,lt_of_lt_of_le->xac
open Op renaming operands->xaC
open Oper renaming looksAt->xbn
open Region renaming binds->xcu
open Result renaming andThen_ok->xaq
open Sem renaming run_bind->xay,run_pure->xaX
open Sum renaming elim->xfj
open Value renaming bool->xeO,cells->xeG
open _root_.Array renaming getElem?_eq_some_iff->xbk,mem_toList_iff->xdS
def WP:=@of_decide_eq_true
def xaU:=@List.map_append
def xbL:=@Nat.le_add_right
def xbQ:=@List.take_length
def xbp:=@List.Perm.append_left
def xce:=@List.perm_middle
def xdO:=@Nat.lt_succ_self
def xdp:=@Nat.zero_lt_one
def xeK:=@List.map_take
def xed:=@List.perm_append_comm_assoc
def xfE:=@List.getElem?_toArray
def xfI:=@List.filter_cons
section
section
variable{P:Z2}{cf:Cf}{fr:Fr}{cx σ:Sg}{vs mK:wP->jp}{H:xr}{w:jP}{R:Type}{r:R}
 {d:wS Wn}{ty t yt:ut}{wl:String}{wn:Z5 Edge}{g:wS (wP×uS)}{x y:uL}
theorem VR{ob:N (K×Od)}{o:K}{X Y:Od}(h:xH ob o=Z X):∀e∈kL ob o Y,∃a∈ob,a.1=e.1:=by grind [vm]
def ZB:∀{ob:N (K×Od)}{o:K},∀e∈yI ob o,e∈ob
 |(a,X)::r,o,e,he=>by
  unfold yI at he;cases b:Q a o<;>rw[b]at he
  obtain rfl|he:=xal.1 he
  simp_all;exact FS _<|ZB e he;simp_all
def iw{o:K}{X Y:Od}{v:jp}(b:Bd cx σ)(c:xH σ.ob o=Z X)(f:St fr.we fr.Se (OS vs fr cx<|kL σ.ob o Y) (GS P vs H fr cx σ) w):nV P fr cx σ.nx vs ⟨σ.nx,σ.rg,kL σ.ob o Y⟩ (put H wW v) w:=by refine Kq (Γl:=[]) b O O (Nm _) (λ_ _=>O) (λ_ a=>kW a H1) (λe a=> ?_) (λS w _ e a=>kW a H1) f;have⟨h,h1,i⟩:=VR c e a;rw[<-i];exact b.o1 h h1
def set_set{α:Type _}(l:N α)(i:K)(a b:α):(l.set i a).set i b=l.set i b:=m7
theorem vH{α:Type _}{l:N α}{i:K}{a b:α}(h:l[i]? =Z a):(l.set i b)[i]? =Z b:=by grind
def AL{α:Type _}:∀(l:N α) (i:K) (a:α),(l.set i a).eraseIdx i=l.eraseIdx i
 |[],_,_=>by simp
 |_::_,0,_=>rfl
 |b::l,i+1,a=>by simp[AL l i a]
def py{α:Type}{e:zZ α}{E:ut}{xs:N α}{v:jp}{S:K->Prop}{b n cap:K}(h:(mO e E v xs).p S w)(hv:v=.slice (Z ⟨b,0,wW⟩) n cap):n=X xs:=by
 have⟨cs,c,i⟩:=h;rcases c.2 with⟨h,j⟩|⟨k,a,f,h,_⟩
 simp_all;simp_all
def zkk(hT:y6 P cf.tt){k:Sg->V R}{s:TI}(hC:YF cf t=Z s)(h:zbk σ s.ty (xG cx σ x) (xG cx σ y) k=Z r):lK P cx ⟨wW,.store t x y,ty,wl,wn,g⟩ σ k r:=by
 have⟨Y,u,_⟩:=Xj hT hC;unfold zbk at h;split at h;rename_i o _ A;split at h;rename_i M E z l;have⟨hD,h1⟩:=yv h;subst hD;have⟨q,h,B⟩:=Qg h1;refine⟨_,h,Nm _,λfr vs H w C=> ?_⟩;have⟨D,hd⟩:=C;have⟨S0,_,e⟩:=hd.ex;have⟨i,hi,F,ht⟩:=vm l;have a:(OS vs fr cx σ.ob)[i]? =Z (mP s.ty.rep.c E (vs o) z):=JX hi;have⟨b,hv,G⟩:=hd.openP i a;have⟨J,_⟩:=zj A<|zO e x;refine(uV (f:=s.ty.rep) (z':=z) (y':=q) (up:=id) i (vH a) (J.trans hv) O (Sub.self s.ty.rep z) u (λS w K=>B P vs H S w<|zO K y) w G).mono ?_;rintro v w' ⟨_,rfl,_,hl⟩;refine iw (vs:=vs) D l ?_;have m:=hl.toP i<|vH<|vH a;rw[set_set,set_set,<-hv]at m;rw[F];show St _ _ (MS vs (σ.ob.set i (o,.var s.ty E q))++_) _ _;rw[<-E6 hi];exact m;cases h
 rename_i o p f A;split at h;rename_i M E z hc l _;have⟨N,h1⟩:=yv h;subst N;have⟨q,Q,B⟩:=Qg h1;have⟨z2,T,h⟩:=wX Q;have⟨hc⟩:=hc;refine⟨_,h,Nm _,λfr vs H w C=> ?_⟩;have⟨D,hd⟩:=C;have⟨S0,_,e⟩:=hd.ex;have⟨i,hi,F,ht⟩:=vm l;have a:(OS vs fr cx σ.ob)[i]? =Z (mP M.rep.c E (vs o) z):=JX hi;have⟨b,hv,G⟩:=hd.openP i a;have⟨U,b',L,J⟩:=zj A<|zO e x;rw[hv]at L;cases L;rw[<-hc]at u;refine(uV (f:=f.f.rep) (z':=f.get z) (y':=q) (up:=λy=>f.set y z) i (vH a) J O (by rw[xaM];exact U z) u (λS w K=>B P vs H S w<|zO K y) w G).mono ?_;rintro v w' ⟨_,rfl,_,hl⟩;refine iw (vs:=vs) D l ?_;have m:=hl.toP i<|vH<|vH a;rw[set_set,set_set,<-hv,<-T]at m;rw[F];show St _ _ (MS vs (σ.ob.set i (o,.var M E z2))++_) _ _;rw[<-E6 hi];exact m
 cases h
 rename_i o p j f A;split at h;rename_i M E xs hc l _;have⟨N,h1⟩:=yv h;cases N;have⟨q,Q,B⟩:=Qg h1;have⟨z2,T,h⟩:=wX Q;have⟨hc⟩:=hc;refine⟨_,h,Nm _,λfr vs H w C=> ?_⟩;have⟨D,hd⟩:=C;have⟨S0,_,e⟩:=hd.ex;have⟨i,hi,F,ht⟩:=vm l;have a:(OS vs fr cx σ.ob)[i]? =Z (mO p.rep E (vs o) xs):=JX hi;have⟨U,b,n,cap,hv,hj,J⟩:=zj A<|zO e x;have hn:n=xaK xs:=wI hd a λS hp=>py hp hv;subst hn;have⟨b',a0,L,hE,hF,G⟩:=hd.openO i a<|xaI (xah _) hj;rw[hv]at L;cases L;rw[<-hc]at u;have hA:=(Sub.rowT0 p.rep cap xs j (xeN xs j p.z)<|getD_some p.z hj).comp<|U<|xeN xs j p.z;refine(uV (f:=f.f.rep) (y':=q) i (vH a) J O hA u (λS w K=>B P vs H S w<|zO K y) w G).mono ?_;rintro v w' ⟨_,rfl,_,hl⟩;refine iw (vs:=vs) D l ?_;have hu:X (xga xs j<|f.set q<|xeN xs j p.z)=xaK xs:=xaP ..;have m:=hl.closeF i (vH<|vH a) (by rw[hu];exact hE) hF;rw[set_set,set_set,hu,<-hv,<-T]at m;rw[F];show St _ _ (MS vs (σ.ob.set i (o,.own p E z2))++_) _ _;rw[<-E6 hi];exact m
 cases h
 cases h
def zhQ{b:ut}{ag:uS}{e bytes:K}{a:jp}{hi:uL}(f:ev H x=.slice wW 0 0)(ht:P.underlying t=Z (.slice b))(hc:JN P b ag e bytes a)
 (h:ev H hi=.int .i64 ((0:K):J)) (w:jP):(uT (ev H) ⟨d,.slice t x wW (Z hi) wW,ty,wl,wn,g⟩).run P w=.ok (.value (.slice wW 0 0)) w:=by
 have c:(xcZ t (.slice wW 0 0) wW (Z (.int .i64 0)) wW).run P w=.ok (.slice wW 0 0) w:=by unfold xcZ;unfold xfS;simp only[xay,Z3 ht,xaq];unfold xeA;simp[xeL,UL,wE hc]
 simp[uT,f,h]at c⊢;simp[c]
def znM{i o:K}{X:Od}{Y:MF}(hi:σ.ob[i]? =Z (o,X))(a:yI σ.ob o=σ.ob.eraseIdx i){Γ:N FF}(h:St fr.we fr.Se ((OS vs fr cx σ.ob).set i Y) Γ w):St fr.we fr.Se (Y::OS vs fr cx (yI σ.ob o)) Γ w:=by have:=St.front i h<|vH<|JX hi;rw[AL,gJ hi,<-a]at this;lia
def zlR(l:y6 P cf.tt)(Q:ua P cf.tt){o:K}{hi:uL}{k:Sg->V R}(hd:wZ cx d=qR)(T:xG cx σ x=Z (.ow o))(h:zav cf cx σ d t o hi k=Z r):
 lK P cx ⟨d,.slice t x wW (Z hi) wW,ty,wl,wn,g⟩ σ k r:=by
 unfold zav at h;split at h;rename_i n E1 B s E xs ht U;have⟨Y,h1⟩:=yv h;cases Y;rcases aU h1 with⟨e,_⟩|⟨z,m,e,h2,hz⟩
 cases e
 cases e;have⟨p,h3⟩:=Ya h2;have⟨ys,D,h4⟩:=wX h3;have⟨bytes,F,q⟩:=Uw l Q ht;refine⟨_,h4,xby _,λfr vs H w hR=> ?_⟩;have⟨G,c⟩:=hR;have⟨S0,_,f⟩:=c.ex;have u:ev H x=vs o:=zj T<|zO f x;have A:=hz P vs H S0 w<|zO f hi;have⟨i,hl,hF,hn⟩:=vm U;have hc:(OS vs fr cx σ.ob)[i]? =Z (mO n.rep E (vs o) xs):=JX hl
 have a:∀v,(uT (ev H) ⟨d,.slice t x wW (Z hi) wW,ty,wl,wn,g⟩).run P w=.ok (.value v) w->St fr.we fr.Se ((OS vs fr cx σ.ob).set i<|mO n.rep E v ys) (GS P vs H fr cx σ) w->
  uF P ⟨d,.slice t x wW (Z hi) wW,ty,wl,wn,g⟩ H w (λv w'=>nV P fr cx σ.nx vs ⟨σ.nx+1,qU σ.rg d [(0,.ow σ.nx)],(σ.nx,.own n E ys)::yI σ.ob o⟩ (put H d v) w'):=by
  intro v hp C;refine uF.of_value hp<|K6 (vs:=vs) (mk:=.ow) G hd (λe he=>G.o1 e<|ZB e he) (λ_=>O) (λS w=>KS S w) ?_;rw[UO];exact znM hl hn C
 rcases xcw (xaK xs)with h0|h0
 have hy:m=0:=by have:m<=xaK xs:=p;lia
 subst hy;have hA:ys=xs:=by rw[D];exact(xbs.1 h0).symm▸O
 subst hA;have J:(OS vs fr cx σ.ob).set i (mO n.rep E (vs o) ys)=OS vs fr cx σ.ob:=by
  apply xcA;intro j;rw[List.getElem?_set];split;rename_i hC;subst hC;split;exact hc.symm
  next hD=>exact kW (xaA.1 hc).1 hD
  rfl
 have hv:vs o=.slice wW 0 0\/∃b cap,vs o=.slice (Z ⟨b,0,wW⟩) 0 cap:=wI c hc λS ⟨cs,h5,_⟩=>by
  rcases h5.2 with⟨h,_⟩|⟨b,cap,a0,h,_⟩
  exact .inl h;rw[h0]at h;exact .inr ⟨b,cap,h⟩
 obtain hv|⟨b,cap,hv⟩:=hv
 exact a _ (zhQ (u.trans hv) (qY l ht) q A w)<|by rw[<-hv,J];exact c
 exact a _ (Tj (u.trans hv) (qY l ht) q A (xah _) w)<|by rw[<-hv,J];exact c
 have⟨b,cap,hv,L,hE,C⟩:=c.openO i hc h0;have M:=C.closeO i m (vH hc) p (xao p L) hE;rw[set_set]at M;exact a _ (Tj (u.trans hv) (qY l ht) q A (xao p L) w)<|by rw[D];exact M
 cases h
def zgo(J:y6 P cf.tt){L:ut}{f:uS}{a:TI}{E:ut}{ob:N (K×Od)}{xs:N a.ty.D}{k:Sg->V R}(ht:P.underlying t=Z (.slice E))(M:YF cf E=Z a)(hd:wZ cx d=qR)
 (he:f=qR->t=L) (h:zc9 cf cx σ d L f a.ty E a.B a.ty.z y ob xs k=Z r):
 ∃xS,k xS=Z r/\σ.nx<=xS.nx/\∀(fr:Fr) (vs:K->jp) (H:xr) (w:jP) (u:jp),Bd cx σ->(∀e∈ob,e.1<σ.nx)->ev H x=u->St fr.we fr.Se (mO a.ty.rep E u xs::OS vs fr cx ob) (GS P vs H fr cx σ) w->
  uF P ⟨d,.call ⟨.builtin .append,#[x,y],#[t,L]⟩,ty,wl,wn,g⟩ H w (λv w'=>nV P fr cx σ.nx vs xS (put H d v) w'):=by
 have⟨a0,hl,Q,hu⟩:=Xj J M;have hr:=(J _ _ M).2.1;have hn:=(J _ _ M).2.2.1;have Pv:∀m,m*a.B<=140737488355328->m<=9223372036854775807:=λm hm=>by
  have:=xcp m hr;lia
 unfold zc9 at h;split at h;rename_i n hw;split at h;rename_i q ik B' hz;have⟨j,hj,h⟩:=zb5 h;have⟨i,h⟩:=Ya h;have⟨zs,o,h⟩:=wX h;refine⟨_,h,xby _,λfr vs H w u s A C hc=> ?_⟩;have⟨S0,_,l⟩:=hc.ex;refine(Tz (e:=a.ty.rep) (z:=a.ty.z) (n:=j) 0 ht (Ko J hz) hl Q hn O C (by rw[(vg hw<|zO l y).1,hj]) hu (Pv _ i) i w hc).mono ?_;rintro v w' ⟨v',rfl,_,G⟩;refine K6 (vs:=vs) (mk:=.ow) s hd A (λ_=>O) (λS w=>KS S w) ?_;rw[UO,o];exact G;cases h
 split at h;rename_i o2 t2 lo n hy;split at h;rename_i s2 E2 T hA;have⟨hp,h⟩:=yo h;obtain rfl:=he hp;have⟨U,h⟩:=yv h;cases U;have⟨U,h⟩:=yv h;cases U;have⟨ys,hi,h⟩:=wX h;have⟨i,h⟩:=Ya h;have⟨zs,o,h⟩:=wX h;refine⟨_,h,xby _,λfr vs H w u s A C hc=> ?_⟩;have⟨S0,_,l⟩:=hc.ex;have hv:=zj hy<|zO l y;refine(cJ (e:=a.ty.rep) (ys:=ys) 0 ht hl Q hn O C O (λS w hM ha=> ?_) (Pv _ i) i w hc).mono ?_
 have hm:(mO a.ty.rep E2 (vs o2) T).p S w:=Ys (σ:=⟨σ.nx,σ.rg,ob⟩) (F:=fr.F) hM.2 hA;rcases hv with⟨b,m,cap,c,q1,q2,Y,q4,q5⟩|⟨q1,ao,c,q2,Y⟩
 rw[q5,hi];exact LU hm q1 q2 Y q4;subst q1;rw[Y,hi];exact⟨ao,c,m7,m7,by unfold JP;lia,.inl m7⟩
 rintro v w' ⟨v',rfl,_,G⟩;refine K6 (vs:=vs) (mk:=.ow) s hd A (λ_=>O) (λS w=>KS S w) ?_;rw[UO,o];exact G;cases h
 have⟨hp,h⟩:=yo h;obtain rfl:=he hp;have⟨ys,h,hi⟩:=Qg h;have⟨i,h⟩:=Ya h;have⟨zs,o,h⟩:=wX h;refine⟨_,h,xby _,λfr vs H w u s A C hc=> ?_⟩;refine(zdW (e:=a.ty.rep) (ys:=ys) 0 ht hl Q hn O C O (λS w ha=>hi P vs H S w<|zO ha y) (Pv _ i) i w hc).mono ?_;rintro v w' ⟨v',rfl,_,G⟩;refine K6 (vs:=vs) (mk:=.ow) s hd A (λ_=>O) (λS w=>KS S w) ?_;rw[UO,o];exact G
def zp5(j:y6 P cf.tt){a:Z5 uL}{ts:Z5 ut}{k:Sg->V R}(hd:wZ cx d=qR)(h:zom cf cx σ d a.toList ts.toList k=Z r):
 lK P cx ⟨d,.call ⟨.builtin .append,a,ts⟩,ty,wl,wn,g⟩ σ k r:=by
 unfold zom at h;split at h;rename_i _ _ x y t A N hp;obtain rfl:a= #[x,y]:=by cases a;simp_all
 obtain rfl:ts= #[t,A]:=by cases ts;simp_all
 split at h;rename_i s E B ht;split at h;rename_i C v;have⟨D,h1⟩:=yv h;subst D;split at h1;rename_i l;have⟨xS,m,n,p⟩:=zgo (ty:=ty) (wl:=wl) (wn:=wn) (g:=g) (x:=x) j (qY j ht) v hd (λh=>yh h) h1;refine⟨xS,m,n,λfr vs H w q=> ?_⟩;have⟨c,f⟩:=q;have⟨S0,_,b⟩:=f.ex;exact p fr vs H w _ c c.o1 (zj l<|zO b x) f.nilO;rename_i o l;split at h1;rename_i Q F xs G;have⟨u,J⟩:=yo h1;have u:=yh u;subst u;have⟨K,L⟩:=yv J;cases K;have⟨xS,m,n,p⟩:=zgo (ty:=ty) (wl:=wl) (wn:=wn) (g:=g) (x:=x) j (qY j ht) v hd (λh=>yh h) L;refine⟨xS,m,n,λfr vs H w q=> ?_⟩;have⟨c,f⟩:=q;have⟨S0,_,b⟩:=f.ex;have⟨i,z,hn,hi⟩:=vm G;have hl:(OS vs fr cx σ.ob)[i]? =Z (mO C.ty.rep F (vs o) xs):=JX z;have hc:=f.front i hl;rw[gJ z,<-hi]at hc;exact p fr vs H w _ c (λe M=>c.o1 e<|ZB e M) (zj l<|zO b x) hc
 cases h1
 cases h1
 cases h
 cases h
 cases h
theorem zjE{α:Type}(xs ys:N α):X (H3 xs ys)=X xs:=by grind [H3]
theorem zjN{α:Type}{xs:N α}(ys:N α)(h:X xs=0):H3 xs ys=xs:=by grind [H3]
def zoL{α:Type}(xs ys:N α):xdH 0 xs++xdH (min (X ys) (X xs)) ys++xdT (0+min (X ys) (X xs)) xs=H3 xs ys:=by simp[H3]
def za9{α:Type}(lo:K)(xs ys:N α):mz lo 0 xs ys=xs:=by simp[mz]
theorem zdr{α:Type}{lo n:K}{xs:N α}(ys:N α)(h:lo+n<=X xs):X (mz lo n xs ys)=X xs:=by grind [mz]
def zpo(L:y6 P cf.tt)(hL:ua P cf.tt){z:Z5 uL}{ts:Z5 ut}{k:Sg->V R}(hd:wZ cx d=qR)(h:zgO cf cx σ d z.toList ts.toList k=Z r):
 lK P cx ⟨d,.call ⟨.builtin .copy,z,ts⟩,ty,wl,wn,g⟩ σ k r:=by
 unfold zgO at h;split at h;rename_i x y t t' hK hM;obtain rfl:z= #[x,y]:=by cases z;simp_all
 obtain rfl:ts= #[t,t']:=by cases ts;simp_all
 split at h;rename_i s E B o ht hx;split at h;rename_i s' a xs N
 have⟨hA,h⟩:=yv h;cases hA;have⟨ys,h,Q⟩:=Qg h;have⟨zs,hc,h⟩:=wX h;have hc:zs=H3 (α:=s.D) xs ys:=hc;have⟨bytes,T,hl⟩:=Uw L hL ht;refine⟨_,h,Nm _,λfr vs H w hR=> ?_⟩;have⟨U,A⟩:=hR;have⟨S0,_,f⟩:=A.ex;have hn:ev H x=vs o:=zj hx<|zO f x;have⟨i,hi,hq,hH⟩:=vm N;have j:(OS vs fr cx σ.ob)[i]? =Z (mO s.rep a (vs o) xs):=JX hi;have p:∀v w',St fr.we fr.Se ((OS vs fr cx σ.ob).set i<|mO s.rep a (vs o) zs) (GS P vs H fr cx σ) w'->nV P fr cx σ.nx vs ⟨σ.nx,qU σ.rg d [],kL σ.ob o (.own s a zs)⟩ (put H d v) w':=λv w' F=>by
  refine Kq (xS:=⟨σ.nx,qU σ.rg d [],kL σ.ob o (.own s a zs)⟩) (d:=d) (l:=[]) (vs:=vs) (mK:=vs) (Γl:=[]) U hd O (Nm _) (λ_ _=>O) (λ_ q=>kW q H1) (λe q=> ?_) (λS w _ e q=>kW q H1) ?_;have⟨e',h1,h2⟩:=VR N e q;rw[<-h2];exact U.o1 e' h1;rw[hq];show St _ _ (MS vs (σ.ob.set i (o,.own s a zs))++_) _ _;rw[<-E6 hi];exact F
 rcases xcw (xaK xs)with h0|h0
 have hv:vs o=.slice wW 0 0\/∃b cap,vs o=.slice (Z ⟨b,0,wW⟩) 0 cap:=wI A j λS ⟨cs,h5,_⟩=>by
  rcases h5.2 with⟨h,_⟩|⟨b,cap,a0,h,_⟩
  exact .inl h;rw[h0]at h;exact .inr ⟨b,cap,h⟩
 have⟨G,cap,hv⟩:∃G cap,vs o=.slice G 0 cap:=by
  obtain hv|⟨b,cap,hv⟩:=hv
  exact⟨_,_,hv⟩;exact⟨_,_,hv⟩
 have⟨M,u,hu,_⟩:=wi.1<|Q P vs H S0 w<|zO f y;have⟨ti,hC,i1,i2,i3⟩:=hl.info;have hD:(P.info? E).map (·.size)=Z s.rep.n:=by rw[hC];simp[i1]
 have Y:=Kk (P:=P) w t t' ty E G M 0 cap (xaK ys) u (qY L ht) hD<|Nat.min_zero _;rw[<-hu,<-hv,<-hn]at Y;have hz:zs=xs:=hc.trans<|zjN (α:=s.D) ys h0;refine uF.of_value (v:=pU 0) (w':=w) ?_<|p _ w ?_;simp only[uT,WR,V3,am,xej,xbT,xdX,xay,Y,xaX,xaq];have:(OS vs fr cx σ.ob).set i (mO s.rep a (vs o) xs)=OS vs fr cx σ.ob:=by have⟨hI,hE⟩:=xaA.1 j;rw[<-hE,xdi]
 rw[hz,this];exact A;have⟨b,cap,hv,hF,hG,F⟩:=A.openO i j h0;refine(Tc (e:=s.rep) (l:=0) (dLen:=xaK xs) (dCap:=cap) i (qY L ht) hl (vH j) (by rw[hn,hv];simp) O W (λS w ha=>Q P vs H S w<|zO ha y) w F).mono ?_;rintro v w' ⟨n,rfl,_,J⟩;refine p _ w' ?_;have hz:=(zoL (α:=s.D) xs ys).trans hc.symm;rw[hz]at J;have hg:xaK zs=xaK xs:=by rw[hc];exact zjE (α:=s.D) xs ys
 have hw:=J.closeF i (vH<|vH j) (by rw[hg];exact hF) hG;rw[set_set,set_set,hg,<-hv]at hw;exact hw;cases h
 rename_i s E B o t2 lo n ht hx;split at h;rename_i s' a xs hk N _
 have⟨hA,h⟩:=yv h;cases hA;have⟨ys,h,Q⟩:=Qg h;have⟨zs,hc,h⟩:=wX h;have hc:zs=mz (α:=s.D) lo n xs ys:=hc;have⟨hk⟩:=hk;subst hk;have⟨bytes,T,hl⟩:=Uw L hL ht;refine⟨_,h,Nm _,λfr vs H w hR=> ?_⟩;have⟨U,A⟩:=hR;have⟨S0,_,f⟩:=A.ex;have hn:=zj hx<|zO f x;have⟨i,hi,hq,hH⟩:=vm N;have j:(OS vs fr cx σ.ob)[i]? =Z (mO t2.rep a (vs o) xs):=JX hi;have p:∀v w',St fr.we fr.Se ((OS vs fr cx σ.ob).set i<|mO t2.rep a (vs o) zs) (GS P vs H fr cx σ) w'->nV P fr cx σ.nx vs ⟨σ.nx,qU σ.rg d [],kL σ.ob o (.own t2 a zs)⟩ (put H d v) w':=λv w' F=>by
  refine Kq (xS:=⟨σ.nx,qU σ.rg d [],kL σ.ob o (.own t2 a zs)⟩) (d:=d) (l:=[]) (vs:=vs) (mK:=vs) (Γl:=[]) U hd O (Nm _) (λ_ _=>O) (λ_ q=>kW q H1) (λe q=> ?_) (λS w _ e q=>kW q H1) ?_;have⟨e',h1,h2⟩:=VR N e q;rw[<-h2];exact U.o1 e' h1;rw[hq];show St _ _ (MS vs (σ.ob.set i (o,.own t2 a zs))++_) _ _;rw[<-E6 hi];exact F
 obtain h0|h0:=xcw n
 have⟨G,c,hv⟩:∃G c,ev H x=.slice G 0 c:=by
  rcases hn with⟨b,m,cap,c,q1,q2,q3,q4,q5⟩|⟨q1,M,c,q2,q3⟩
  exact⟨_,c,by rw[q5,h0]⟩;exact⟨M,c,q3⟩
 have⟨M,u,hu,_⟩:=wi.1<|Q P vs H S0 w<|zO f y;have⟨ti,hC,i1,i2,i3⟩:=hl.info;have hD:(P.info? E).map (·.size)=Z t2.rep.n:=by rw[hC];simp[i1]
 have Y:=Kk (P:=P) w t t' ty E G M 0 c (xaK ys) u (qY L ht) hD<|Nat.min_zero _;rw[<-hu,<-hv]at Y;have hz:zs=xs:=by rw[hc,h0];exact za9 (α:=t2.D) lo xs ys
 refine uF.of_value (v:=pU 0) (w':=w) ?_<|p _ w ?_;simp only[uT,WR,V3,am,xej,xbT,xdX,xay,Y,xaX,xaq];have:(OS vs fr cx σ.ob).set i (mO t2.rep a (vs o) xs)=OS vs fr cx σ.ob:=by have⟨hI,hE⟩:=xaA.1 j;rw[<-hE,xdi]
 rw[hz,this];exact A;rcases hn with⟨b0,m,C,c,q1,q2,q3,q4,q5⟩|⟨q1,M,c,q2,q3⟩
 have hJ:m=xaK xs:=wI A j λS hp=>py hp q1;subst hJ;have⟨b,cap,hv,hF,hG,F⟩:=A.openO i j W;rw[q1]at hv;cases hv;refine(Tc (e:=t2.rep) (l:=lo) (dLen:=n) (dCap:=c) i (qY L ht) hl (vH j) q5 O q2 (λS w ha=>Q P vs H S w<|zO ha y) w F).mono ?_;rintro v w' ⟨nn,rfl,_,J⟩;refine p _ w' ?_;have J:St fr.we fr.Se (((OS vs fr cx σ.ob).set i<|mB (rowT t2.rep C) a b0 xs).set i<|mB (rowT t2.rep C) a b0<|mz (α:=t2.D) lo n xs ys) (GS P vs H fr cx σ) w':=J;rw[<-hc]at J;have hg:xaK zs=xaK xs:=by rw[hc];exact zdr (α:=t2.D) ys q2
 have hw:=J.closeF i (vH<|vH j) (by rw[hg];exact hF) hG;rw[set_set,set_set,hg,<-q1]at hw;exact hw;lia;cases h
 cases h
 cases h
def zgg{a b:K}(h:a≠b):Q a b=I:=YX h
def au:∀{ob:N (K×Od)}{o p:K},p≠o->xH (yI ob o) p=xH ob p
 |[],_,_,_=>rfl
 |(q,X)::r,o,p,h=>by
  unfold yI;cases a:Q q o
  simp only[WD];unfold xH;rw[au h];simp only[WN];have:=yh a;subst this;conv=>rhs;unfold xH
  rw[zgg<|λe=>h e.symm];rfl
def jI{ob:N (K×Od)}{p:K}:∀{os:N K},cL os p=I->xH (vi ob os) p=xH ob p
 |[],_=>rfl
 |o::r,h=>by
  simp only[cL,List.any_cons,Bool.or_eq_false_iff]at h;unfold vi;rw[au (λe=>by subst e;simp at h),jI h.2]
def JM{ob:N (K×Od)}:∀{os:N K},∀e∈vi ob os,e∈ob
 |[],_,h=>h
 |o::r,e,h=>JM e<|ZB e h
def zcG{α:Type _}:∀{l:N α}{i:K}{a:α},l[i]? =Z a->l.Perm (a::l.eraseIdx i)
 |[],_,_,h=>by simp at h
 |b::l,0,a,h=>by simp at h;subst h;exact xdD _
 |b::l,i+1,a,h=>((zcG<|by simpa using h).cons b).trans<|xdY _ _ _
def jY{ob:N (K×Od)}{o:K}{X:Od}(h:xH ob o=Z X):(OS vs fr cx ob).Perm (Kz vs (o,X)::OS vs fr cx (yI ob o)):=by have⟨i,h1,_,a⟩:=vm h;show(MS vs ob++(MS vs cx.ob++fr.F)).Perm (Kz vs (o,X)::(MS vs (yI ob o)++(MS vs cx.ob++fr.F)));rw[a,<-gJ h1];exact zcG<|JX h1
def Ug(C:∀s∈cf.cs,y8 P s):∀{dom:N AM}{xs:N uL}{cs:N PD}{k:aH dom->N K->V R},Ym cf cx σ dom xs cs k=Z r->
 ∃z os,k z os=Z r/\A2 xs+A2 cs=A2 dom/\(∀o∈os,∃X,(o,X)∈σ.ob)/\∀vs (fr:Fr) H S w,(∀x,Xt P vs H S w cx σ x)->∀a:N jp,A2 a=A2 cs->zD S (GX cs a) w->
  zD S (jQ P dom z<|xs.map (ev H)++a) w/\(OS vs fr cx σ.ob).Perm (kG dom z (xs.map (ev H)++a)++OS vs fr cx (vi σ.ob os))/\Ke dom (xs.map (ev H)++a)=os.map vs
 |[],[],[],k,h=>⟨(),[],h,O,λ_ l=>kW l H1,λ_ _ _ _ _ _ _ _ _=>⟨ul,xdD _,O⟩⟩
 |.q t::dom,[],c::cs,k,h=>by
  simp only[Ym]at h;have⟨e,h⟩:=yv h;subst e;have⟨z,os,h1,n,l,u⟩:=Ug C h;refine⟨_,os,h1,by simp at n⊢;lia,l,λvs fr H S w hl a m hc=> ?_⟩
  cases a with
  |nil=>cases m
  |cons v a=>have⟨j,A,B⟩:=u vs fr H S w hl a (by simpa using m) hc.2;exact⟨⟨hc.1,j⟩,A,B⟩
 |.d t::dom,x::xs,cs,k,h=>by
  simp only[Ym]at h;have⟨y,h,Q⟩:=Qg h;have⟨z,os,h1,n,l,u⟩:=Ug C h;exact⟨_,os,h1,by simp at n⊢;lia,l,λvs fr H S w hl a m hc=>by have⟨j,A,B⟩:=u vs fr H S w hl a m hc;exact⟨⟨Q P vs H S w<|hl x,j⟩,A,B⟩⟩
 |.q t::dom,x::xs,cs,k,h=>by
  simp only[Ym]at h;split at h;rename_i s y F;have⟨e,h⟩:=yv h;subst e;have⟨z,os,h1,n,l,u⟩:=Ug C h;exact⟨_,os,h1,by simp at n⊢;lia,l,λvs fr H S w hl a m hc=>by have⟨j,A,B⟩:=u vs fr H S w hl a m hc;exact⟨⟨zj F<|hl x,j⟩,A,B⟩⟩;cases h
 |.own t E::dom,x::xs,cs,k,h=>by
  simp only[Ym]at h;split at h;rename_i o F;split at h;rename_i s T ys hd;have⟨D,G⟩:=yo h;have D:=yh D;subst D;have⟨e,J⟩:=yv G;cases e;have⟨z,os,L,n,l,u⟩:=Ug C J;have⟨hn,h1⟩:=yo L;simp only[xcS]at hn;refine⟨_,o::os,h1,by simp at n⊢;lia,λp hp=> ?_,λvs fr H S w hl a m hc=> ?_⟩
  obtain rfl|hp:=xal.1 hp
  have⟨i,j,_⟩:=vm hd;exact⟨_,xbu j⟩;exact l p hp
  have⟨j,A,B⟩:=u vs fr H S w hl a m hc;have hv:ev H x=vs o:=zj F<|hl x;refine⟨⟨ul,j⟩,A.trans ?_,?_⟩;have hp:=jY (vs:=vs) (fr:=fr) (cx:=cx)<|(jI hn).trans hd;refine(xbp _ hp).trans ?_;refine xce.trans ?_;show List.Perm _ (mO t.rep E (ev H x) _::(kG dom z (xs.map (ev H)++a)++_));rw[hv];exact xdD _;show ev H x::Ke dom (xs.map (ev H)++a)=vs o::os.map vs;rw[hv,B];cases h
  cases h
 |.var t E::dom,x::xs,cs,k,h=>by
  simp only[Ym]at h;split at h;rename_i o s0 F;split at h;rename_i s T y hd;have⟨D,G⟩:=yo h;have D:=yh D;subst D;have⟨e,J⟩:=yv G;subst e;have⟨z,os,L,n,l,u⟩:=Ug C J;have⟨hn,h1⟩:=yo L;simp only[xcS]at hn;refine⟨_,o::os,h1,by simp at n⊢;lia,λp hp=> ?_,λvs fr H S w hl a m hc=> ?_⟩;obtain rfl|hp:=xal.1 hp
  have⟨i,j,_⟩:=vm hd;exact⟨_,xbu j⟩;exact l p hp
  have⟨j,A,B⟩:=u vs fr H S w hl a m hc;have⟨hv,b,U⟩:=zj F<|hl x;refine⟨⟨⟨b,hv.trans U⟩,j⟩,A.trans ?_,?_⟩;have hp:=jY (vs:=vs) (fr:=fr) (cx:=cx)<|(jI hn).trans hd;refine(xbp _ hp).trans ?_;refine xce.trans ?_;show List.Perm _ (mP s.rep.c E (ev H x) _::(kG dom z (xs.map (ev H)++a)++_));rw[hv];exact xdD _;show ev H x::Ke dom (xs.map (ev H)++a)=vs o::os.map vs;rw[hv,B];cases h
  cases h
 |.fn M cod::dom,x::xs,cs,k,h=>by
  simp only[Ym]at h;have⟨f,h,Y⟩:=zio C h;have⟨z,os,h1,n,l,u⟩:=Ug C h;refine⟨_,os,h1,by simp at n⊢;lia,l,λvs fr H S w hl a m hc=> ?_⟩;have⟨j,A,B⟩:=u vs fr H S w hl a m hc;refine⟨⟨?_,j⟩,A,B⟩
  cases hv:xG cx σ x with
  |none=>rename_i h0;rw[hv]at h0;simp[asF]at h0
  |some v=>exact Y vs S w v _ hv<|zj hv<|hl x
 |[],_::_,_,_,h=>by simp[Ym]at h
 |[],[],_::_,_,h=>by simp[Ym]at h
 |.d _::_,[],_,_,h=>by simp[Ym]at h
 |.own _ _::_,[],_,_,h=>by simp[Ym]at h
 |.var _ _::_,[],_,_,h=>by simp[Ym]at h
 |.fn _ _::_,[],_,_,h=>by simp[Ym]at h
 |.q _::_,[],[],_,h=>by simp[Ym]at h
def nh:N RM->N jp->K->(K->jp)->K->jp
 |[],_,_,vs=>vs
 |.d _::r,us,o,vs=>nh r us.tail o vs
 |.own _ _::r,us,o,vs=>Wu (nh r us.tail (o+1) vs) o<|us.headD XS
 |.var _ _::r,us,o,vs=>Wu (nh r us.tail (o+1) vs) o<|us.headD XS
def Jw:∀{rs:N RM}{us:N jp}{o k:K},k<o->nh rs us o vs k=vs k
 |[],_,_,_,_=>rfl
 |.d _::r,us,o,k,h=>Jw (rs:=r) h
 |.own _ _::r,us,o,k,h=>by
  show Wu _ o _ k=_;rw[uo h,Jw W]
 |.var _ _::r,us,o,k,h=>by
  show Wu _ o _ k=_;rw[uo h,Jw W]
def AW{n o:K}{v:jp}(h:o≠n):Wu vs n v o=vs o:=by unfold Wu;rw[YX h];rfl
theorem Uc:∀{rs:N RM}{x:aI rs}{i o:K},(∀e∈(Zv rs x i o).2,o<=e.1/\e.1<o+(Zv rs x i o).2.length)
 |[],_,_,_,e,he=>kW he H1
 |[.d _],_,_,_,e,he=>kW he H1
 |[.own _ _],_,_,o,e,he=>by
  obtain rfl:=xaf.1 he;grind
 |[.var _ _],_,_,o,e,he=>by
  obtain rfl:=xaf.1 he;grind
 |.d t::n::r,x,i,o,e,he=>Uc (rs:=n::r) (x:=x.2) (i:=i+1) e he
 |.own t E::n::r,x,i,o,e,he=>by
  have he:e∈(o,Od.own t E x.1)::(Zv (n::r) x.2 (i+1)<|o+1).2:=he;have a:(Zv (.own t E::n::r) x i o).2.length=(Zv (n::r) x.2 (i+1)<|o+1).2.length+1:=O;rw[a];obtain rfl|he:=xal.1 he
  lia;have:=Uc (rs:=n::r) (x:=x.2) (i:=i+1) (o:=o+1) e he;lia
 |.var t E::n::r,x,i,o,e,he=>by
  have he:e∈(o,Od.var t E x.1)::(Zv (n::r) x.2 (i+1)<|o+1).2:=he;have a:(Zv (.var t E::n::r) x i o).2.length=(Zv (n::r) x.2 (i+1)<|o+1).2.length+1:=O;rw[a];obtain rfl|he:=xal.1 he
  exact⟨Nm _,by show o<_;lia⟩;have:=Uc (rs:=n::r) (x:=x.2) (i:=i+1) (o:=o+1) e he;lia
def rf:∀{rs:N RM}{x:aI rs}{us:N jp}{i o:K},MS (nh rs us o vs) (Zv rs x i o).2=kQ rs x us
 |[],_,_,_,_=>rfl
 |[.d _],_,_,_,_=>rfl
 |[.own t E],x,us,i,o=>by exact Z4 (λm=>[m])<|UO
 |[.var t E],x,us,i,o=>by exact Z4 (λm=>[m])<|MN
 |.var t E::n::r,x,us,i,o=>by
  refine List.cons_eq_cons.2 ⟨MN,?_⟩;exact(wV λe a=>AW (by have:=Uc e a;lia)).trans rf
 |.d t::n::r,x,us,i,o=>by
  show MS (nh (n::r) us.tail o vs) (Zv (n::r) x.2 (i+1) o).2=kQ (n::r) x.2 us.tail;exact rf
 |.own t E::n::r,x,us,i,o=>by
  refine List.cons_eq_cons.2 ⟨UO,?_⟩;exact(wV λe a=>AW (by have:=Uc e a;lia)).trans rf
def fS:∀{rs:N RM}{x:aI rs}{i o:K},∀e∈(Zv rs x i o).1,∀p,vC e.2=Z p->p<o+(Zv rs x i o).2.length
 |[],_,_,_,e,he=>kW he H1
 |[.d _],_,_,_,e,he=>by
  obtain rfl:=xaf.1 he;intro p hp;cases hp
 |[.own _ _],_,_,o,e,he=>by
  obtain rfl:=xaf.1 he;intro p hp;cases hp;exact xdO _
 |[.var _ _],_,_,o,e,he=>by
  obtain rfl:=xaf.1 he;intro p hp;cases hp;exact xdO _
 |.var t E::n::r,x,i,o,e,he=>by
  have a:(Zv (.var t E::n::r) x i o).2.length=(Zv (n::r) x.2 (i+1)<|o+1).2.length+1:=O;rw[a];obtain rfl|he:=xal.1 he
  intro p hp;cases hp;lia
  intro p hp;have:=fS (rs:=n::r) (x:=x.2) (i:=i+1) (o:=o+1) e he p hp;lia
 |.d t::n::r,x,i,o,e,he=>by
  obtain rfl|he:=xal.1 he
  intro p hp;cases hp
  exact fS (rs:=n::r) (x:=x.2) (i:=i+1) e he
 |.own t E::n::r,x,i,o,e,he=>by
  have a:(Zv (.own t E::n::r) x i o).2.length=(Zv (n::r) x.2 (i+1)<|o+1).2.length+1:=O;rw[a];obtain rfl|he:=xal.1 he
  intro p hp;cases hp;lia
  intro p hp;have:=fS (rs:=n::r) (x:=x.2) (i:=i+1) (o:=o+1) e he p hp;lia
def oW:∀{rs:N RM}{x:aI rs}{i o:K},∀e∈(Zv rs x i o).1,∀p,vC e.2=Z p->o<=p
 |[],_,_,_,e,he=>kW he H1
 |[.d _],_,_,_,e,he=>by
  obtain rfl:=xaf.1 he;intro p hp;cases hp
 |[.own _ _],_,_,o,e,he=>by
  obtain rfl:=xaf.1 he;intro p hp;cases hp;exact Nm _
 |[.var _ _],_,_,o,e,he=>by
  obtain rfl:=xaf.1 he;intro p hp;cases hp;exact Nm _
 |.var t E::n::r,x,i,o,e,he=>by
  obtain rfl|he:=xal.1 he
  intro p hp;cases hp;exact Nm _
  intro p hp;have:=oW e he p hp;lia
 |.d t::n::r,x,i,o,e,he=>by
  obtain rfl|he:=xal.1 he
  intro p hp;cases hp
  exact oW e he
 |.own t E::n::r,x,i,o,e,he=>by
  obtain rfl|he:=xal.1 he
  intro p hp;cases hp;exact Nm _
  intro p hp;have:=oW e he p hp;lia
def FR:∀{rs:N RM}{x:aI rs}{us:N jp}{i o:K}{S:K->Prop},zD S (kN rs x us) w->X us=X rs->∀e∈(Zv rs x i o).1,∃j u,e.1=i+j/\us[j]? =Z u/\(vP P (nh rs us o vs) e.2 u).p S w
 |[],_,_,_,_,_,_,_,e,he=>kW he H1
 |[m],_,[],_,_,_,_,hl,_,_=>by cases hl
 |[.d _],x,u::us,i,o,S,h,hl,e,he=>by
  obtain rfl:=xaf.1 he;exact⟨0,u,O,O,h.1⟩
 |[.own _ _],x,u::us,i,o,S,h,hl,e,he=>by
  obtain rfl:=xaf.1 he;exact⟨0,u,O,O,(wy (vs:=vs)).symm⟩
 |[.var _ _],x,u::us,i,o,S,h,hl,e,he=>by
  obtain rfl:=xaf.1 he;have h1:=wy (vs:=vs) (n:=o) (v:=u);exact⟨0,u,O,O,h1.symm,by have⟨b,f⟩:=h.1;exact⟨b,h1.trans f⟩⟩
 |.var t E::n::r,x,u::us,i,o,S,h,hl,e,he=>by
  obtain rfl|he:=xal.1 he
  have h1:=wy (vs:=nh (n::r) us (o+1) vs) (n:=o) (v:=u);exact⟨0,u,O,O,h1.symm,by have⟨b,f⟩:=h.1;exact⟨b,h1.trans f⟩⟩;have⟨j,v,h1,a,c⟩:=FR (rs:=n::r) (x:=x.2) (i:=i+1) (o:=o+1) h.2 (by simpa using hl) e he;refine⟨j+1,v,W,by simpa using a,?_⟩;have:vP P (nh (.var t E::n::r) (u::us) o vs) e.2 v=vP P (nh (n::r) us (o+1) vs) e.2 v:=iR (λp hp=>AW (by have:=oW (rs:=n::r) (x:=x.2) (i:=i+1) (o:=o+1) e he p hp;lia)) v;rw[this];exact c
 |_::n::r,x,[],_,_,_,_,hl,_,_=>by cases hl
 |.d t::n::r,x,u::us,i,o,S,h,hl,e,he=>by
  obtain rfl|he:=xal.1 he
  exact⟨0,u,O,O,h.1⟩;have⟨j,v,h1,a,c⟩:=FR (rs:=n::r) (x:=x.2) (i:=i+1) (o:=o) h.2 (by simpa using hl) e he;exact⟨j+1,v,W,by simpa using a,c⟩
 |.own t E::n::r,x,u::us,i,o,S,h,hl,e,he=>by
  obtain rfl|he:=xal.1 he
  exact⟨0,u,O,O,(wy (vs:=nh (n::r) us (o+1) vs)).symm⟩;have⟨j,v,h1,a,c⟩:=FR (rs:=n::r) (x:=x.2) (i:=i+1) (o:=o+1) h (by simpa using hl) e he;refine⟨j+1,v,W,by simpa using a,?_⟩;have:vP P (nh (.own t E::n::r) (u::us) o vs) e.2 v=vP P (nh (n::r) us (o+1) vs) e.2 v:=iR (λp hp=>AW (by have:=oW (rs:=n::r) (x:=x.2) (i:=i+1) (o:=o+1) e he p hp;lia)) v;rw[this];exact c
def zfE{f:Wf}{a:N uL}:∀{cs:N Wk}{s:Wk},zaz cx σ f a cs=Z s->s∈cs/\s.f=f
 |c::cs,s,h=>by
  unfold zaz at h;split at h;simp_all;have⟨h1,b⟩:=zfE h;exact⟨FS _ h1,b⟩
theorem zdu{rs:N RM}{x:aI rs}{us:N jp}{o:K}{S:K->Prop}(h:zD S (kN rs x us) w)(hl:X us=X rs):∀e∈(Zv rs x (bif bJ rs then 0 else 1) o).1,(qp P (nh rs us o vs) e.2 (ZI us) e.1).p S w:=by
 intro e c;have⟨j,u,h1,a,b⟩:=FR (P:=P) (vs:=vs) h hl e c;have⟨i,dv⟩:=e
 match us,hl,a with
 |[],_,a=>simp at a
 |[v],hl,a=>
  obtain rfl:j=0:=by
   obtain _|j:=j
   rfl;grind
  obtain⟨m,rfl⟩:=xcF.1 hl.symm;simp only[bJ,WN]at h1;simp only[xbE,xav]at a;subst h1;subst a;exact b
 |v::f::us,hl,a=>
  have:bJ rs=I:=by
   match rs,hl with
   |[],_=>rfl
   |_::_::_,_=>rfl
  rw[this]at h1;simp only[WD]at h1;obtain rfl:i=j+1:=W
  exact⟨(v::f::us).toArray,u,O,by simpa using a,b⟩
def oV:N RM->N jp->N jp
 |[],_=>[]
 |.d _::r,us=>oV r us.tail
 |.own _ _::r,us=>us.headD XS::oV r us.tail
 |.var _ _::r,us=>us.headD XS::oV r us.tail
def im:∀{rs:N RM}{x:aI rs}{us:N jp}{i o:K},(Zv rs x i o).2.map (λe=>nh rs us o vs e.1)=oV rs us
 |[],_,_,_,_=>rfl
 |[.d _],x,us,i,o=>rfl
 |[.own t E],x,us,i,o=>by
  show[Wu vs o (us.headD XS) o]=[us.headD XS];rw[wy]
 |[.var t E],x,us,i,o=>by
  show[Wu vs o (us.headD XS) o]=[us.headD XS];rw[wy]
 |.var t E::n::r,x,us,i,o=>by
  show Wu (nh (n::r) us.tail (o+1) vs) o (us.headD XS) o::(Zv (n::r) x.2 (i+1)<|o+1).2.map (λe=>nh (.var t E::n::r) us o vs e.1)=us.headD XS::oV (n::r) us.tail;rw[wy,<-im];congr 1;refine xch λe a=> ?_;exact AW (by have:=Uc e a;lia)
 |.d t::n::r,x,us,i,o=>im (rs:=n::r)
 |.own t E::n::r,x,us,i,o=>by
  show Wu (nh (n::r) us.tail (o+1) vs) o (us.headD XS) o::(Zv (n::r) x.2 (i+1)<|o+1).2.map (λe=>nh (.own t E::n::r) us o vs e.1)=us.headD XS::oV (n::r) us.tail;rw[wy,<-im];congr 1;refine xch λe a=> ?_;exact AW (by have:=Uc e a;lia)
def Cw:∀{m:K}{rs:N RM}{us:N jp},p9 m rs=qR->X us=X rs->oV rs us=us.drop m
 |0,[],us,_,hl=>by
  obtain rfl:=xbs.1 hl;rfl
 |0,.own _ _::r,[],_,hl=>by cases hl
 |0,.own _ _::r,u::us,h,hl=>by
  show u::oV r us=u::us;rw[Cw (rs:=r) h<|by simpa using hl];rfl
 |0,.var _ _::r,[],_,hl=>by cases hl
 |0,.var _ _::r,u::us,h,hl=>by
  show u::oV r us=u::us;rw[Cw (rs:=r) h<|by simpa using hl];rfl
 |m+1,.d _::r,[],_,hl=>by cases hl
 |m+1,.d _::r,u::us,h,hl=>Cw (m:=m) h<|by simpa using hl
 |0,.d _::_,_,h,_=>by cases h
 |_+1,[],_,h,_=>by cases h
 |_+1,.own _ _::_,_,h,_=>by cases h
 |_+1,.var _ _::_,_,h,_=>by cases h
def zch{mK:K->jp}:∀{os:N K}{ob:N (K×Od)},os.map mK=ob.map (λe=>mK e.1)->MS mK (Eh os ob)=MS mK ob
 |[],[],_=>rfl
 |[],_::_,h=>by cases h
 |_::_,[],h=>by cases h
 |o::os,(p,X)::ob,h=>by
  simp only[xbT,xec]at h;show Kz mK (o,X)::MS mK (Eh os ob)=Kz mK (p,X)::MS mK ob;rw[zch h.2];cases X<;>simp only[Kz]<;>rw[h.1]
def Rr:∀{os:N K}{ob:N (K×Od)},∀e∈Eh os ob,e.1∈os
 |[],_,e,he=>kW he<|by simp[Eh]
 |_::_,[],e,he=>kW he<|by simp[Eh]
 |o::os,p::ob,e,he=>by
  rcases xal.1 (show e∈(o,p.2)::Eh os ob from he)with rfl|he
  simp_all;exact FS _<|Rr e he
def zaZ{rs:N RM}{x:aI rs}{us:N jp}{o m:K}{S:K->Prop}(h:zD S (kN rs x us) w)(hl:X us=X rs)(z:m<=X us):∀e∈(Zv rs x (Cc m) o).1.filter (λe=>xde e.1<|Cc m+m),(qp P (nh rs us o vs) e.2 (ZI<|us.take m) e.1).p S w:=by
 intro e c;have⟨c,f⟩:=xbX.1 c;have f:e.1<Cc m+m:=Nat.blt_eq.mp f;have⟨j,u,h1,n,l⟩:=FR (P:=P) (vs:=vs) h hl e c;have⟨i,dv⟩:=e;simp only at h1 f;have q:j<m:=W
 have a:(us.take m)[j]? =Z u:=by rw[xbF,E q];exact n
 have b:X (us.take m)=m:=by rw[xan];lia
 generalize us.take m=mK at*
 match mK,b,a with
 |[],b,a=>simp at a
 |[v],b,a=>
  obtain rfl:m=1:=b.symm;obtain rfl:j=0:=W
  simp only[xbE,xav]at a;obtain rfl:i=0:=h1;subst a;exact l
 |v::s::k,b,a=>
  have:Cc m=1:=by unfold Cc;rw[zgg<|by simp at b;lia];rfl
  rw[this]at h1;obtain rfl:i=j+1:=W
  exact⟨(v::s::k).toArray,u,O,by simpa using a,l⟩
def zcd{f:uL}{f':Wf}{cs:N PD}{s:Wk}{c:Z5 uL}{ts:Z5 ut}{k:Sg->V R}{z:aH s.dom}{q:aI s.cod}{os:N K}(hd:wZ cx d=qR)(u:xG cx σ f=Z (.fn f' cs))
 (D:y8 P s) (E:s.f=f') (Y:A2 c.toList+A2 cs=A2 s.dom) (hF:∀o∈os,∃X,(o,X)∈σ.ob) (C:∀vs (fr:Fr) H S w,(∀x,Xt P vs H S w cx σ x)->∀a:N jp,A2 a=A2 cs->zD S (GX cs a) w->
  zD S (jQ P s.dom z<|c.toList.map (ev H)++a) w/\(OS vs fr cx σ.ob).Perm (kG s.dom z (c.toList.map (ev H)++a)++OS vs fr cx (vi σ.ob os))/\Ke s.dom (c.toList.map (ev H)++a)=os.map vs)
 (hq:s.M z=Z q) (h:zlB σ d s os q k=Z r):lK P cx ⟨d,.call ⟨.value f,c,ts⟩,ty,wl,wn,g⟩ σ k r:=by
 unfold zlB at h;split at h
 ·next G=>
   refine⟨_,h,xbL _ _,λfr vs H w J=> ?_⟩
   have⟨n,hl⟩:=J
   have⟨S0,_,j⟩:=hl.ex
   have⟨a,hv,A,_⟩:=zj u<|zO j f
   have B:=D.plain G hq (vs:=c.toList.map (ev H)++a)<|by simp at Y⊢;lia
   have L:(uT (ev H) ⟨d,.call ⟨.value f,c,ts⟩,ty,wl,wn,g⟩).run P w=.ok (.enter f' (c.toList.map (ev H)++a).toArray) w:=by simp[uT,WR,hv,xda,V3,qw<|E▸D.1]
   have hn:St fr.we fr.Se (kG s.dom z (c.toList.map (ev H)++a)++OS vs fr cx (vi σ.ob os)) (jQ P s.dom z (c.toList.map (ev H)++a)++GS P vs H fr cx σ) w:=by
    refine St.perm (St.weak hl λS w m=>zD.append ?_ m) (C vs fr H S0 w (zO j) a A ?_).2.1
    ·have⟨i,hc,hi,p⟩:=zj u<|zO m f;rw[hv]at hc;have:a=i:=by simpa using hc
     subst this;exact(C vs fr H S w (zO m) a A p).1
    ·have⟨i,hc,hi,p⟩:=zj u<|zO j f;rw[hv]at hc;have:a=i:=by simpa using hc
     subst this;exact p
   unfold uF
   rw[L]
   rw[E]at B
   refine(B fr.we fr.Se _ _ w hn).mono ?_
   rintro e w' ⟨us,he,F,Q⟩
   refine⟨ZI us,he,?_⟩
   refine Kq (vs:=vs) (mK:=nh s.cod us σ.nx vs) (l:=(Zv s.cod q (bif bJ s.cod then 0 else 1) σ.nx).1) (Γl:=kN s.cod q us) n hd O (xbL _ _) (λo v=>Jw v) fS ?_ (λS w m=>zdu m F) ?_
   ·intro e he
    obtain he|he:=xab.1 he
    ·exact(Uc e he).2
    ·exact xac (n.o1 e<|JM e he)<|xbL _ _
   ·have e1:OS (nh s.cod us σ.nx vs) fr cx ((Zv s.cod q (bif bJ s.cod then 0 else 1) σ.nx).2++vi σ.ob os)=kQ s.cod q us++OS vs fr cx (vi σ.ob os):=by
     show MS _ (_++_)++(MS _ cx.ob++_)=_;have T:MS (nh s.cod us σ.nx vs) (vi σ.ob os)=MS vs (vi σ.ob os):=wV λe he=>Jw<|n.o1 e<|JM e he;have U:MS (nh s.cod us σ.nx vs) cx.ob=MS vs cx.ob:=wV λe he=>Jw<|n.o2 e he;rw[U,show MS (nh s.cod us σ.nx vs) ((Zv s.cod q (bif bJ s.cod then 0 else 1) σ.nx).2++vi σ.ob os)=MS _ _++MS _ _ from xaU,T,rf,xas]
    rw[e1]
    exact Q
 ·next b G=>
   have⟨ht,h⟩:=yo h
   refine⟨_,h,xbL _ _,λfr vs H w J=> ?_⟩
   have⟨n,hl⟩:=J
   have⟨S0,_,j⟩:=hl.ex
   have⟨a,hv,A,_⟩:=zj u<|zO j f
   have B:=D.2 z q hq (c.toList.map (ev H)++a)<|by simp at Y⊢;lia
   rw[G]at B
   have L:(uT (ev H) ⟨d,.call ⟨.value f,c,ts⟩,ty,wl,wn,g⟩).run P w=.ok (.enter f' (c.toList.map (ev H)++a).toArray) w:=by simp[uT,WR,hv,xda,V3,qw<|E▸D.1]
   have hD:Ke s.dom (c.toList.map (ev H)++a)=os.map vs:=by
    have⟨i,hc,hi,p⟩:=zj u<|zO j f;rw[hv]at hc;have:a=i:=by simpa using hc
    subst this;exact(C vs fr H S0 w (zO j) a A p).2.2
   have hn:St fr.we fr.Se (kG s.dom z (c.toList.map (ev H)++a)++OS vs fr cx (vi σ.ob os)) (jQ P s.dom z (c.toList.map (ev H)++a)++GS P vs H fr cx σ) w:=by
    refine St.perm (St.weak hl λS w m=>zD.append ?_ m) (C vs fr H S0 w (zO j) a A ?_).2.1
    ·have⟨i,hc,hi,p⟩:=zj u<|zO m f;rw[hv]at hc;have:a=i:=by simpa using hc
     subst this;exact(C vs fr H S w (zO m) a A p).1
    ·have⟨i,hc,hi,p⟩:=zj u<|zO j f;rw[hv]at hc;have:a=i:=by simpa using hc
     subst this;exact p
   unfold uF
   rw[L]
   rw[E]at B
   refine(B fr.we fr.Se _ _ w hn).mono ?_
   rintro e w' ⟨us,he,⟨F,hC⟩,Q⟩
   refine⟨ZI<|us.take<|A2 s.cod-(b+1),he,?_⟩
   have hp:∀o,o<σ.nx->nh s.cod us σ.nx vs o=vs o:=λo v=>Jw v
   have hE:∀o∈os,o<σ.nx:=λo v=>by
    have⟨X,hX⟩:=hF o v;exact n.o1 _ hX
   have hG:MS (nh s.cod us σ.nx vs) (Eh os (Zv s.cod q (Cc<|A2 s.cod-(b+1)) σ.nx).2)=kQ s.cod q us:=by
    rw[zch,rf];rw[im,Cw ht F,hC,hD];exact xch λo v=>hp o<|hE o v
   refine Kq (vs:=vs) (mK:=nh s.cod us σ.nx vs) (l:=(Zv s.cod q (Cc<|A2 s.cod-(b+1)) σ.nx).1.filter λe=>xde e.1<|Cc (A2 s.cod-(b+1))+(A2 s.cod-(b+1))) (Γl:=kN s.cod q us) n hd O (xbL _ _) hp (λe he=>fS e (xbX.1 he).1) ?_ (λS w m=>zaZ m F W) ?_
   ·intro e he
    obtain he|he:=xab.1 he
    ·exact xac (hE _<|Rr e he)<|xbL _ _
    ·exact xac (n.o1 e<|JM e he)<|xbL _ _
   ·have e1:OS (nh s.cod us σ.nx vs) fr cx (Eh os (Zv s.cod q (Cc<|A2 s.cod-(b+1)) σ.nx).2++vi σ.ob os)=kQ s.cod q us++OS vs fr cx (vi σ.ob os):=by
     show MS _ (_++_)++(MS _ cx.ob++_)=_;have T:MS (nh s.cod us σ.nx vs) (vi σ.ob os)=MS vs (vi σ.ob os):=wV λe he=>Jw<|n.o1 e<|JM e he;have U:MS (nh s.cod us σ.nx vs) cx.ob=MS vs cx.ob:=wV λe he=>Jw<|n.o2 e he;rw[U,show MS (nh s.cod us σ.nx vs) (Eh os (Zv s.cod q (Cc<|A2 s.cod-(b+1)) σ.nx).2++vi σ.ob os)=MS _ _++MS _ _ from xaU,T,hG,xas]
    rw[e1]
    exact Q
def zoB(b:∀s∈cf.cs,y8 P s){f:uL}{f':Wf}{cs:N PD}{s:Wk}{a:Z5 uL}{ts:Z5 ut}{k:Sg->V R}(hd:wZ cx d=qR)(c:xG cx σ f=Z (.fn f' cs))
 (e:zaz cx σ f' a.toList cf.cs=Z s) (h:zma cf cx σ d s a.toList cs k=Z r):lK P cx ⟨d,.call ⟨.value f,a,ts⟩,ty,wl,wn,g⟩ σ k r:=by
 have⟨h1,i⟩:=zfE e;have⟨z,os,h,j,hc,l⟩:=Ug b h;have⟨q,m,h⟩:=B6 h;exact zcd hd c (b s h1) i j hc l m h
def zig{f:Wf}{a:N uL}:∀{l:N Je}{p:Je},zg9 cx σ f a l=Z p->p∈l/\p.s.f=f
 |c::l,p,h=>by
  unfold zg9 at h;split at h;simp_all;have⟨h1,b⟩:=zig h;exact⟨FS _ h1,b⟩
def zl7(P:Z2)(cx:Sg)(o:Wd)(σ:Sg)(kp:PX->Sg->V R)(r:R):Prop:=∃q xS,kp q xS=Z r/\xS.nx=σ.nx/\∀(fr:Fr) (vs:K->jp) (H:xr) (w:jP),dq P fr cx σ vs H w->OpP P o H w (λa w'=>a=ru q/\dq P fr cx xS vs H w')
def zqZ(G:∀s∈cf.cs,y8 P s){f:uL}{f':Wf}{cs:N PD}{p:Je}{a:Z5 uL}{ts:Z5 ut}{kp:PX->Sg->V R}{k:Sg->V R}(hd:wZ cx d=qR)(m:xG cx σ f=Z (.fn f' cs))
 (u:Oy P p) (v:p.s.f=f') (h:zmR cf cx σ d p a.toList cs kp k=Z r):lK P cx ⟨d,.call ⟨.value f,a,ts⟩,ty,wl,wn,g⟩ σ k r\/zl7 P cx ⟨d,.call ⟨.value f,a,ts⟩,ty,wl,wn,g⟩ σ kp r:=by
 unfold zmR at h;have⟨z,os,h,D,J,A⟩:=Ug G h;have⟨y,E,h⟩:=B6 h
 cases y with
 |inr q=>exact .inl<|zcd (s:=p.n) hd m u.n v D J A (by show(match p.M z with|some (.inr r)=>Z r|_=>wW)=Z q;rw[E]) h
 |inl q=>
  refine .inr ⟨q,_,h,O,λfr vs H w K=> ?_⟩;have⟨o,hl⟩:=K;have⟨S0,_,j⟩:=hl.ex;have⟨b,hv,F,_⟩:=zj m<|zO j f;have hn:=(u.2 z (a.toList.map (ev H)++b)<|by simp at D⊢;lia).2 q E;have L:(uT (ev H) ⟨d,.call ⟨.value f,a,ts⟩,ty,wl,wn,g⟩).run P w=.ok (.enter f' (a.toList.map (ev H)++b).toArray) w:=by simp[uT,WR,hv,xda,V3,qw<|v▸u.1]
  have hp:St fr.we fr.Se (kG p.s.dom z (a.toList.map (ev H)++b)++OS vs fr cx (vi σ.ob os)) (jQ P p.s.dom z (a.toList.map (ev H)++b)++GS P vs H fr cx σ) w:=by
   refine St.perm (St.weak hl λS w B=>zD.append ?_ B) (A vs fr H S0 w (zO j) b F ?_).2.1;have⟨i,l,Q,hi⟩:=zj m<|zO B f;rw[hv]at l;have:b=i:=by simpa using l
   subst this;exact(A vs fr H S w (zO B) b F hi).1;have⟨i,l,Q,hi⟩:=zj m<|zO j f;rw[hv]at l;have:b=i:=by simpa using l
   subst this;exact hi
  unfold OpP;rw[L];rw[v]at hn;refine⟨λc hc=>(by cases hc),(hn fr.we fr.Se _ _ w hp).mono ?_⟩;rintro e w' ⟨C,ht⟩;exact⟨_,C,O,⟨λe C=>o.o1 e<|JM e C,o.o2,o.r1,o.r2⟩,ht⟩
theorem St.pr{we:jP}{Se:K->Prop}{ms:N MF}{Γ:N FF}{w:jP}{p:Prop}(hp:p)(h:St we Se ms Γ w):St we Se (mPr p::ms) Γ w:=by
 have⟨h1,b,c,S,e,f,l,i,j⟩:=h;refine⟨h1,b,⟨λk a=>a.elim,c⟩,S,e,f,λm hm k a=> ?_,⟨hp,i⟩,j⟩;obtain rfl|hm:=xal.1 hm
 exact a.elim;grind
def St.unpr{we:jP}{Se:K->Prop}{ms:N MF}{Γ:N FF}{w:jP}{p:Prop}(h:St we Se (mPr p::ms) Γ w):p/\St we Se ms Γ w:=
 ⟨wI h (i:=0) O λS hp=>hp,St.drop (i:=0) h⟩
def JH{d a:Dv}{v:jp}{i:K}{S:K->Prop}(h:(qp P vs d v i).p S w)(b:∀u,(vP P vs d u).p S w->(vP P vs a u).p S w):(qp P vs a v i).p S w:=by
 cases i with
 |zero=>exact b _ h
 |succ i=>have⟨us,u,h1,c,e⟩:=h;exact⟨us,u,h1,c,b _ e⟩
theorem Ka{v u:jp}{mk:K->Dv}{X:Od}{ob:N (K×Od)}(a:Bd cx σ)(hd:wZ cx d=qR)(b:∀e∈ob,e.1<σ.nx)(i:∀o,vC (mk o)=Z o)(hc:∀S w,(vP P (Wu vs σ.nx u) (mk σ.nx) v).p S w)
 (c:St fr.we fr.Se (Kz (Wu vs σ.nx u) (σ.nx,X)::OS vs fr cx ob) (GS P vs H fr cx σ) w):nV P fr cx σ.nx vs ⟨σ.nx+1,qU σ.rg d [(0,mk σ.nx)],(σ.nx,X)::ob⟩ (put H d v) w:=by
 refine Kq (mK:=Wu vs σ.nx u) (Γl:=[]) a hd O (xby _) (λo f=>uo f) ?_ ?_ ?_ ?_;simp_all;grind;intro S w _ e h;obtain rfl:=xaf.1 h;exact hc S w;show St _ _ (Kz (Wu vs σ.nx u) (σ.nx,X)::OS (Wu vs σ.nx u) fr cx ob) _ _;rw[Lv a b];exact c
def VT:∀{ob:N (K×Od)}{o:K}{X Y:Od},xH ob o=Z X->xH (kL ob o Y) o=Z Y/\yI (kL ob o Y) o=yI ob o
 |(b,e)::r,o,X,Y,h=>by
  unfold xH at h;unfold kL;cases a:Q b o<;>rw[a]at h
  ·obtain⟨h1,c⟩:=VT h;constructor
   ·simp only[WD];unfold xH;rw[a];exact h1
   ·simp only[WD];unfold yI;rw[a];simp only[WD,c]
  ·constructor
   ·simp only[WN];unfold xH;rw[a];rfl
   ·simp only[WN];unfold yI;rw[a];rfl
def ji{o:K}{X:Od}{Γ:N FF}(a:xH σ.ob o=Z X)(h:St fr.we fr.Se (OS vs fr cx σ.ob) Γ w):St fr.we fr.Se (Kz vs (o,X)::OS vs fr cx (yI σ.ob o)) Γ w:=h.perm<|jY a
def pk{ob:N (K×Od)}{o:K}{X Y:Od}{Γ:N FF}(a:xH ob o=Z X)(h:St fr.we fr.Se (Kz vs (o,Y)::OS vs fr cx (yI ob o)) Γ w):St fr.we fr.Se (OS vs fr cx<|kL ob o Y) Γ w:=by
 obtain⟨h1,b⟩:=VT a;have:=jY (vs:=vs) (fr:=fr) (cx:=cx) h1;rw[b]at this;exact h.perm this.symm
def ib{o o2:K}{X Y:Od}{Γ:N FF}(a:Q o o2=I)(b:xH σ.ob o=Z X)(hc:xH σ.ob o2=Z Y)(h:St fr.we fr.Se (OS vs fr cx σ.ob) Γ w):
 St fr.we fr.Se (Kz vs (o,X)::Kz vs (o2,Y)::OS vs fr cx (yI (yI σ.ob o) o2)) Γ w:=by
 have h1:xH (yI σ.ob o) o2=Z Y:=by rw[au<|λe=>by subst e;simp at a];exact hc
 exact(h.perm<|jY b).perm<|(jY h1).cons _
def moU{o:K}{u:jp}{X:Od}:Kz (Wu vs o u) (o,X)=Kz (λ_=>u) (0,X):=by cases X<;>simp only[Kz,wy]
def zrp{S:K->Prop}{w:jP}:(YY [.slice wW 0 0]).p S 0 (xeG (.slice wW 0 0)).toList w:=⟨_,O,O,O⟩
def zlv(a:y6 P cf.tt){k:Sg->V R}(hd:wZ cx d=qR)(h:Tw cf cx σ d t x y k=Z r):lK P cx ⟨d,.makeSlice t x y,ty,wl,wn,g⟩ σ k r:=by
 unfold Tw at h;split at h;rename_i s E B ht;have⟨hi,h⟩:=yo h;split at h;rename_i M E1 Q n f hn;have⟨j,C,h⟩:=zb5 h;have⟨i,h⟩:=Ya h;have⟨xs,l,h⟩:=wX h;have F:=zaa a f O;refine⟨_,h,xby _,λfr vs H w G=> ?_⟩;have⟨m,o⟩:=G;have⟨S0,_,c⟩:=o.ex;have q:ev H x=.int .i64 (j:J):=by rw[(vg hn<|zO c x).1,C]
 have A:=(a _ _ f).2.1;refine(Tl (e:=YY [.slice wW 0 0]) (z:=0) (xs:=xs) (n:=j) (qY a ht) F q ((zbW hi).symm.trans q) A i (λ_ _=>zrp) l w o).mono ?_;rintro v w' ⟨b,rfl,_,K⟩;have hc:X xs=j:=by rw[l];exact xaF
 have h1:=K.closeF 0 O (by rw[hc];exact Nm _)<|zh0 A i;rw[hc]at h1;refine Ka (vs:=vs) (mk:=.mw) (u:=aF (.slice (Z ⟨b,0,wW⟩) j j) [.slice wW 0 0]) m hd m.o1 (λ_=>O) (λS w=>by simp only[vP,wy];rfl) ?_;rw[moU];refine St.grp.2<|St.pr (p:=X ([.slice wW 0 0]:N jp)=X ([[]]:N (N s.D))) O ?_;have L:=St.nilO (e:=s.rep) (E:=E1) h1;exact L.perm<|xdY ..;cases h
 cases h
def zmY{a:V aC}{n c:K}:(Value.slice a n c).oneCell'=qR/\(Value.slice a n c).cells= #[.slice a n c]:=⟨O,O⟩
def EJ{α:Type}{e:zZ α}{E:ut}{v:jp}{xs:N α}{S:K->Prop}(h:(mO e E v xs).p S w):v.oneCell'=qR/\v.cells= #[v]:=by rcases gk h with⟨rfl,_⟩|⟨b,cap,rfl,_⟩<;>exact zmY
def znB(b:y6 P cf.tt)(l:ua P cf.tt){n:K}{ps:Z5 (K×uL)}{k:Sg->V R}(hd:wZ cx d=qR)(h:zgj cf cx σ d t n ps.toList k=Z r):lK P cx ⟨d,.buildSlice t n ps,ty,wl,wn,g⟩ σ k r:=by
 unfold zgj at h;split at h;rename_i s E B x ht o;have⟨hn,h⟩:=yo h;have hn:=yh hn;subst hn;split at h;rename_i o2 hi;split at h;rename_i L E1 ys c;have⟨q,h⟩:=yv h;cases q;have⟨bytes,f,z⟩:=Uw b l ht;refine⟨_,h,xby _,λfr vs H w A=> ?_⟩;have⟨j,hc⟩:=A;have⟨S0,_,a⟩:=hc.ex;have hl:ev H x=vs o2:=zj hi<|zO a x;have⟨q1,q2⟩:=wI (ji c hc) (i:=0) (m:=mO s.rep E1 (vs o2) ys) O λS hp=>EJ hp;have C:jS [(0,vs o2)]=[vs o2]:=by rw[zmv,q2]
 refine(zgZ (e:=YY [vs o2]) (zs:=[0]) (len:=1) (parts:=ps.toList) (vs:=[(0,vs o2)]) (qY b ht) z (xdp) O (by show 1*1<=_;lia) (by rw[o];simp[hl]) (λS w F=>⟨by rw[q2];rfl,ul⟩) (λS w F=> ?_) w<|ji c hc).mono ?_;rw[C];exact⟨[vs o2],[],O,⟨_,O,q1,O⟩,O⟩
 rintro v w' ⟨M,rfl,_,G⟩;refine Ka (vs:=vs) (mk:=.mw) (u:=aF v [vs o2]) j hd (λe J=>j.o1 e<|ZB e J) (λ_=>O) (λS w=>by simp only[vP,wy];rfl) ?_;rw[moU];exact St.grp.2<|St.pr (p:=X ([vs o2]:N jp)=X ([ys]:N (N s.D))) O G;cases h
 cases h
 cases h
def zhe(C:y6 P cf.tt){m:ut}{k:Sg->V R}(hd:wZ cx d=qR)(h:Nk cf σ d m k=Z r):lK P cx ⟨d,.alloc m,ty,wl,wn,g⟩ σ k r:=by
 unfold Nk at h;split at h;rename_i s E B ht;have hi:=zaa C ht O;refine⟨_,h,xby _,λfr vs H w o=> ?_⟩;have⟨f,q⟩:=o;refine(Az (e:=(YY [.slice wW 0 0]).c) (z:=0) hi (λS w=>zrp (S:=S) (w:=w)) w q).mono ?_;rintro v w' ⟨b,rfl,_,A⟩;refine Ka (vs:=vs) (mk:=.mw) (u:=aF (.pointer<|some ⟨b,0,wW⟩) [.slice wW 0 0]) f hd f.o1 (λ_=>O) (λS w=>by simp only[vP,wy];rfl) ?_;rw[moU];refine St.grp.2<|St.pr (p:=X ([.slice wW 0 0]:N jp)=1) O ?_;exact(St.nilO (e:=s.rep) (E:=E)<|A.toP 0 O).perm<|xdY ..;rename_i a n B ht;split at h;rename_i i E1 M;split at h;rename_i off s K st j;have⟨F,hc,Q,G,_,J⟩:=(C _ _ ht).1;simp only at hc G J;refine⟨_,h,xby _,λfr vs H w o=> ?_⟩;have⟨f,q⟩:=o;refine(Az (e:=dj a.rep off (st ([]:N s.D)) [.slice wW 0 0]) (z:=(a.z,0)) hc (λS w=>zmJ j (G S w) (J _ _ _ _ _ _ j) O) w q).mono ?_;rintro v w' ⟨b,rfl,_,A⟩;refine Ka (vs:=vs) (mk:=.mw) (u:=aF (.pointer<|some ⟨b,0,wW⟩) [.slice wW 0 0]) f hd f.o1 (λ_=>O) (λS w=>by simp only[vP,wy];rfl) ?_;rw[moU];refine St.grp.2<|St.pr (p:=X ([.slice wW 0 0]:N jp)=1/\vrP s (xu n a i)) ⟨O,_,_,_,j⟩ ?_;have L:=(St.nilO (e:=s.rep) (E:=E1)<|A.toP 0 O).perm<|xdY ..;show St _ _ (mP (dj a.rep (XJ<|xu n a i) (ZL s (xu n a i) []) [.slice wW 0 0]) m _ (a.z,0)::mO s.rep E1 (.slice wW 0 0) []::_) _ _;rw[j];have hp:ZL s (Z ⟨off,.l s,K,st⟩) ([]:N s.D)=st ([]:N s.D):=Z0 λz=>sM;rw[hp];exact L;cases h
 cases h
 cases h
theorem zky{v:V Dv}{o:K}(h:O4 σ v=Z o):∃t n i E b E1 z xs,v=Z (.vf o t n i)/\xH σ.ob o=Z (.vr t E b E1 n i z xs):=by
 unfold O4 at h;split at h;rename_i e c n0 i;split at h;rename_i s E b E1 n j z xs f;cases a:Q i j && (Q n0 n && (Ty.same c s).isSome)<;>rw[a]at h
 cases h
 cases h;rw[xae,xae]at a;obtain rfl:=yh a.1;obtain rfl:=yh a.2.1;obtain rfl:=J0 a.2.2;grind
 cases h
 cases h
def DT{hv:N jp}(h:X hv=1):hv=[hv.headD XS]:=by
 match hv,h with
 |[a],_=>rfl
theorem zki(C:y6 P cf.tt){o:K}{k:Sg->V R}(hd:wZ cx d=qR)(D:xG cx σ x=Z (.mw o))(h:zbt cf σ d t o k=Z r):lK P cx ⟨d,.load t x,ty,wl,wn,g⟩ σ k r:=by
 unfold zbt at h;split at h;rename_i q E' B s E a xs ht i;have⟨l,F,_⟩:=Xj C ht;refine⟨_,h,xby _,λfr vs H w G=> ?_⟩;have⟨m,hc⟩:=G;have⟨S0,_,j⟩:=hc.ex;have hi:ev H x=yR (vs o):=zj D<|zO j x;have⟨n,h1⟩:=St.unpr<|St.grp.1<|ji i hc;have⟨b,v,J⟩:=h1.openP 0 O;refine(SH (V8 (e:=(YY<|wg<|vs o).c) (f:=YY<|wg<|vs o) (z':=0) (up:=id) 0 O (hi.trans v) (Sub.self (YY<|wg<|vs o) 0) F) w J).mono ?_;rintro u w' ⟨_,rfl,_,z⟩;have⟨S1,_,L⟩:=z.ex;have hu:=zfV L.1;have hl:=DT n;have M:u=(wg<|vs o).headD XS:=by grind
 have A:=(z.weak (Δ:=GS P vs H fr cx σ) λS w h=>h.2).toP 0 O;rw[<-v]at A;refine Ka (vs:=vs) (mk:=.ow) (u:=u) m hd (λe N=> ?_) (λ_=>O) (λS w=>KS S w) ?_;have⟨Q,g1,T⟩:=VR i e N;rw[<-T];exact m.o1 Q g1;rw[UO,M];have U:St fr.we fr.Se (mO s.rep E ((wg<|vs o).headD XS) xs::(Kz vs (o,.ho a)::OS vs fr cx (yI σ.ob o))) (GS P vs H fr cx σ) w':=by have h5:St fr.we fr.Se (mP (YY<|wg<|vs o).c a (yR<|vs o) 0::mO s.rep E ((wg<|vs o).headD XS) xs::OS vs fr cx (yI σ.ob o)) (GS P vs H fr cx σ) w':=A;have h6:=St.pr (p:=X (wg<|vs o)=1) n h5;have h7:St fr.we fr.Se ([mPr<|X (wg<|vs o)=1,mP (YY<|wg<|vs o).c a (yR<|vs o) 0]++mO s.rep E ((wg<|vs o).headD XS) xs::OS vs fr cx (yI σ.ob o)) (GS P vs H fr cx σ) w':=h6;exact(St.grp.2 h7).perm<|xdY ..
 have hp:=jY (vs:=vs) (fr:=fr) (cx:=cx) (VT (Y:=.ho a) i).1;rw[(VT (Y:=.ho a) i).2]at hp;exact U.perm<|hp.symm.cons _;cases h
def zhh(c:y6 P cf.tt){ps:Z5 (K×uL)}{k:Sg->V R}(hd:wZ cx d=qR)(h:Nr cf cx σ d t ps.toList k=Z r):lK P cx ⟨d,.build t ps,ty,wl,wn,g⟩ σ k r:=by
 unfold Nr at h;split at h;rename_i e n B i _ ht hv;have⟨f,j,o,l,_,hi⟩:=(c _ _ ht).1;have⟨a,_,⟨fs,v,pl,A,m⟩,_⟩:=(c _ _ ht).2.2.2;simp only at j o l hi a m;have⟨hn,h⟩:=yo h;split at h;rename_i off s U st b
 have⟨z,h,C⟩:=TP h;have D:∀F,ES P ⟨d,.build t ps,ty,wl,wn,g⟩ cx σ F [(0,.dz e z n i)]:=λF=>Zi λH w S vs Y hl=>by
  have E:=C P vs H S w λx G=>yO hl (by simpa[xaC]using G);refine⟨_,_,_,_,[hbF n e (ps.toList.map λq:K×uL=>(q.1,ev H q.2)) e.z z],[],IU (e:=e.rep) (z0:=e.z) (z:=z) (parts:=ps.toList) (a▸j) a l ⟨fs,v,A⟩ O (λout=>out[off]? =Z (.slice wW 0 0))<|λS w h cs J hc=> ?_,ul,⟨E,ul⟩,λu w' L M=>zA ⟨M.1,_,b,L⟩⟩;have⟨out,q1,q2,N⟩:=HB.fill m h.1 hc;refine⟨out,q1,q2,?_⟩;rw[N i _ b (λp hp=> ?_) O,J];exact hi _ _ _ _ _ _ b;obtain⟨q,Q,rfl⟩:=xat.1 hp;have:=xaV.1 hn q Q;intro e1;simp only at e1;rw[e1]at this;simp at this
 exact⟨_,h,Nm _,λfr vs H w T=>zmn (D _).mono hd (by rfl) T⟩;cases h
 cases h
def zkB(Q:y6 P cf.tt){o:K}{k:Sg->V R}(hd:wZ cx d=qR)(hi:O4 σ (xG cx σ x)=Z o)(h:zai cf σ d t o k=Z r):lK P cx ⟨d,.load t x,ty,wl,wn,g⟩ σ k r:=by
 have⟨t0,n0,i,m,c,a,z',l,hn,s⟩:=zky hi;unfold zai at h;split at h;rename_i s0 q B s1 E s2 E1 n j z xs ht v;rw[s]at v;simp only[xav,Od.vr.injEq]at v;obtain⟨rfl,rfl,rfl,rfl,rfl,rfl,T,U⟩:=v;cases T;cases U;have⟨hg,h⟩:=yo h;have⟨C,hr,_⟩:=Xj Q ht;refine⟨_,h,xby _,λfr vs H w hR=> ?_⟩;have⟨D,F⟩:=hR;have⟨S0,_,A⟩:=F.ex;have⟨b',f,G,hf,hv⟩:=zj hn<|zO A x;have⟨⟨hc,hw⟩,h1⟩:=St.unpr<|St.grp.1<|ji s F;have⟨b,J,h2⟩:=h1.openP 0 O;rw[J]at G;cases G;have hl:XJ (xu n0 t0 i)=f.off:=by rw[hf];rfl
 have hm:ev H x=.pointer (Z ⟨b',XJ<|xu n0 t0 i,wW⟩):=by rw[hl];exact hv.trans<|by rw[xaM]
 refine(SH (V8 (e:=dj t0.rep (XJ<|xu n0 t0 i) (ZL c (xu n0 t0 i) [])<|wg<|vs o) (f:=YY<|wg<|vs o) (z':=0) (up:=λr=>(z',r)) 0 O hm Sub.hole hr) w h2).mono ?_;rintro u w' ⟨_,rfl,_,L⟩;have⟨S1,_,hy⟩:=L.ex;have M:=zfV hy.1;have hA:=DT hc;have hC:u=(wg<|vs o).headD XS:=by rw[hA]at M;simpa using M.symm
 have N:=(L.weak (Δ:=GS P vs H fr cx σ) λS w h=>h.2).toP 0 O;rw[<-J]at N;refine Ka (vs:=vs) (mk:=.ow) (u:=u) D hd (λe he=> ?_) (λ_=>O) (λS w=>KS S w) ?_;have⟨e',g1,g2⟩:=VR s e he;rw[<-g2];exact D.o1 e' g1;rw[UO,hC];have h4:St fr.we fr.Se (mO c.rep a ((wg<|vs o).headD XS) l::(Kz vs (o,.vh t0 m c a n0 i z')::OS vs fr cx (yI σ.ob o))) (GS P vs H fr cx σ) w':=by have h5:St fr.we fr.Se (mP (dj t0.rep (XJ<|xu n0 t0 i) (ZL c (xu n0 t0 i) [])<|wg<|vs o) m (yR<|vs o) (z',0)::mO c.rep a ((wg<|vs o).headD XS) l::OS vs fr cx (yI σ.ob o)) (GS P vs H fr cx σ) w':=N;have h6:=St.pr (p:=X (wg<|vs o)=1/\vrP c (xu n0 t0 i)) ⟨hc,hw⟩ h5;have h7:St fr.we fr.Se ([mPr<|X (wg<|vs o)=1/\vrP c (xu n0 t0 i),mP (dj t0.rep (XJ<|xu n0 t0 i) (ZL c (xu n0 t0 i) [])<|wg<|vs o) m (yR<|vs o) (z',0)]++mO c.rep a ((wg<|vs o).headD XS) l::OS vs fr cx (yI σ.ob o)) (GS P vs H fr cx σ) w':=h6;exact(St.grp.2 h7).perm<|xdY ..
 have hp:=jY (vs:=vs) (fr:=fr) (cx:=cx) (VT (Y:=.vh t0 m c a n0 i z') s).1;rw[(VT (Y:=.vh t0 m c a n0 i z') s).2]at hp;exact h4.perm<|hp.symm.cons _;cases h
structure zfp(a b:jp):Prop where
 out:yR b=yR a
 hv:∀(r:K) (v:jp),(wg a)[r]? =Z v->(wg b)[r]? =Z v
def ze4{o n:K}(c:zfp (vs o) (vs n)){dv:Dv}{v:jp}{S:K->Prop}(h:(vP P vs dv v).p S w):(vP P vs (zkj o n dv) v).p S w:=by
 cases dv with
 |mw p=>
  show(vP P vs (bif Q p o then .mw n else .mw p) v).p S w;cases a:Q p o
  exact h;obtain rfl:=yh a;exact(show v=yR (vs p)from h).trans c.out.symm
 |mv p l m=>
  show(vP P vs (bif Q p o then .mv n l m else .mv p l m) v).p S w;cases a:Q p o
  exact h;obtain rfl:=yh a;simp only[vP,WN]at h⊢;rw[c.out];exact h
 |hp p j=>
  show(vP P vs (bif Q p o then .hp n j else .hp p j) v).p S w;cases a:Q p o
  exact h;obtain rfl:=yh a;simp only[vP,WN]at h⊢;rw[c.out];exact h
 |rw p r=>
  show(vP P vs (bif Q p o then .rw n r else .rw p r) v).p S w;cases a:Q p o
  exact h;obtain rfl:=yh a;exact c.hv _ _ h
 |rp p t r j f=>
  show(vP P vs (bif Q p o then .rp n t r j f else .rp p t r j f) v).p S w;cases a:Q p o
  exact h;obtain rfl:=yh a;have⟨h1,b,m,cap,e,i,k⟩:=h;exact⟨h1,b,m,cap,c.hv _ _ e,i,k⟩
 |_=>exact h
theorem zgy{o n p:K}{v:Dv}(h:vC (zkj o n v)=Z p):vC v=Z p\/p=n:=by
 cases v with
 |mw q=>
  have h:vC (bif Q q o then Dv.mw n else .mw q)=Z p:=h;cases a:Q q o<;>rw[a]at h
  grind;cases h;exact .inr O
 |mv q l m=>
  have h:vC (bif Q q o then Dv.mv n l m else .mv q l m)=Z p:=h;cases a:Q q o<;>rw[a]at h
  grind;cases h;exact .inr O
 |hp q j=>
  have h:vC (bif Q q o then Dv.hp n j else .hp q j)=Z p:=h;cases a:Q q o<;>rw[a]at h
  grind;cases h;exact .inr O
 |rw q r=>
  have h:vC (bif Q q o then Dv.rw n r else .rw q r)=Z p:=h;cases a:Q q o<;>rw[a]at h
  grind;cases h;exact .inr O
 |rp q t r j f=>
  have h:vC (bif Q q o then Dv.rp n t r j f else .rp q t r j f)=Z p:=h;cases a:Q q o<;>rw[a]at h
  exact .inl h;cases h;exact .inr O
 |_=>exact .inl h
theorem O1{o n:K}:∀{rg:N (K×K×Dv)},∀e∈zk6 o n rg,∃a∈rg,e=(a.1,a.2.1,zkj o n a.2.2)
 |[],e,he=>kW he H1
 |(t,i,v)::rg,e,he=>by
  obtain rfl|he:=xal.1 he
  simp_all;have⟨a,h1,b⟩:=O1 e he;grind
theorem Pe{o n:K}:∀{rg:N (K×K×Dv)},∀e∈Gf o n rg,e∈rg\/∃a∈rg,∃p,a.2.2=.mw p/\e=(a.1,a.2.1,bif Q p o then .mw n else .mw p)
 |[],e,he=>kW he H1
 |(t,i,v)::rg,e,he=>by
  have b:∀e∈Gf o n rg,e∈(t,i,v)::rg\/∃a∈(t,i,v)::rg,∃p,a.2.2=.mw p/\e=(a.1,a.2.1,bif Q p o then .mw n else .mw p):=λe he=>by
   obtain h|⟨a,h1,p,c,f⟩:=Pe e he
   simp_all;grind
  cases v with
  |mw p=>
   rcases xal.1 (show e∈(t,i,bif Q p o then Dv.mw n else .mw p)::Gf o n rg from he)with rfl|he
   simp_all;grind
  |_=>
   obtain rfl|he:=xal.1 he
   exact .inl<|IR;exact b e he
theorem rk{u v:jp}{o:K}{X:Od}{ob:N (K×Od)}{rg:N (K×K×Dv)}(m:Bd cx σ)(hd:wZ cx d=qR)(n:∀e∈ob,e.1<σ.nx)
 (hc:∀e∈rg,∃a∈qU σ.rg d [],e.1=a.1/\e.2.1=a.2.1/\(∀p,vC e.2.2=Z p->vC a.2.2=Z p\/p=σ.nx)/\∀v S w,(vP P (Wu vs σ.nx u) a.2.2 v).p S w->(vP P (Wu vs σ.nx u) e.2.2 v).p S w)
 (hi:St fr.we fr.Se (Kz (Wu vs σ.nx u) (σ.nx,X)::OS vs fr cx ob) (GS P vs H fr cx σ) w):nV P fr cx σ.nx vs ⟨σ.nx+1,rg,(σ.nx,X)::ob⟩ (put H d v) w:=by
 have⟨c,q⟩:dq P fr cx ⟨σ.nx+1,qU σ.rg d [],(σ.nx,X)::ob⟩ (Wu vs σ.nx u) (put H d v) w:=by refine Ow (xS:=⟨σ.nx+1,qU σ.rg d [],(σ.nx,X)::ob⟩) (l:=[]) (vs:=vs) (mK:=Wu vs σ.nx u) (Γl:=[]) m hd O (xby _) (λo j=>uo j) (λ_ b=>kW b H1) ?_ (λS w _ e b=>kW b H1) ?_;grind;show St _ _ (Kz (Wu vs σ.nx u) (σ.nx,X)::OS (Wu vs σ.nx u) fr cx ob) _ _;rw[Lv m n];exact hi
 refine⟨Wu vs σ.nx u,λo j=>uo j,⟨c.o1,c.o2,λe b p hp=> ?_,c.r2⟩,q.weak λS w h=>zD.append (k9.2 λf s=> ?_)<|zD.right h⟩;have⟨a,h1,_,_,k,_⟩:=hc e b;obtain h|rfl:=k p hp
 exact c.r1 a h1 p h;simp_all;obtain⟨e,b,rfl⟩:=xat.1 s;have⟨a,h1,k,z,_,A⟩:=hc e b;have B:=J8 (zD.left h) (t:=a.1) (i:=a.2.1) (d:=a.2.2) h1;rw[k,z];exact JH B λu C=>A u S w C
def zjB{u:jp}{o:K}(b:zfp (Wu vs σ.nx u o) (Wu vs σ.nx u σ.nx)):∀e∈zk6 o σ.nx σ.rg,∃a∈qU σ.rg wW [],e.1=a.1/\e.2.1=a.2.1/\(∀p,vC e.2.2=Z p->vC a.2.2=Z p\/p=σ.nx)/\∀v S w,(vP P (Wu vs σ.nx u) a.2.2 v).p S w->(vP P (Wu vs σ.nx u) e.2.2 v).p S w:=by intro e c;obtain⟨a,h1,rfl⟩:=O1 e c;exact⟨a,h1,O,O,λp hp=>zgy hp,λv S w h=>ze4 b h⟩
def sC{u:jp}{o:K}{rg:N (K×K×Dv)}(f:yR (Wu vs σ.nx u σ.nx)=yR (Wu vs σ.nx u o)):∀e∈Gf o σ.nx rg,∃a∈rg,e.1=a.1/\e.2.1=a.2.1/\(∀p,vC e.2.2=Z p->vC a.2.2=Z p\/p=σ.nx)/\∀v S w,(vP P (Wu vs σ.nx u) a.2.2 v).p S w->(vP P (Wu vs σ.nx u) e.2.2 v).p S w:=by
 intro e i;obtain h|⟨a,h1,p,j,rfl⟩:=Pe e i
 exact⟨e,h,O,O,λp hp=> .inl hp,λv S w h=>h⟩;refine⟨a,h1,O,O,λq c=> ?_,λv S w h=> ?_⟩;skip;cases b:Q p o
 simp_all;simp only[b]at c;cases c;exact .inr O
 rw[j]at h;cases b:Q p o
 exact h;have hp:=yh b;subst hp;exact h.trans f.symm
def zaS{α:Type}{a:N (N α)}{r:K}(h:r<X a):a[r]? =Z (Zf a r):=by simp_all [Zf]
def dV{o:K}{s:Ty}{E E1:ut}{a:N (N s.D)}{ix:N K}{ms:N MF}{Γ:N FF}(h:St fr.we fr.Se (Kz vs (o,.mat s E E1 a ix)::ms) Γ w):
 X (wg<|vs o)=X a/\St fr.we fr.Se ((mO (YY<|wg<|vs o) E (yR<|vs o) ix::vN s.rep E1 (wg<|vs o) a)++ms) Γ w:=St.unpr<|St.grp.1 h
def SM{u:jp}{s:Ty}{E E1:ut}{a:N (N s.D)}{ix:N K}{ms:N MF}{Γ:N FF}(hl:X (wg u)=X a)(h:St fr.we fr.Se ((mO (YY<|wg u) E (yR u) ix::vN s.rep E1 (wg u) a)++ms) Γ w):
 St fr.we fr.Se (Bh s.rep E E1 u a ix::ms) Γ w:=St.grp.2<|St.pr hl h
def zqB{k:Sg->V R}{n:TI}(J:y6 P cf.tt)(ht:YF cf t=Z n){o p j:K}{e:Ty}{f:Fl e.D}(s:xG cx σ x=Z (.rp o e p j f))(h:ui σ n.ty (xG cx σ x) (xG cx σ y) k=Z r):
 lK P cx ⟨wW,.store t x y,ty,wl,wn,g⟩ σ k r:=by
 have⟨u,A,_⟩:=Xj J ht;rw[s]at h;simp only[ui]at h;split at h;rename_i s' E E1 a ix hc c _;have⟨L,h1⟩:=yv h;cases L;have⟨q,M,N⟩:=Qg h1;have⟨Q,T,h⟩:=wX M;have⟨hc⟩:=hc;refine⟨_,h,Nm _,λfr vs H w U=> ?_⟩;have⟨Y,B⟩:=U;have⟨S0,_,l⟩:=B.ex;have⟨hw,b,m,cap,hv,hj,hy⟩:=zj s<|zO l x;have C:=ji c B;have⟨hn,hp⟩:m=X (Zf (α:=e.D) a p)/\p<X a:=wI C (i:=0) O λS hp=>⟨py (tD (show(Bh e.rep E E1 (vs o) a ix).p S w from hp) hv).1 O,(tD (show(Bh e.rep E E1 (vs o) a ix).p S w from hp) hv).2⟩;have⟨hl,hg⟩:=dV C;have hi:=zjY (e:=e.rep) (E:=E) (E1:=E1) (v:=yR<|vs o) (ix:=ix) hv (zaS (α:=e.D) hp)<|OS vs fr cx<|yI σ.ob o;have⟨b',F,hA,hC,hD,hs⟩:=hg.openO (p+1) hi W;cases hA;rw[<-hc]at A;have hm:=(Sub.rowT0 e.rep cap (Zf (α:=e.D) a p) j ((Zf (α:=e.D) a p).getD j e.z)<|getD_some e.z W).comp<|hw<|(Zf (α:=e.D) a p).getD j e.z;refine(uV (f:=f.f.rep) (y':=q) (p+1) (vH hi) hy O hm A (λS w ha=>N P vs H S w<|zO ha y) w hs).mono ?_;rintro v w' ⟨_,rfl,_,hE⟩;refine iw (vs:=vs) Y c<|pk c ?_;have hd:X (xga (Zf (α:=e.D) a p) j<|f.set q<|(Zf (α:=e.D) a p).getD j e.z)=X (Zf (α:=e.D) a p):=xaP ..;have G:=hE.closeF (p+1) (vH<|vH hi) (by rw[hd];exact hC) hD;rw[set_set,set_set,hd,Re hv hp hl]at G;rw[T];exact SM (by rw[show(zrs (α:=e.D) a p _).length=X a from xaP ..];exact hl) G
 cases h
def zrm{k:Sg->V R}{n:TI}(J:y6 P cf.tt)(L:YF cf t=Z n){o j a p:K}(s:xG cx σ x=Z (.hp o j))(e:xG cx σ y=Z (.rw a p))(h:ui σ n.ty (xG cx σ x) (xG cx σ y) k=Z r):
 lK P cx ⟨wW,.store t x y,ty,wl,wn,g⟩ σ k r:=by
 have⟨u,hd,_⟩:=Xj J L;rw[s,e]at h;simp only[ui]at h;have⟨ht,h⟩:=yo h;obtain rfl:=yh ht;split at h;rename_i z E E1 A ix q l M;have⟨iz,N,h⟩:=wX h;refine⟨_,h,Nm _,λfr vs H w Q=> ?_⟩;have⟨T,B⟩:=Q;have⟨S0,_,c⟩:=B.ex;have⟨b,m,cap,hv,hj,U⟩:=zj s<|zO c x;have Y:(wg<|vs a)[p]? =Z (ev H y):=zj e<|zO c y;have C:=ji l B;have⟨hn,hi⟩:m=X ix/\(ev H y).oneCell'=true:=wI C (i:=0) O λS hp=>⟨py (Oe (show(Bh z.rep E E1 (vs a) A ix).p S w from hp)).2.1 hv,(EJ (tD (show(Bh z.rep E E1 (vs a) A ix).p S w from hp) Y).1).1⟩;have⟨hl,hg⟩:=dV C;have⟨b',D,F,hC,hD,hs⟩:=hg.openO 0 O W;rw[hv]at F;cases F;have hm:=Sub.rowT0 (YY<|wg<|vs a) cap ix j (ix.getD j 0) (getD_some 0 W);rw[M]at hd;refine(uV (f:=YY<|wg<|vs a) (y':=p) 0 O U O hm hd (λS w ha=> ?_) w hs).mono ?_
 exact zc7 (zj e<|zO ha y) hi
 rintro v w' ⟨_,rfl,_,hE⟩;refine iw (vs:=vs) T l<|pk l ?_;have hc:X (ix.set j p)=X ix:=xaP ..;have G:=hE.closeF 0 O (by rw[hc];exact hC) hD;rw[hc,<-hv]at G;rw[N];exact SM hl G;cases h
theorem zj3{u:jp}{o:K}{hv:N jp}(c:wg u=wg (vs o)++hv)(a:yR u=yR (vs o))(b:o<σ.nx):zfp (Wu vs σ.nx u o) (Wu vs σ.nx u σ.nx):=by rw[uo b,wy];refine⟨a,λr v h=> ?_⟩;grind
def Aa{o:K}{X:Od}(a:Bd cx σ)(h:xH σ.ob o=Z X):o<σ.nx:=by have⟨i,h1,_⟩:=vm h;exact a.o1 _<|xbu h1
def oM(a:Bd cx σ){o p:K}:∀e∈yI (yI σ.ob o) p,e.1<σ.nx:=λe b=>a.o1 e<|ZB e<|ZB e b
def zpV{k:Sg->V R}{n:TI}(L:y6 P cf.tt)(M:YF cf t=Z n){o j o2:K}(s:xG cx σ x=Z (.hp o j))(z:xG cx σ y=Z (.ow o2))(h:ui σ n.ty (xG cx σ x) (xG cx σ y) k=Z r):
 lK P cx ⟨wW,.store t x y,ty,wl,wn,g⟩ σ k r:=by
 have⟨A,B,_⟩:=Xj L M;rw[s,z]at h;simp only[ui]at h;have⟨C,h⟩:=yo h;rw[xcS]at C;split at h;rename_i e E E1 a ix s2 E2 ys q D N Q;have⟨T,h0⟩:=yo h;obtain rfl:=yh T;have⟨U,h1⟩:=yv h0;cases U;have⟨Y,hz,h2⟩:=wX h1;have⟨iz,hi,h3⟩:=wX h2;refine⟨_,h3,xby _,λfr vs H w hR=> ?_⟩;have⟨l,F⟩:=hR;have⟨S0,_,c⟩:=F.ex;have⟨b,m,cap,hv,hj,hD⟩:=zj s<|zO c x;have hF:ev H y=vs o2:=zj z<|zO c y;have hc:=ib C D N F;have hn:m=X ix:=wI hc (i:=0) O λS hp=>py (Oe (show(Bh e.rep E E1 (vs o) a ix).p S w from hp)).2.1 hv;have⟨hm,_⟩:(vs o2).oneCell'=true/\_:=wI hc (i:=1) (m:=mO e.rep E1 (vs o2) ys) O λS hp=>EJ hp;have hl:=(dV hc).1
 have hg:St fr.we fr.Se ((mO (YY<|wg (vs o)++[vs o2]) E (yR<|vs o) ix::vN e.rep E1 (wg (vs o)++[vs o2]) (a++[ys]))++OS vs fr cx (yI (yI σ.ob o) o2)) (GS P vs H fr cx σ) w:=
  St.grp.1 (St.adopt hl<|St.grp.2 (dV hc).2)
 have⟨b',G,J,hG,hH,hs⟩:=hg.openO 0 O W;rw[hv]at J;cases J;have hr:=Sub.rowT0 (YY<|wg (vs o)++[vs o2]) cap ix j (ix.getD j 0) (getD_some 0 W);rw[Q]at B;refine(uV (f:=YY<|wg (vs o)++[vs o2]) (y':=X a) 0 O hD hF hr B (λS w ha=>zc7 (by rw[<-hl];simp) hm) w hs).mono ?_;rintro v w' ⟨_,rfl,_,hI⟩;have hd:X (ix.set j (X a))=X ix:=xaP ..;have ht:=hI.closeF 0 O (by rw[hd];exact hG) hH;rw[hd,<-hv]at ht;refine rk (o:=o) (u:=aF (yR<|vs o)<|wg (vs o)++[vs o2]) l O (oM l) (zjB<|zj3 O O<|Aa l D) ?_;rw[moU,hi,hz];refine SM (u:=aF (yR<|vs o)<|wg (vs o)++[vs o2]) (by show(wg (vs o)++[vs o2]).length=X (a++[ys]);simp[hl]) ht
 cases h
def zrq{k:Sg->V R}{C:TI}(T:y6 P cf.tt)(U:YF cf t=Z C){o o2:K}(D:xG cx σ x=Z (.mw o))(E:xG cx σ y=Z (.ow o2))(h:ui σ C.ty (xG cx σ x) (xG cx σ y) k=Z r):
 lK P cx ⟨wW,.store t x y,ty,wl,wn,g⟩ σ k r:=by
 have⟨F,hc,_⟩:=Xj T U;rw[D,E]at h;simp only[ui]at h;have⟨hd,h⟩:=yo h;rw[xcS]at hd;split at h;rename_i a n s ys q G Y hm
 refine⟨_,h,xby _,λfr vs H w hR=> ?_⟩;have⟨z,J⟩:=hR;have⟨S0,_,j⟩:=J.ex;have hn:ev H x=yR (vs o):=zj D<|zO j x;have hq:ev H y=vs o2:=zj E<|zO j y;have L:=ib hd G Y J;have⟨hg,_⟩:(vs o2).oneCell'=true/\_:=wI L (i:=1) (m:=mO n.rep s (vs o2) ys) O λS hp=>EJ hp;have⟨hl,h1⟩:=St.unpr<|St.grp.1 L;have h1:St fr.we fr.Se (mP (YY<|wg<|vs o).c a (yR<|vs o) 0::mO n.rep s (vs o2) ys::OS vs fr cx (yI (yI σ.ob o) o2)) (GS P vs H fr cx σ) w:=h1;have⟨b,M,h2⟩:=h1.openP 0 O;have hi:=DT hl;have h3:=h2.conv (i:=0) (m:=mB (YY<|wg<|vs o).c a b 0) (m':=mB (YY<|wg (vs o)++[vs o2]).c a b 0) O O λS hp=>by
  have⟨cs,g1,u,l,A,B⟩:=hp;exact⟨cs,g1,u,by rw[xbi (xaA.1 l).1];exact l,A,B⟩
 rw[hm]at hc;refine(uV (e:=(YY<|wg (vs o)++[vs o2]).c) (f:=YY<|wg (vs o)++[vs o2]) (z':=0) (y':=1) (up:=id) 0 O (hn.trans M) hq (Sub.self (YY<|wg (vs o)++[vs o2]) 0) hc (λS w ha=>zc7 (by rw[hi];rfl) hg) w h3).mono ?_;rintro v w' ⟨_,rfl,_,hr⟩;have h4:St fr.we fr.Se (mB (YY<|wg (vs o)++[vs o2]).c a b 1::mO n.rep s (vs o2) ys::OS vs fr cx (yI (yI σ.ob o) o2)) (GS P vs H fr cx σ) w':=hr;have h5:=h4.conv (i:=0) (m:=mB (YY<|wg (vs o)++[vs o2]).c a b 1) (m':=mB (YY [vs o2]).c a b 0) O O λS hp=>by
  have⟨cs,g1,u,l,A,B⟩:=hp;refine⟨cs,g1,u,?_,A,B⟩;rw[hi]at l;exact l
 have Q:=h5.toP 0 O;rw[<-M]at Q;have h7:St fr.we fr.Se (mP (YY [vs o2]).c a (yR<|vs o) 0::mO n.rep s (vs o2) ys::OS vs fr cx (yI (yI σ.ob o) o2)) (GS P vs H fr cx σ) w':=Q;refine rk (o:=o) (u:=aF (yR<|vs o) [vs o2]) z O (oM z) (sC<|by rw[wy,uo<|Aa z G];rfl) ?_;rw[moU];exact St.grp.2<|St.pr (p:=X ([vs o2]:N jp)=1) O h7;cases h
def zpZ{k:Sg->V R}{B:TI}(U:y6 P cf.tt)(Y:YF cf t=Z B){o o2 a n0 i}(C:xG cx σ x=Z (.vf o a n0 i))(D:xG cx σ y=Z (.ow o2))(h:ui σ B.ty (xG cx σ x) (xG cx σ y) k=Z r):
 lK P cx ⟨wW,.store t x y,ty,wl,wn,g⟩ σ k r:=by
 have⟨F,hc,_⟩:=Xj U Y;rw[C,D]at h;simp only[ui]at h;have⟨hd,h⟩:=yo h;rw[xcS]at hd;split at h;rename_i s1 E c E1 n j z s3 E3 ys G ht;have⟨J,h0⟩:=yo h;rw[xae,xae,xae,xae]at J;have⟨⟨⟨g1,q⟩,g3⟩,g4,g5⟩:=J;obtain rfl:=yh g1;obtain rfl:=yh q;obtain rfl:=yh g4;obtain rfl:=J0 g5;have hu:=J0 g3;have⟨hv,hw⟩:=yv h0;cases hv;refine⟨_,hw,xby _,λfr vs H w hR=> ?_⟩;have⟨A,K⟩:=hR;have⟨S0,_,s⟩:=K.ex;have⟨l,f,hi,hf,hz⟩:=zj C<|zO s x;have hA:ev H y=vs o2:=zj D<|zO s y;have L:=ib hd G ht K;have⟨hk,_⟩:(vs o2).oneCell'=true/\_:=wI L (i:=1) (m:=mO c.rep E1 (vs o2) ys) O λS hp=>EJ hp;have⟨⟨hl,hC⟩,h1⟩:=St.unpr<|St.grp.1 L;have h1:St fr.we fr.Se (mP (dj a.rep (XJ<|xu n0 a i) (ZL c (xu n0 a i) [])<|wg<|vs o) E (yR<|vs o) (z,0)::mO c.rep E1 (vs o2) ys::OS vs fr cx (yI (yI σ.ob o) o2)) (GS P vs H fr cx σ) w:=h1;have⟨b,M,h2⟩:=h1.openP 0 O;have Q:=DT hl;obtain rfl:l=b:=by rw[M]at hi;cases hi;rfl
 have hn:XJ (xu n0 a i)=f.off:=by rw[hf];rfl
 have hq:ev H x=.pointer (Z ⟨l,XJ<|xu n0 a i,wW⟩):=by rw[hn];exact hz.trans<|by rw[xaM]
 have h3:=h2.conv (i:=0) (m:=mB (dj a.rep (XJ<|xu n0 a i) (ZL c (xu n0 a i) [])<|wg<|vs o) E l (z,0)) (m':=mB (dj a.rep (XJ<|xu n0 a i) (ZL c (xu n0 a i) [])<|wg (vs o)++[vs o2]) E l (z,0)) O O λS hp=>by
  have⟨cs,g1,q⟩:=hp;exact⟨cs,g1,zju q⟩
 rw[hu]at hc;refine(uV (e:=dj a.rep (XJ<|xu n0 a i) (ZL c (xu n0 a i) [])<|wg (vs o)++[vs o2]) (f:=YY<|wg (vs o)++[vs o2]) (z':=0) (y':=1) (up:=λr=>(z,r)) 0 O hq hA Sub.hole hc (λS w ha=>zc7 (by rw[Q];rfl) hk) w h3).mono ?_;rintro v w' ⟨_,rfl,_,hD⟩;have h4:St fr.we fr.Se (mB (dj a.rep (XJ<|xu n0 a i) (ZL c (xu n0 a i) [])<|wg (vs o)++[vs o2]) E l (z,1)::mO c.rep E1 (vs o2) ys::OS vs fr cx (yI (yI σ.ob o) o2)) (GS P vs H fr cx σ) w':=hD;have h5:=h4.conv (i:=0) (m:=mB (dj a.rep (XJ<|xu n0 a i) (ZL c (xu n0 a i) [])<|wg (vs o)++[vs o2]) E l (z,1)) (m':=mB (dj a.rep (XJ<|xu n0 a i) (ZL c (xu n0 a i) []) [vs o2]) E l (z,0)) O O λS hp=>by
  have⟨cs,g1,q⟩:=hp;exact⟨cs,g1,zqP (by rw[Q];rfl) q⟩
 have T:=h5.toP 0 O;rw[<-M]at T;have h7:St fr.we fr.Se (mP (dj a.rep (XJ<|xu n0 a i) (ZL c (xu n0 a i) []) [vs o2]) E (yR<|vs o) (z,0)::mO c.rep E1 (vs o2) ys::OS vs fr cx (yI (yI σ.ob o) o2)) (GS P vs H fr cx σ) w':=T;refine rk (o:=o) (u:=aF (yR<|vs o) [vs o2]) A O (oM A) (sC<|by rw[wy,uo<|Aa A G];rfl) ?_;rw[moU];exact St.grp.2<|St.pr (p:=X ([vs o2]:N jp)=1/\vrP c (xu n0 a i)) ⟨O,hC⟩ h7;cases h
def zff{k:Sg->V R}{u:TI}(Q:y6 P cf.tt)(T:YF cf t=Z u){o n i j E:K}{s a:Ty}{z:s.D}{f:Fl s.D}{X:s.D->Od}{rest:jp->N MF}
 (A:∀vs z,Kz vs (o,X z)=FP (mPr (A2 (wg<|vs o)=1/\vrP a (xu n s j))::mP (dj s.rep (XJ<|xu n s j) (ZL a (xu n s j) [])<|wg<|vs o) E (yR<|vs o) (z,0)::rest (vs o)))
 (U:xG cx σ x=Z (.vf o s n i)) (c:xH σ.ob o=Z (X z)) (hn:i≠j) (C:xu n s i=Z f) (h:jK (Ty.same f.f u.ty).isSome (CQ (xG cx σ y) f.f λy=>B (f.set y z) λz=>k ⟨σ.nx,σ.rg,kL σ.ob o<|X z⟩)=Z r):
 lK P cx ⟨wW,.store t x y,ty,wl,wn,g⟩ σ k r:=by
 have⟨F,hc,_⟩:=Xj Q T;have⟨Y,h⟩:=yo h;have hp:=J0 Y;have⟨q,l,hq⟩:=Qg h;have⟨z2,hr,h⟩:=wX l;refine⟨_,h,Nm _,λfr vs H w hR=> ?_⟩;have⟨hB,hd⟩:=hR;have⟨S0,_,m⟩:=hd.ex;have h0:=ji c hd;rw[A]at h0;have⟨⟨hl,G⟩,h1⟩:=St.unpr<|St.grp.1 h0;have⟨b,J,l⟩:=h1.openP 0 O;have⟨b',f',hi,L,ht⟩:=zj U<|zO m x;obtain rfl:b'=b:=by rw[J]at hi;cases hi;rfl
 rw[C]at L;cases L;rw[<-hp]at hc;refine(uV (e:=dj s.rep (XJ<|xu n s j) (ZL a (xu n s j) [])<|wg<|vs o) (f:=f.f.rep) (z':=f.get z) (y':=q) (up:=λy=>(f.set y z,0)) 0 O (ht.trans<|by rw[xaM]) O (zbI G C hn) hc (λS w ha=>hq P vs H S w<|zO ha y) w l).mono ?_;rintro v w' ⟨_,rfl,_,hu⟩;refine iw (vs:=vs) hB c<|pk c ?_;have M:=hu.toP 0 O;rw[<-J]at M;rw[A,hr];exact St.grp.2<|St.pr (p:=A2 (wg<|vs o)=1/\vrP a (xu n s j)) ⟨hl,G⟩ M
def zq3{k:Sg->V R}{J:TI}(hT:y6 P cf.tt)(hm:YF cf t=Z J){o n2 i2:K}{t2:Ty}{s:t2.D}(L:xG cx σ x=Z (.mw o))(A:xG cx σ y=Z (.dz t2 s n2 i2))(h:ui σ J.ty (xG cx σ x) (xG cx σ y) k=Z r):
 lK P cx ⟨wW,.store t x y,ty,wl,wn,g⟩ σ k r:=by
 have⟨M,hd,_⟩:=Xj hT hm;rw[L,A]at h;simp only[ui]at h;split at h;rename_i s1 E a E1 n j z xs Q
 have⟨B,h0⟩:=yo h;rw[xae,xae]at B;obtain rfl:=yh B.1;obtain rfl:=yh B.2.1;have hn:=J0 B.2.2;have⟨hq,hr⟩:=yv h0;subst hq;refine⟨_,hr,xby _,λfr vs H w hR=> ?_⟩;have⟨C,hi⟩:=hR;have⟨S0,_,q⟩:=hi.ex;have ht:ev H x=yR (vs o):=zj L<|zO q x;have⟨_,f,T,hj⟩:=zj A<|zO q y;have⟨⟨hl,hu⟩,h1⟩:=St.unpr<|St.grp.1<|ji Q hi;have h1:St fr.we fr.Se (mP (dj t2.rep (XJ<|xu n2 t2 i2) (ZL a (xu n2 t2 i2) [])<|wg<|vs o) E (yR<|vs o) (z,0)::mO a.rep E1 ((wg<|vs o).headD XS) xs::OS vs fr cx (yI σ.ob o)) (GS P vs H fr cx σ) w:=h1;have h1:St fr.we fr.Se (mP (dj t2.rep (XJ<|xu n2 t2 i2) (ZL a (xu n2 t2 i2) [])<|wg<|vs o) E (yR<|vs o) (z,0)::OS vs fr cx (yI σ.ob o)) (GS P vs H fr cx σ) w:=St.drop (i:=1) h1;have⟨b,U,h2⟩:=h1.openP 0 O;have h3:=h2.conv (i:=0) (m:=mB (dj t2.rep (XJ<|xu n2 t2 i2) (ZL a (xu n2 t2 i2) [])<|wg<|vs o) E b (z,0)) (m':=mB (eRw t2.rep.n t2.rep.agg t2.rep.n1).c E b wW) O O λS hp=>by
  have⟨cs,g1,F⟩:=hp;exact⟨cs,g1,znj F⟩
 rw[hn]at hd;refine(uV (e:=(eRw t2.rep.n t2.rep.agg t2.rep.n1).c) (f:=eRw t2.rep.n t2.rep.agg t2.rep.n1) (z':=wW) (y':=Z (ev H y).cells.toList) (up:=id) 0 O (ht.trans U) O (Sub.self _ _) hd (λS w G=>zoW (zj A<|zO G y).1) w h3).mono ?_;rintro v w' ⟨_,rfl,_,hv⟩;have h4:St fr.we fr.Se (mB (eRw t2.rep.n t2.rep.agg t2.rep.n1).c E b (Z (ev H y).cells.toList)::OS vs fr cx (yI σ.ob o)) (GS P vs H fr cx σ) w':=hv;have⟨off,gt,st,hc⟩:=hu;rw[hc]at T;cases T;have h5:=h4.grow (i:=0) (m:=mB (eRw t2.rep.n t2.rep.agg t2.rep.n1).c E b<|some (ev H y).cells.toList) (m':=mB (dj t2.rep off (st ([]:N a.D)) [.slice wW 0 0]) E b (s,0)) O (yL.refl _ _) (λk hk=> .inl hk) λS _ hp G=>by
  have⟨cs,g1,_,_,F⟩:=hp;refine⟨cs,g1,?_⟩;rw[F _ O];exact zmJ hc (YB (zj A<|zO G y).1) hj O
 have Y:=h5.toP 0 O;rw[<-U]at Y;have h7:St fr.we fr.Se (mP (dj t2.rep off (st ([]:N a.D)) [.slice wW 0 0]) E (yR<|vs o) (s,0)::mO a.rep E1 (.slice wW 0 0) []::OS vs fr cx (yI σ.ob o)) (GS P vs H fr cx σ) w':=(St.nilO (e:=a.rep) (E:=E1) Y).perm<|xdY ..;refine rk (o:=o) (u:=aF (yR<|vs o) [.slice wW 0 0]) C O (λe he=>C.o1 e<|ZB e he) (sC<|by rw[wy,uo<|Aa C Q];rfl) ?_;rw[moU];refine St.grp.2<|St.pr (p:=X ([.slice wW 0 0]:N jp)=1/\vrP a (xu n2 t2 i2)) ⟨O,_,_,_,hc⟩ ?_;show St _ _ (mP (dj t2.rep (XJ<|xu n2 t2 i2) (ZL a (xu n2 t2 i2) []) [.slice wW 0 0]) E (yR<|vs o) (s,0)::mO a.rep E1 (.slice wW 0 0) []::_) _ _;rw[hc,show ZL a (Z ⟨off,.l a,gt,st⟩) ([]:N a.D)=st ([]:N a.D)from Z0 λz=>sM];exact h7;cases h
def ziS(c:y6 P cf.tt){k:Sg->V R}{B:TI}(l:YF cf t=Z B)(h:ui σ B.ty (xG cx σ x) (xG cx σ y) k=Z r):lK P cx ⟨wW,.store t x y,ty,wl,wn,g⟩ σ k r:=by
 have h0:=h;unfold ui at h;split at h
 next o e r j f a=>exact zqB c l a h0
 next o q n0 i o2 a b=>exact zpZ c l a b h0
 rename_i o q n0 i a _;split at h;rename_i C E p E1 n j z ys s;have⟨m,h1⟩:=yo h;rw[xae]at m;obtain rfl:=yh m.1;obtain rfl:=J0 m.2;have⟨hc,f,v,A⟩:=zbF h1;exact zff c l (X:=λz=> .vr q E p E1 n0 j z ys) (rest:=λu=>[mO p.rep E1 ((wg u).headD XS) ys]) (λ_ _=>O) a s hc v A;rename_i C E p E1 n j z s;have⟨m,h1⟩:=yo h;rw[xae]at m;obtain rfl:=yh m.1;obtain rfl:=J0 m.2;have⟨hc,f,v,A⟩:=zbF h1;exact zff c l (X:=λz=> .vh q E p E1 n0 j z) (rest:=λ_=>[]) (λ_ _=>O) a s hc v A;cases h
 next o j D r a b=>exact zrm c l a b h0
 next o j o2 a b=>exact zpV c l a b h0
 next o t2 F n2 i2 a b=>exact zq3 c l a b h0
 next o o2 a b=>exact zrq c l a b h0
 cases h
def Aq:∀{ob:N (K×Od)}{o p:K},o≠p->yI (yI ob o) p=yI (yI ob p) o
 |[],_,_,_=>rfl
 |(q,X)::r,o,p,h=>by
  have b:=Aq (ob:=r) h;cases h1:Q q o
  cases a:Q q p
  simp only[yI,h1,a,WD];rw[b];simp only[yI,h1,a,WD,WN];cases a:Q q p
  simp only[yI,h1,a,WD,WN];simp_all
def Ll{S:K->Prop}{w:jP}{hv a:N jp}:∀{ix:N K}{cs:N jp},yW (YY a) S ix cs w->yW (YY<|hv++a) S (ix.map (X hv+ ·)) cs w
 |[],_,h=>h
 |r::ix,cs,⟨c,q,h1,⟨u,b,e,f⟩,i⟩=>⟨c,q,h1,⟨u,by show(hv++a)[X hv+r]? =Z u;rw[xbz<|xbL _ _,Nat.add_sub_cancel_left];exact b,e,f⟩,Ll i⟩
def HL{α:Type}{e:zZ α}{E:ut}:∀{hv c:N jp}{b a:N (N α)},X hv=X b->vN e E (hv++c) (b++a)=vN e E hv b++vN e E c a
 |[],_,[],_,_=>rfl
 |u::hv,c,xs::b,a,h=>by
  show mO e E u xs::vN e E (hv++c) (b++a)=mO e E u xs::(vN e E hv b++vN e E c a);rw[HL<|by simpa using h]
 |[],_,_::_,_,h=>by cases h
 |_::_,_,[],_,h=>by cases h
def znf(J:y6 P cf.tt){z:Z5 uL}{ts:Z5 ut}{k:Sg->V R}(hd:wZ cx d=qR)(h:zf2 cf cx σ d z.toList ts.toList k=Z r):
 lK P cx ⟨d,.call ⟨.builtin .append,z,ts⟩,ty,wl,wn,g⟩ σ k r:=by
 unfold zf2 at h;split at h;rename_i _ _ x y t t' hS hU;obtain rfl:z= #[x,y]:=by cases z;simp_all
 obtain rfl:ts= #[t,t']:=by cases ts;simp_all
 split at h;rename_i s E B o p ht hx hy;have⟨F,D⟩:=yo h;rw[xae]at F;have⟨hC,hl⟩:=F;obtain rfl:=yh hC;rw[xcS]at hl;clear h;split at D;rename_i q1 q2 U A E1 C j ix s2 a F2 f q hn ho hp;have⟨F,h1⟩:=yo D;simp only[xae]at F;have⟨K,L,M⟩:=F;have K:=yh K;have L:=yh L;have M:=yh M;subst K;subst L;subst M;have⟨hD,h2⟩:=yv h1;cases hD;have⟨Y,h3⟩:=Ya h2;have⟨a0,hz,h4⟩:=wX h3;have⟨iz,hi,h5⟩:=wX h4;have hE:=zaa J hn O;have hc:=(J _ _ hn).2.1;refine⟨_,h5,xby _,λfr vs H w hR=> ?_⟩;have⟨hB,hr⟩:=hR;have⟨S0,_,G⟩:=hr.ex;have hG:ev H x=yR (vs o):=zj hx<|zO G x;have hH:ev H y=yR (vs p):=zj hy<|zO G y;have hI:=ib hl ho hp hr;have⟨Q,hJ⟩:=dV hI;have hu:St fr.we fr.Se (Kz vs (p,.mat A a C f q)::((mO (YY<|wg<|vs o) a (yR<|vs o) ix::vN A.rep C (wg<|vs o) j)++OS vs fr cx (yI (yI σ.ob o) p))) (GS P vs H fr cx σ) w:=hJ.perm xce;have⟨hK,hL⟩:=dV hu;have hN:St fr.we fr.Se (mO (YY<|wg<|vs o) a (yR<|vs o) ix::mO (YY<|wg<|vs p) a (yR<|vs p) q::(vN A.rep C (wg<|vs o) j++vN A.rep C (wg<|vs p) f++OS vs fr cx (yI (yI σ.ob o) p))) (GS P vs H fr cx σ) w:=by refine hL.perm ?_;simp only[xbP,xas];refine(xfB _ xce).trans<|(xdY ..).trans ?_;refine xfB _<|xfB _ ?_;exact(xed ..)
 have hO:=hN.conv (i:=0) (m:=mO (YY<|wg<|vs o) a (yR<|vs o) ix) (m':=mO (YY<|wg (vs o)++wg (vs p)) a (yR<|vs o) ix) O O λS hq=>zcI hq;have Pv:∀m,m*U<=140737488355328->m<=9223372036854775807:=λm hm=>by
  have hc:0<U:=hc;have:=xcp m hc;lia
 have T:X (q.map (xaK j+ ·))=X q:=xaj _;refine(cJ (e:=YY<|wg (vs o)++wg (vs p)) (ys:=q.map (xaK j+ ·)) 0 (qY J ht) hE O xdp O hG hH (λS w hM ha=> ?_) (Pv _<|by rw[T];exact Y) (by rw[T];exact Y) w hO).mono ?_;have hm:(mO (YY<|wg<|vs p) a (yR<|vs p) q).p S w:=hM.2.1;have hw:(mO (YY<|wg (vs o)++wg (vs p)) a (yR<|vs p) (q.map (xaK j+ ·))).p S w:=by have⟨cs,a1,a2⟩:=hm;refine⟨cs,by rw[T];exact a1,?_⟩;rw[<-Q];exact Ll a2
 rcases gk hw with⟨hv,hA⟩|⟨b,cap,hv,hP,hQ⟩
 rw[hv,hA];exact⟨wW,0,O,Nm _,xah _,.inl O⟩;have D:=LU hw hv (l:=0) (n:=X (q.map (xaK j+ ·))) (c:=cap) W hP hQ;rw[List.drop_zero,xbQ]at D;rw[hv];simpa using D
 rintro v w' ⟨v',rfl,_,hs⟩;refine Ka (vs:=vs) (mk:=.mw) (u:=aF v<|wg (vs o)++wg (vs p)) hB hd (oM hB) (λ_=>O) (λS w=>by simp only[vP,wy];rfl) ?_;rw[moU,hz,hi];have h7:St fr.we fr.Se (mO (YY<|wg (vs o)++wg (vs p)) a v (ix++q.map (xaK j+ ·))::mO (YY<|wg<|vs p) a (yR<|vs p) q::(vN A.rep C (wg<|vs o) j++vN A.rep C (wg<|vs p) f++OS vs fr cx (yI (yI σ.ob o) p))) (GS P vs H fr cx σ) w':=hs;have h8:=St.drop (i:=1) h7;refine SM (u:=aF v<|wg (vs o)++wg (vs p)) (by show(wg (vs o)++wg (vs p)).length=X (j++f);simp[Q,hK]) ?_;show St _ _ ((mO (YY<|wg (vs o)++wg (vs p)) a v _::vN A.rep C (wg (vs o)++wg (vs p)) (j++f))++_) _ _;rw[HL Q];exact h8;cases D
 cases h
 cases h
def zdd(G:Bp P cf){s:C8}{f:uL}{c:Z5 uL}{ts:Z5 ut}{k:Sg->V R}(hd:wZ cx d=qR)(J:xG cx σ f=Z (.fn s.f []))(K:s∈cf.ms)(h:Ep cx σ d s c.toList k=Z r):
 lK P cx ⟨d,.call ⟨.value f,c,ts⟩,ty,wl,wn,g⟩ σ k r:=by
 have⟨L,M⟩:=G.ms s K;unfold Ep at h;split at h;rename_i _ x a p y hF;obtain rfl:c= #[x,a,p,y]:=by cases c;simp_all
 split at h;rename_i o r0 av pv o' lo n N Q hp S;have⟨T,j⟩:=yo h;obtain rfl:=yh T;clear h;split at j;rename_i s1 E E1 U ix z;have⟨l,h1⟩:=yo j;rw[xae]at l;have A:=yh l.1;have hi:=yh l.2;have⟨ht,Y⟩:=yv h1;cases ht;have⟨i,hz,h3⟩:=B6 Y;refine⟨_,h3,xby _,λfr vs H w hR=> ?_⟩;have⟨m,B⟩:=hR;have⟨S0,_,b⟩:=B.ex;have hw:(wg<|vs o)[r0]? =Z (ev H x):=zj N<|zO b x;have C:=vg Q<|zO b a;have hl:=vg hp<|zO b p;have hA:Ss (yR<|vs o) lo n (ev H y):=zj S<|zO b y;have⟨q,hv,hC,hG⟩:=zj J<|zO b f;obtain rfl:q=[]:=xbs.1 hC;have D:=ji z B;rw[A,hi]at D;have hc:=M U ix r0 av pv lo n i hz (vs o) (ev H x) (ev H y) hw hA C.2 hl.2 fr.we fr.Se _ _ w D;have hn:(uT (ev H) ⟨d,.call ⟨.value f,#[x,a,p,y],ts⟩,ty,wl,wn,g⟩).run P w=.ok (.enter s.f #[ev H x,.int .i64 av,.int .i64 pv,ev H y]) w:=by simp[uT,WR,hv,xda,V3,qw L,C.1,hl.1]
 unfold uF;rw[hn];refine hc.mono ?_;rintro e w' ⟨v,F,rfl,hu,hD⟩;refine⟨v,O,rk (o:=o) (u:=F) m hd (λe he=>m.o1 e<|ZB e he) (sC<|by rw[wy,uo<|Aa m z];exact hu) ?_⟩;rw[moU];show St _ _ (Bh s.t.rep E E1 F i ix::_) _ _;rw[A,hi];exact hD;cases j
 cases h
 cases h
theorem E8{o n:K}:∀{rg:N (K×K×Dv)},∀e∈Pj o n rg,e∈rg\/∃a∈rg,∃p,a.2.2=.yd p/\e=(a.1,a.2.1,bif Q p o then .yd n else .yd p)
 |[],e,he=>kW he H1
 |(t,i,v)::rg,e,he=>by
  have b:∀e∈Pj o n rg,e∈(t,i,v)::rg\/∃a∈(t,i,v)::rg,∃p,a.2.2=.yd p/\e=(a.1,a.2.1,bif Q p o then .yd n else .yd p):=λe he=>by
   obtain h|⟨a,h1,p,c,f⟩:=E8 e he
   simp_all;grind
  cases v with
  |yd p=>
   rcases xal.1 (show e∈(t,i,bif Q p o then Dv.yd n else .yd p)::Pj o n rg from he)with rfl|he
   simp_all;exact b e he
  |_=>
   obtain rfl|he:=xal.1 he
   exact .inl<|IR;exact b e he
def zeZ(hX:Bp P cf){o:K}{f:uL}{m:Z5 uL}{ts:Z5 ut}{k:Sg->V R}(hd:wZ cx d=qR)(hf:xG cx σ f=Z (.yd o))(h:N7 cx σ d o m.toList k=Z r):
 lK P cx ⟨d,.call ⟨.value f,m,ts⟩,ty,wl,wn,g⟩ σ k r:=by
 unfold N7 at h;split at h;rename_i _ x hC;obtain rfl:m= #[x]:=by cases m;simp_all
 split at h;rename_i p hx;have⟨hi,h⟩:=yo h;rw[xcS]at hi;split at h;rename_i t E X Y mX mY gg z s a ys D hp;have⟨hE,h1⟩:=yo h;have hE:=yh hE;subst hE;have⟨hm,G⟩:=yv h1;cases hm;have⟨q,hq,U⟩:=B6 G
 have n:∀(fr:Fr) (vs:K->jp) (H:xr) (w:jP),dq P fr cx σ vs H w->uF P ⟨d,.call ⟨.value f,#[x],ts⟩,ty,wl,wn,g⟩ H w λv w'=>v=.bool q.2.isLeft/\Bd cx σ/\Sl P (lOf<|yR<|vs o) t.rep a mX mY gg/\
  ∃c,St fr.we fr.Se (xfj (λx=>mX x c) (λy=>mY y c) q.2::mO t.rep a (vs p) q.1::OS vs fr cx (yI (yI σ.ob o) p)) (GS P vs H fr cx σ) w':=by
  intro fr vs H w A;have⟨j,hj⟩:=A;have⟨S0,_,J⟩:=hj.ex;have hn:ev H x=vs p:=zj hx<|zO J x;have ht:ev H f=.func (.yield<|lOf<|yR<|vs o) #[] #[]:=zj hf<|zO J f;have hv:=ib hi D hp hj;have⟨F,h4⟩:=St.unpr<|St.grp.1 hv;rw[<-hX.pp]at F;have h4:St fr.we fr.Se (mX z ((wg<|vs o).headD XS)::mO t.rep a (vs p) ys::OS vs fr cx (yI (yI σ.ob o) p)) (GS P vs H fr cx σ) w:=h4;have⟨fn,tmps,a0,a1,hy,A⟩:=F ys z q.1 q.2 hq (vs p) _ _ _ _ _ w h4;have hk:(uT (ev H) ⟨d,.call ⟨.value f,#[x],ts⟩,ty,wl,wn,g⟩).run P w=.ok (.round (lOf<|yR<|vs o) fn tmps a0 a1) w:=by rw[<-hn]at hy;simp[uT,WR,ht,xda,V3,hy]
  unfold uF;rw[hk];exact A.mono λe w' ⟨h5,h6⟩=>⟨_,h5,O,j,F,h6⟩
 have L:∀(B:Od) (b:uS) (c:jp) (vs:K->jp) (fr:Fr) (H:xr) (w':jP),Bd cx σ->St fr.we fr.Se (Kz (Wu vs σ.nx<|aF (yR<|vs o) [c]) (σ.nx,B)::mO t.rep a (vs p) q.1::OS vs fr cx (yI (yI σ.ob o) p)) (GS P vs H fr cx σ) w'->
  nV P fr cx σ.nx vs ⟨σ.nx+1,Pj o σ.nx<|qU σ.rg d [(0,.kb b)],(σ.nx,B)::yI (kL σ.ob p (.own t a q.1)) o⟩ (put H d (.bool b)) w':=by
  intro B b c vs fr H w' j C;have hc:p≠o:=λe=>by subst e;simp at hi
  have hw:=Aa j D;have hD:xH (yI σ.ob o) p=Z (.own t a ys):=by rw[au hc];exact hp
  have hz:St fr.we fr.Se (Kz (Wu vs σ.nx<|aF (yR<|vs o) [c]) (σ.nx,B)::OS vs fr cx (yI (kL σ.ob p (.own t a q.1)) o)) (GS P vs H fr cx σ) w':=by
   have h7:=jY (vs:=vs) (fr:=fr) (cx:=cx) (ob:=yI (kL σ.ob p (.own t a q.1)) o) (o:=p) (X:=.own t a q.1) (by rw[au hc];exact(VT hp).1);have h8:yI (yI (kL σ.ob p (.own t a q.1)) o) p=yI (yI σ.ob o) p:=by rw[Aq<|λe=>hc e.symm,(VT hp).2,Aq<|λe=>hc e]
   rw[h8]at h7;exact C.perm<|h7.symm.cons _
  have⟨M,hA⟩:dq P fr cx ⟨σ.nx+1,qU σ.rg d [(0,.kb b)],(σ.nx,B)::yI (kL σ.ob p (.own t a q.1)) o⟩ (Wu vs σ.nx<|aF (yR<|vs o) [c]) (put H d (.bool b)) w':=by
   have hl:∀e∈yI (kL σ.ob p (.own t a q.1)) o,e.1<σ.nx:=λe he=>by
    have⟨e1,g1,g2⟩:=VR hp e<|ZB e he;rw[<-g2];exact j.o1 e1 g1
   refine Ow (xS:=⟨σ.nx+1,qU σ.rg d [(0,.kb b)],(σ.nx,B)::yI (kL σ.ob p (.own t a q.1)) o⟩) (l:=[(0,.kb b)]) (vs:=vs) (Γl:=[]) j hd O (xby _) (λo D=>uo D) (λe he p hp=> ?_) (λe he=> ?_) (λS w _ e he=> ?_) ?_;obtain rfl:=xaf.1 he;cases hp
   obtain rfl|he:=xal.1 he
   exact xdO _;exact Nat.lt_succ_of_lt<|hl e he;obtain rfl:=xaf.1 he;exact O;show St _ _ (Kz (Wu vs σ.nx _) (σ.nx,B)::OS (Wu vs σ.nx _) fr cx (yI (kL σ.ob p (.own t a q.1)) o)) _ _;rw[Lv j hl];exact hz
  refine⟨_,λo D=>uo D,⟨M.o1,M.o2,λe he r hr=> ?_,M.r2⟩,hA.weak λS w h=>zD.append (k9.2 λf hf=> ?_)<|zD.right h⟩;obtain h|⟨N,h1,r',G,rfl⟩:=E8 e he
  exact M.r1 e h r hr;cases hb:Q r' o<;>simp only[hb,WN,WD]at hr
  exact M.r1 N h1 r<|by rw[G];exact hr
  cases hr;exact xdO _
  obtain⟨e,he,rfl⟩:=xat.1 hf;obtain h'|⟨N,h1,r',G,rfl⟩:=E8 e he
  exact J8 (zD.left h) h';have h5:=J8 (zD.left h) (t:=N.1) (i:=N.2.1) (d:=N.2.2) h1;rw[G]at h5;refine JH h5 λu T=> ?_;cases hb:Q r' o
  exact T;have T:u=.func (.yield<|lOf<|yR<|Wu vs σ.nx (aF (yR<|vs o) [c]) r') #[] #[]:=T;rw[yh hb,uo hw]at T;show u=.func (.yield<|lOf<|yR<|Wu vs σ.nx (aF (yR<|vs o) [c]) σ.nx) #[] #[];rw[wy];exact T
 cases hg:q.2 with
 |inl z'=>
  rw[hg]at U;refine⟨_,U,xby _,λfr vs H w A=>(n fr vs H w A).mono ?_⟩;rintro v w' ⟨rfl,j,F,c,C⟩;rw[hg]at C⊢;refine L _ qR c vs fr H w' j ?_;rw[moU];refine St.grp.2 ?_;rw[<-hX.pp];exact St.pr F C
 |inr y'=>
  rw[hg]at U;refine⟨_,U,xby _,λfr vs H w A=>(n fr vs H w A).mono ?_⟩;rintro v w' ⟨rfl,j,F,c,C⟩;rw[hg]at C⊢;refine L _ I c vs fr H w' j ?_;rw[moU];exact C
 cases h
 cases h
 cases h
def Ra{o:K}{s:Ty}{E:ut}{xs:N s.D}{S:K->Prop}(a:(fV (eS s.rep) xs<|vs o).p S w):∀{rg:N (K×K×Dv)},zD S (RS P vs H rg) w->zD S (RS P vs H<|Gx o (.own s E xs) rg) w
 |[],_=>trivial
 |(t,i,v)::rg,h=>by
  refine⟨?_,Ra a h.2⟩;have h1:=h.1;cases v<;>try exact h1
  rename_i b;unfold NP;cases c:Q b o<;>simp only[c]
  exact h1;have:=yh c;subst this;refine JH h1 λu e=> ?_;rw[show u=vs b from e];exact a
def OI{o:K}{s:Ty}{E:ut}{z:s.D}{S:K->Prop}(a:(fP s.rep z<|vs o).p S w):∀{rg:N (K×K×Dv)},zD S (RS P vs H rg) w->zD S (RS P vs H<|Gx o (.var s E z) rg) w
 |[],_=>trivial
 |(t,i,v)::rg,h=>by
  refine⟨?_,OI a h.2⟩;have h1:=h.1;cases v<;>try exact h1
  rename_i b f;unfold NP;cases c:Q b o<;>simp only[c]
  exact h1;have:=yh c;subst this;refine JH h1 λu e=> ?_;rw[show u=vs b from e.1];exact a
def O2{o:K}{s:Ty}{E E1:ut}{a:N (N s.D)}{ix:N K}{S:K->Prop}(b:(fV (eS<|eS s.rep) (zel a ix)<|yR<|vs o).p S w):∀{rg:N (K×K×Dv)},zD S (RS P vs H rg) w->zD S (RS P vs H<|Gx o (.mat s E E1 a ix) rg) w
 |[],_=>trivial
 |(t,i,v)::rg,h=>by
  refine⟨?_,O2 b h.2⟩;have h1:=h.1;cases v<;>try exact h1
  rename_i c;unfold NP;cases e:Q c o<;>simp only[e]
  exact h1;have:=yh e;subst this;refine JH h1 λu f=> ?_;rw[show u=yR (vs c)from f];exact b
def zc4{o:K}{t s:Ty}{E E1 n i:K}{z:t.D}{xs:N s.D}{S:K->Prop}(a:(fP t.rep (ZL s (xu n t i) xs z)<|yR<|vs o).p S w):∀{rg:N (K×K×Dv)},zD S (RS P vs H rg) w->zD S (RS P vs H<|Gx o (.vr t E s E1 n i z xs) rg) w
 |[],_=>trivial
 |(u,j,v)::rg,h=>by
  refine⟨?_,zc4 a h.2⟩;have h1:=h.1;cases v<;>try exact h1
  rename_i b;unfold NP;cases c:Q b o<;>simp only[c]
  exact h1;have:=yh c;subst this;refine JH h1 λu e=> ?_;rw[show u=yR (vs b)from e];exact a
def af{o:K}{X:Od}(a:∀v,NP o X v=v):∀{rg:N (K×K×Dv)},Gx o X rg=rg
 |[]=>rfl
 |(t,i,v)::rg=>by
  show(t,i,NP o X v)::Gx o X rg=_;rw[a,af a]
def zeY{o p:K}{X:Od}{v:Dv}(h:vC (NP o X v)=Z p):vC v=Z p:=by
 unfold NP at h;split at h;rename_i a s E xs;cases b:Q a o<;>rw[b]at h
 exact h;cases h
 rename_i a c s E z;cases b:Q a o<;>rw[b]at h
 exact h;cases h
 rename_i a s E E1 e ix;cases b:Q a o<;>rw[b]at h
 exact h;cases h
 rename_i a t E s E1 n i z xs;cases b:Q a o<;>rw[b]at h
 exact h;cases h
 exact h
theorem SY{o:K}{X:Od}:∀{rg:N (K×K×Dv)},∀e∈Gx o X rg,∀p,vC e.2.2=Z p->∃a∈rg,vC a.2.2=Z p
 |[],e,he=>kW he H1
 |(t,i,v)::rg,e,he=>by
  intro p hp;obtain rfl|he:=xal.1 he
  refine⟨(t,i,v),IR,?_⟩;exact zeY hp;have⟨a,h1,b⟩:=SY e he p hp;grind
theorem Ic{o:K}(h:dq P fr cx σ vs H w):dq P fr cx (R9 σ o) vs H w:=by
 unfold R9;split;rename_i X ho;have⟨m,hc⟩:=h;have⟨i,hi,_,hd⟩:=vm ho;have G:Bd cx ⟨σ.nx,Gx o X σ.rg,yI σ.ob o⟩:=⟨λe A=>m.o1 e<|ZB e A,m.o2,λe A p hp=>by have⟨J,h1,f⟩:=SY e A p hp;exact m.r1 J h1 p f,m.r2⟩;refine⟨G,?_⟩
 cases X with
 |own s E xs=>
  have q:(OS vs fr cx σ.ob)[i]? =Z (mO s.rep E (vs o) xs):=JX hi;have:=Mc i hc q;rw[gJ hi,<-hd]at this;exact this.weak λS w a=>zD.append (Ra a.1<|zD.left a.2)<|zD.right a.2
 |var s E z=>
  have q:(OS vs fr cx σ.ob)[i]? =Z (mP s.rep.c E (vs o) z):=JX hi;have⟨b,hv,u⟩:=hc.openP i q;have:=zoK (e:=s.rep) i u<|vH q;rw[AL,gJ hi,<-hd,<-hv]at this;exact this.weak λS w a=>zD.append (OI a.1<|zD.left a.2)<|zD.right a.2
 |mat s E E1 L ix=>
  have h1:=ji ho hc;have f:St fr.we fr.Se (zkX s.rep E E1 (yR<|vs o) (wg<|vs o) L ix::OS vs fr cx (yI σ.ob o)) (GS P vs H fr cx σ) w:=St.grp.2 (dV h1).2;exact(f.mat_frz (dV h1).1).weak λS w a=>zD.append (O2 a.1<|zD.left a.2)<|zD.right a.2
 |vr t E s E1 n i z xs=>
  have h1:=ji ho hc;have f:=h1.freeze (i:=0) (F:=fP t.rep (ZL s (xu n t i) xs z)<|yR<|vs o) O λS S' u B hp=>by
   have⟨⟨⟨hl,M⟩,⟨b,hv,cs,g1,j⟩,hn,_⟩,_⟩:=hp;have j:(dj t.rep (XJ<|xu n t i) (ZL s (xu n t i) [])<|wg<|vs o).p S (z,0) cs.toList w:=j;refine⟨b,0,cs.toList,hv,B b ⟨_,FS _<|IR,by show zir (yR<|vs o)=Z b;rw[hv];rfl⟩,At.row g1,?_⟩;have⟨off,Q,st,C⟩:=M;rw[C]at j⊢;rw[show ZL s (Z ⟨off,.l s,Q,st⟩) ([]:N s.D)=st ([]:N s.D)from Z0 λz=>sM]at j;rw[sM];exact zo6 C j (by rw[DT hl];rfl) u<|pS u (λk T=>B k ⟨_,FS _<|FS _<|IR,T⟩) hn
  exact f.weak λS w a=>zD.append (zc4 a.1<|zD.left a.2)<|zD.right a.2
 |vh t E s E1 n i z=>
  rw[af<|λv=>by cases v<;>rfl];exact St.drop (i:=0)<|ji ho hc
 |bo s E U xs=>
  rw[af<|λv=>by cases v<;>rfl];exact St.drop (i:=0)<|ji ho hc
 |ho U=>
  rw[af<|λv=>by cases v<;>rfl];exact St.drop (i:=0)<|ji ho hc
 |hid t E X Y mX V g x=>
  rw[af<|λv=>by cases v<;>rfl];exact St.drop (i:=0)<|ji ho hc
 |hiy Y V y=>
  rw[af<|λv=>by cases v<;>rfl];exact St.drop (i:=0)<|ji ho hc
 exact h
theorem zeX(x:uL)(h:dq P fr cx σ vs H w):dq P fr cx (frz cx σ x) vs H w:=by grind [frz,Ic]
def MC(x:uL)(h:u7 P fr cx σ H w):u7 P fr cx (frz cx σ x) H w:=by have⟨a,vs,b⟩:=h;have⟨h1,c⟩:=zeX x ⟨a,b⟩;exact⟨h1,vs,c⟩
def Ek:∀(l:N uL) {σ:Sg},u7 P fr cx σ H w->u7 P fr cx (zk8 cx σ l) H w
 |[],_,h=>h
 |x::r,_,h=>Ek r<|MC x h
def zaH{f:Wf}:∀{cs:N Wk}{s:Wk},zeg f cs=Z s->s∈cs/\s.f=f/\s.bk=1
 |c::cs,s,h=>by
  unfold zeg at h;split at h;rename_i h1 i j k;cases e:Q c.f f<;>rw[e]at h
  have⟨a,b⟩:=zaH h;exact⟨FS _ a,b⟩;simp_all;have⟨a,b⟩:=zaH h;exact⟨FS _ a,b⟩
def zsF(B:∀s∈cf.cs,y8 P s){f:uL}{f':Wf}{o:K}{C:Ty}{s:Wk}{a:Z5 uL}{ts:Z5 ut}{k:Sg->V R}(hd:wZ cx d=qR)(D:xG cx σ f=Z (.bm f' o C))(ht:a.toList=[])
 (F:zeg f' cf.cs=Z s) (h:mBm σ d s o k=Z r):lK P cx ⟨d,.call ⟨.value f,a,ts⟩,ty,wl,wn,g⟩ σ k r:=by
 have⟨h1,j,G⟩:=zaH F;have hc:=B s h1;unfold mBm at h;split at h;rename_i f0 t E t2 q M bk J E' y m;have⟨u,L⟩:=yo h;have⟨hn,N⟩:=yv L;subst hn;have⟨z,Q,T⟩:=B6 N;rw[xae,xae]at u;obtain rfl:=yh u.1;obtain rfl:bk=1:=G;obtain rfl:a= #[]:=by cases a;simp_all
 refine⟨_,T,Nm _,λfr vs H w U=> ?_⟩;have⟨v,hi⟩:=U;have⟨S0,_,n⟩:=hi.ex;have⟨hv,b,Y⟩:=zj D<|zO n f;have A:=hc.2 (y,()) z Q [vs o] O;have hk:(uT (ev H) ⟨d,.call ⟨.value f,#[],ts⟩,ty,wl,wn,g⟩).run P w=.ok (.enter f' #[vs o]) w:=by simp[uT,WR,hv,xda,V3,qw<|j▸hc.1]
 have hl:St fr.we fr.Se (mP J.rep.c E (vs o) y::OS vs fr cx (yI σ.ob o)) (iv (∃b,vs o=.pointer (Z ⟨b,0,wW⟩))::GS P vs H fr cx σ) w:=(ji m hi).weak λS w p=>⟨⟨b,Y⟩,p⟩;unfold uF;rw[hk];rw[show f0=f' from j]at A;refine(A fr.we fr.Se _ _ w hl).mono ?_;rintro e w' ⟨us,i,⟨hu,hp⟩,hq⟩;obtain rfl:us=[vs o]:=hp;refine⟨_,i,?_⟩;refine Kq (xS:=⟨σ.nx,qU σ.rg d [],kL σ.ob o (.var t2 q z)⟩) (d:=d) (l:=[]) (vs:=vs) (mK:=vs) (Γl:=[]) v hd O (Nm _) (λ_ _=>O) (λ_ i=>kW i H1) (λe i=> ?_) (λS w _ e i=>kW i H1) ?_;have⟨e',h1,j⟩:=VR m e i;rw[<-j];exact v.o1 e' h1;refine pk m ?_;have hr:St fr.we fr.Se (mP t2.rep.c q (vs o) z::OS vs fr cx (yI σ.ob o)) (iv (∃b,vs o=.pointer (Z ⟨b,0,wW⟩))::GS P vs H fr cx σ) w':=hq;exact hr.weak λS w p=>p.2;cases h
def zps(a:y6 P cf.tt)(b:ua P cf.tt)(c:∀s∈cf.cs,y8 P s)(e:Bp P cf){l:Op}{k:Sg->V R}(hd:wZ cx d=qR)(h:zoP cf cx σ d l k=Z r):
 lK P cx ⟨d,l,ty,wl,wn,g⟩ σ k r:=by
 unfold zoP at h;split at h;exact zko a hd h;rename_i E x;cases m:zph cf d<;>rw[m]at h
 exact m_E a b c e hd h;exact zpW hd h;rename_i t x y;have⟨hn,h⟩:=yo h;have hn:d=wW:=by simpa using hn
 subst hn;split at h
 next u hc=>exact zkk a hc h
 cases h
 exact zoj a hd h;exact zqp a b hd h;rename_i t x hi;split at h
 next o n=>exact zlR a b hd n h
 exact m_E a b c e hd h;exact zp5 a hd h;exact zpo a b hd h;rename_i f p ts;split at h;rename_i f' cs i;split at h
 next s j=>exact zoB c hd i j h
 exact m_E a b c e hd h;rename_i f' o t i;split at h
 next s q j=>exact zsF c hd i q j h
 cases h
 exact m_E a b c e hd h;exact m_E a b c e hd h
def zrF(b:y6 P cf.tt)(l:ua P cf.tt)(m:∀s∈cf.cs,y8 P s)(e:Bp P cf){i:Op}{k:Sg->V R}(hd:wZ cx d=qR)(h:mOp cf cx σ d i k=Z r):
 lK P cx ⟨d,i,ty,wl,wn,g⟩ σ k r:=by
 unfold mOp at h
 cases hc:coM cf cx σ d i with
 |no=>rw[hc]at h;exact zps b l m e hd h
 |_=>
  rw[hc]at h;simp only[mCo]at h;unfold coM at hc;split at hc
  ·next t x y=>
   cases a:TT (xG cx σ x)<;>rw[a]at hc<;>cases hc
   all_goals
    have⟨hn,h⟩:=yo h
    have hn:d=wW:=by simpa using hn
    subst hn
    split at h
    ·next A p=>exact ziS b p h
    ·cases h
  ·next t x y=>
   cases a:zap cf d<;>rw[a]at hc<;>cases hc;all_goals exact zlv b hd h
  ·next t n ps=>
   cases a:zap cf d<;>rw[a]at hc<;>cases hc;all_goals exact znB b l hd h
  ·next E=>
   cases a:zap cf d||(TH cf d).isSome<;>rw[a]at hc<;>cases hc
   all_goals exact zhe b hd h
  ·next t ps=>
   cases a:(TH cf d).isSome<;>rw[a]at hc<;>cases hc;all_goals exact zhh b hd h
  ·next t x=>
   split at hc
   ·next o q=>cases hc<;>exact zki b hd q h
   ·split at hc
    ·next o u=>cases hc<;>exact zkB b hd u h
    ·cases hc
  ·next c ts=>
   cases a:c.toList.any (λx=>zh5<|xG cx σ x)<;>rw[a]at hc<;>cases hc;all_goals exact znf b hd h
  ·next f c ts=>
   split at hc
   ·next o j=>cases hc<;>exact zeZ e hd j h
   ·next f' j=>
    split at hc
    ·next s v=>
     have⟨h1,z⟩:=zeU v;subst z;cases hc<;>exact zdd e hd j h1 h
    ·cases hc
   ·cases hc
  ·cases hc
def zix(n:y6 P cf.tt)(o:ua P cf.tt)(i:∀s∈cf.cs,y8 P s)(j:Bp P cf){b:Op}{kp:PX->Sg->V R}{k:Sg->V R}(hd:wZ cx d=qR)(h:zkz cf cx σ d b kp k=Z r):
 lK P cx ⟨d,b,ty,wl,wn,g⟩ σ k r\/zl7 P cx ⟨d,b,ty,wl,wn,g⟩ σ kp r:=by
 unfold zkz at h;split at h;rename_i p u cs hp;unfold zld at hp;split at hp;rename_i f l ts;split at hp;rename_i f' v z;split at hp;rename_i G A;cases hp;have⟨h1,B⟩:=zig A;exact zqZ i hd z (j.ps _ h1) B h
 cases hp
 cases hp
 cases hp
 split at h;rename_i x a;unfold zpU at a;split at a;rename_i J;cases a;split at h
 rename_i q C;refine .inr ⟨q,σ,h,O,λfr vs H w D=> ?_⟩;have⟨E,m⟩:=D;have⟨S0,_,e⟩:=m.ex;have hv:ev H x=.iface q.1 (.agg #[.int .i64 q.2]):=zj C<|zO e x;refine⟨λc hc=>(by cases hc),?_⟩;have F:(uT (ev H) ⟨d,.panic x,ty,wl,wn,g⟩).run P w=.halt (.panic (.iface q.1 (.agg #[.int .i64 q.2]))) w:=by simp[uT,Instr.panic,hv,goPanic]
 rw[F];exact⟨O,E,m⟩;cases h
 cases a
 exact .inl<|zrF n o i j hd h
theorem zhY{t:Wn}:put H (Z t) (H t)=H:=by grind [DA,nF]
def rm{t:Wn}{b:uS}(hn:Wq cx.rg t=qR)(hv:H t=.bool b)(h:u7 P fr cx σ H w):u7 P fr cx (Mo σ t b) H w:=by
 have⟨c,vs,f⟩:=h
 have:=nV.rel<|Kq (d:=Z t) (xS:=Mo σ t b) (Γl:=[]) c hn O (Nm _) (λ_ _=>O)
  (λe a o i=>by obtain rfl:=xaf.1 a;cases i) c.o1 (λS w _ e a=>by obtain rfl:=xaf.1 a;exact hv) f
 rwa[zhY]at this
def sE{t:Wn}{x:uS}{S:K->Prop}(h:get cx σ t 0=Z (.d .b x))(hl:Lk P vs H S w cx σ t):H t=.bool x:=rI<|hl 0 _ h
def SI{b:uS}{a c:V R}(h:ifB b a c=Z r):(b=qR/\a=Z r)\/(b=I/\c=Z r):=by
 cases b
 exact .inr ⟨O,h⟩;exact .inl ⟨O,h⟩
theorem zli{c:N Wd}{o:Wd}{k:Sg->uS->V R}(h:AN cx c o σ k=Z r)(p:u7 P fr cx σ H w):∃xS b,k xS b=Z r/\u7 P fr cx xS H w/\xb c.toArray H o=b:=by
 have f:=p;have⟨q,vs,hd⟩:=p;have⟨S,_,e⟩:=hd.ex;unfold AN at h;split at h
 next n=>exact⟨σ,qR,h,f,by unfold xb;rw[n]⟩
 rename_i j a n;split at h;rename_i s u;split at h;rename_i t ht;have hc:∀{v},H t=v->gd c.toArray H j=(match v with|.bool b=>Z b|_=>wW):=by rintro v rfl;unfold gd;grind
 have m:xb c.toArray H o=(gd c.toArray H j==Z a):=by unfold xb;rw[n]
 split at h;rename_i b i;have hv:H t=.bool b:=Xi e t 0 _ i;refine⟨σ,_,h,f,?_⟩;rw[m,hc hv];cases b<;>cases a<;>rfl
 rename_i i;have hv:H t=XS:=Xi e t 0 _ i;refine⟨σ,_,h,f,?_⟩;rw[m,hc hv];rfl;rename_i x i;have⟨hn,h⟩:=yo h;have hv:H t=.bool x:=sE i<|Xi e t;rcases SI h with⟨l,h⟩|⟨l,h⟩
 exact⟨_,_,h,rm hn (hv.trans<|Z4 xeO l) f,by rw[m,hc<|hv.trans<|Z4 xeO l];cases a<;>rfl⟩;exact⟨_,_,h,rm hn (hv.trans<|Z4 xeO l) f,by rw[m,hc<|hv.trans<|Z4 xeO l];cases a<;>rfl⟩;cases h
 cases h
 cases h
theorem zoT{o:Wd}{k:Sg->V R}(h:IW cx o σ k=Z r)(c:u7 P fr cx σ H w):∃xS,k xS=Z r/\u7 P fr cx xS H w:=by
 have e:=c;have⟨i,vs,hc⟩:=c;have⟨S,_,a⟩:=hc.ex;unfold IW at h;split at h;rename_i t _ _ _;split at h;rename_i x f;have⟨hn,h⟩:=yo h;have hv:=sE f<|Xi a t;rcases SI h with⟨b,h⟩|⟨b,h⟩
 exact⟨_,h,rm hn (hv.trans<|Z4 xeO b) e⟩;exact⟨_,h,rm hn (hv.trans<|Z4 xeO b) e⟩;grind;grind
def znL{N:Nd}{b:Z5 Wd}{o:Wd}{rest:wF Wd}{Q:Qs}(c:xb b H o=qR)(hd:ke N.n o.dst=qR)(h:uF P o H w (λv w'=>WpL P N b rest Q (put H o.dst v) w')):WpL P N b (o::rest) Q H w:=by intro a h1 e f;subst f;unfold V1;rw[E<|by rw[Vc];exact c];refine h.wp λv w' i=> ?_;exact i _ (by rw[aN];exact h1) (by rw[WO];exact e)<|Wz<|by rw[h1];exact aK hd
def zkd{N:Nd}{b:Z5 Wd}{o:Wd}{rest:wF Wd}{Q:Qs}(c:xb b H o=I)(hd:ke N.n o.dst=qR)(h:WpL P N b rest Q (put H o.dst XS) w):WpL P N b (o::rest) Q H w:=by intro a h1 e f;subst f;unfold V1;rw[ir<|by rw[Vc,c];exact Bool.false_ne_true];exact⟨λ_ _=>ul,h _ (by rw[aN];exact h1) (by rw[WO];exact e)<|Wz<|by rw[h1];exact aK hd⟩
def zor(hd:wZ cx d=qR)(h:u7 P fr cx σ H w):u7 P fr cx (σ.put d [(0,.un)]) (put H d XS) w:=by have⟨b,vs,c⟩:=h;exact(Kq (xS:=σ.put d [(0,.un)]) (Γl:=[]) b hd O (Nm _) (λ_ _=>O) (λe a o f=>by obtain rfl:=xaf.1 a;cases f) b.o1 (λS w _ e a=>by obtain rfl:=xaf.1 a;exact O) c).rel
def mM(cx:Sg)(a b:xr):Prop:=∀e∈cx.rg,b e.1=a e.1
def mM.refl{a:xr}:mM cx a a:=λ_ _=>O
def mM.trans{a b c:xr}(h:mM cx a b)(k:mM cx b c):mM cx a c:=λe f=>(k e f).trans<|h e f
def mM.put{a b:xr}{v:jp}(hd:wZ cx d=qR)(h:mM cx a b):mM cx a (put b d v):=λe c=>by
 rw[nF λht=> ?_];exact h e c;subst ht;simp only[wZ,Wq,xaV]at hd;have:=hd e c;simp at this
def LD(j:y6 P cf.tt)(m:ua P cf.tt)(p:∀s∈cf.cs,y8 P s)(u:Bp P cf){N:Nd}{e:wF Wd}{Q:Qs}{kp:PX->Sg->V R}{k:Sg->V R}{i9:xr}
 (z:∀xS,k xS=Z r->∀H w,mM cx i9 H->u7 P fr cx xS H w->Q .normal H w) (A:∀q xS,kp q xS=Z r->∀H w,mM cx i9 H->u7 P fr cx xS H w->Q (.panic<|ru q) H w):
 ∀{l:wF Wd}{σ:Sg}{H:xr}{w:jP},mM cx i9 H->(l.all λo=>ke N.n o.dst)=qR->zgf cf cx e kp l σ k=Z r->u7 P fr cx σ H w->WpL P N e.toArray l Q H w
 |[],σ,H,w,f,_,h,c=>λa h1 J K=>iP ⟨h1,J,K▸z σ h H w f c⟩
 |o::l,σ,H,w,f,i,h,c=>by
  simp only[List.all_cons,xae]at i;have⟨hd,h⟩:=yo h;have⟨L,b,h,c,B⟩:=zli h c;cases b
  exact zkd B i.1<|LD j m p u z A (f.put hd) i.2 h<|zor hd c;have⟨C,h,c⟩:=zoT h c;have c:=Ek (zot cf cx C o.dst o.op) c;have⟨F,vs,G⟩:=c;rcases zix j m p u hd h with⟨xS,D,_,E⟩|⟨q,xS,D,_,E⟩
  exact znL B i.1<|(E fr vs H w ⟨F,G⟩).mono λv w' M=>LD j m p u z A (f.put hd) i.2 D M.rel;refine zkg B<|(E fr vs H w ⟨F,G⟩).mono ?_;rintro T w' ⟨rfl,S,hc⟩;exact A q xS D H w' f ⟨S,vs,hc⟩
end
end
section
section
variable{P:Z2}{cf:Cf}{fr:Fr}{cx σ σ0:Sg}{vs mK:wP->jp}{H i9:xr}{w:jP}{R:Type}{r:R}
 {d:wS Wn}{ty t yt:ut}{wl:String}{wn:Z5 Edge}{g:wS (wP×uS)}{x y:uL}
theorem Pk:∀{a b:N (K×K×Dv)}{t i:K},(∀e∈a,e.1≠t)->lU (a++b) t i=lU b t i
 |[],_,_,_,_=>rfl
 |(c,f,d)::a,b,t,i,h=>by
  show(bif Q c t && Q f i then Z d else lU (a++b) t i)=_;rw[YX<|h (c,f,d)<|IR];exact Pk λe j=>h e<|FS _ j
theorem zhw{rg:N (K×K×Dv)}{t a i:K}(h:a≠t):lU (zpq rg t) a i=lU rg a i:=by
 induction rg with
 |nil=>rfl
 |cons e rg b=>
  have⟨s,j,d⟩:=e;unfold zpq at b⊢;rw[xfI];cases c:Q s t
  simp only[Bool.not_false,Xs];unfold lU;rw[b];simp only[xeX,xam,Z9];rw[b];have:=yh c;subst this;conv=>rhs;unfold lU
  rw[YX<|λe=>h e.symm];rfl
theorem zaj{rg:N (K×K×Dv)}{t a i:K}{l:N (K×Dv)}(h:a≠t):lU (qU rg (Z t) l) a i=lU rg a i:=by grind [qU,Pk,zhw]
def zkH{t a i:K}{l:N (K×Dv)}{n:K}{ob:N (K×Od)}{dv:Dv}(hn:Wq cx.rg t=qR)(h:get cx ⟨n,qU σ.rg (Z t) l,ob⟩ a i=Z dv):(a=t/\(i,dv)∈l)\/(a≠t/\get cx σ a i=Z dv):=by
 by_cases ht:a=t;subst ht;obtain hm|hm:=CR h
 have hm:=hm;obtain hm|hm:=xab.1 hm
 simp_all;have:=(xbX.1 hm).2;simp at this;simp only[Wq,xaV]at hn;have:=hn _ hm;simp at this;right;refine⟨ht,?_⟩;unfold get at h⊢;rw[show lU (qU σ.rg (Z t) l) a i=lU σ.rg a i from zaj ht]at h;exact h
def zfB{t:K}{l:N (K×Dv)}{n:K}{ob:N (K×Od)}{S:K->Prop}(hn:Wq cx.rg t=qR){a:K}(h1:a=t->∀e∈l,(qp P vs e.2 (H t) e.1).p S w)(b:a≠t->Lk P vs H S w cx σ a):Lk P vs H S w cx ⟨n,qU σ.rg (Z t) l,ob⟩ a:=by
 intro i dv hd;rcases zkH hn hd with⟨rfl,h⟩|⟨c,f⟩
 simp_all;exact b c i dv f
def Aj{l:N (K×Dv)}(a:Bd cx σ)(hl:∀e∈l,∀o,vC e.2=Z o->o<σ.nx):Bd cx (σ.put d l):=by
 refine⟨a.o1,a.o2,λe he o b=> ?_,a.r2⟩
 cases d with
 |none=>exact a.r1 e he o b
 |some t=>
  obtain he|he:=xab.1 he
  obtain⟨c,f,rfl⟩:=xat.1 he;exact hl c f o b;exact a.r1 e (xbX.1 he).1 o b
def CP{t a:K}{x b:uS}{S:K->Prop}(hn:Wq cx.rg t=qR)(c:get cx σ t 0=Z (.d .b x))(f:x=b)(h:Lk P vs H S w cx σ a):Lk P vs H S w cx (Mo σ t b) a:=by refine zfB hn (λe j i=> ?_)<|λ_=>h;subst e;obtain rfl:=xaf.1 i;exact(sE c h).trans<|Z4 xeO f
def zgA{a:N Wd}{o:Wd}{k:Sg->uS->V R}(h:AN cx a o σ k=Z r)(l:Bd cx σ):∃xS b,k xS b=Z r/\xS.ob=σ.ob/\xS.nx=σ.nx/\Bd cx xS/\
 (∀(P:Z2) vs H S w t,Lk P vs H S w cx σ t->Lk P vs H S w cx xS t)/\(∀(P:Z2) vs H S w,(∀t∈xbn a.toArray o,Lk P vs H S w cx σ t)->xb a.toArray H o=b):=by
 unfold AN at h;split at h
 next p=>exact⟨σ,qR,h,O,O,l,λ_ _ _ _ _ _ h=>h,λP vs H S w _=>by unfold xb;rw[p]⟩
 rename_i j c p;split at h;rename_i A q;split at h;rename_i t ht;have m:t∈xbn a.toArray o:=by unfold xbn;simp_all
 have hc:∀{H:xr}{v},H t=v->gd a.toArray H j=(match v with|.bool b=>Z b|_=>wW):=by rintro H v rfl;unfold gd;simp only[xfE,q,Option.bind_some,ht];rfl
 have n:∀H,xb a.toArray H o=(gd a.toArray H j==Z c):=λH=>by unfold xb;rw[p]
 split at h;rename_i b f;refine⟨σ,_,h,O,O,l,λ_ _ _ _ _ _ h=>h,λP vs H S w hl=> ?_⟩;have hv:H t=.bool b:=hl t m 0 _ f;rw[n,hc hv];cases b<;>cases c<;>rfl
 rename_i f;refine⟨σ,_,h,O,O,l,λ_ _ _ _ _ _ h=>h,λP vs H S w hl=> ?_⟩;have hv:H t=XS:=hl t m 0 _ f;rw[n,hc hv];rfl;rename_i x f;have⟨hn,h⟩:=yo h;have hd:∀b,Bd cx (Mo σ t b):=λb=>Aj (d:=Z t) l λe s o u=>by obtain rfl:=xaf.1 s;cases u
 rcases SI h with⟨i,h⟩|⟨i,h⟩
 refine⟨_,_,h,O,O,hd _,λP vs H S w z hl=>CP hn f i hl,λP vs H S w hl=> ?_⟩;have hv:=(sE f<|hl t m).trans<|Z4 xeO i;rw[n,hc hv];cases c<;>rfl
 refine⟨_,_,h,O,O,hd _,λP vs H S w z hl=>CP hn f i hl,λP vs H S w hl=> ?_⟩;have hv:=(sE f<|hl t m).trans<|Z4 xeO i;rw[n,hc hv];cases c<;>rfl
 cases h
 cases h
 cases h
theorem zjV{o:Wd}{k:Sg->V R}(h:IW cx o σ k=Z r)(i:Bd cx σ):∃xS,k xS=Z r/\xS.ob=σ.ob/\xS.nx=σ.nx/\Bd cx xS/\(∀(P:Z2) vs H S w t,Lk P vs H S w cx σ t->Lk P vs H S w cx xS t):=by
 unfold IW at h;split at h;rename_i t _ _ _;split at h;rename_i x c;have⟨hn,h⟩:=yo h;have f:∀b,Bd cx (Mo σ t b):=λb=>Aj i λe j o l=>by obtain rfl:=xaf.1 j;cases l
 rcases SI h with⟨a,h⟩|⟨a,h⟩
 exact⟨_,h,O,O,f _,λP vs H S w m hl=>CP hn c a hl⟩;exact⟨_,h,O,O,f _,λP vs H S w m hl=>CP hn c a hl⟩;grind;grind
def prL(P:Z2)(vs:K->jp)(l:N (K×Dv)):Pr where
 p S v w:=∀e∈l,(qp P vs e.2 v e.1).p S w
 keepS h k:=λe a=>(qp P vs e.2 _ e.1).keep (h e a) k
 sub h k:=λe a=>(qp P vs e.2 _ e.1).sub (h e a) k
def zoh(P:Z2)(vs:wP->jp)(Γ:N FF)(i9:xr)(cx σ:Sg)(K:N (Wn×Pr)):Prop:=∀(H:xr) (S:wP->Prop) (w:jP),zD S Γ w->∀t,Xv K i9 H S w t->Lk P vs H S w cx σ t
def iZ{K:N (Wn×Pr)}{S:wP->Prop}:∀{ts:N Wn},Q0 K i9 H S w ts->∀t∈ts,Xv K i9 H S w t
 |[],_,_,h=>kW h H1
 |_::_,h,t,ht=>by
  obtain rfl|ht:=xal.1 ht
  exact h.1;exact iZ h.2 t ht
def zgr{Γ:N FF}{K:N (Wn×Pr)}{b:Pr}{l:N (wP×Dv)}{o:Wd}(hd:wZ cx o.dst=qR)(h:zoh P vs Γ i9 cx σ K)(f:∀S v w,b.p S v w->∀e∈l,(qp P vs e.2 v e.1).p S w):zoh P vs Γ i9 cx (σ.put o.dst l) (AV o.dst b K):=by
 intro H S w a t ht
 cases c:o.dst with
 |none=>
  rw[c]at ht;exact h H S w a t ht
 |some s=>
  rw[c]at ht hd;refine zfB hd (λe=> ?_)<|λhc=> ?_;subst e;unfold Xv AV at ht;simp_all;refine h H S w a t ?_;unfold Xv AV at ht;rw[List.find?_cons,YX<|λe=>hc e.symm]at ht;exact ht
end
end
def Om{l:N Wd}{D:K->uS}(hd:∀j,D j=qR->∀e∈(yb l j).after,xcu .any e=qR->D e.on=qR):∀(f j i:K),D j=qR->qf l f j i=qR->D i=qR
 |0,j,i,c,h=>by
  obtain⟨e,b,a,rfl⟩:=Zc h;grind
 |f+1,j,i,c,h=>by
  unfold qf at h;rw[xeb]at h;obtain h|h:=h
  obtain⟨e,b,a,rfl⟩:=Zc h;grind;rw[xfH]at h;have⟨e,b,a⟩:=h;rw[xae]at a;exact Om hd f e.on i (hd j c e (xdS.1 b) a.1) a.2
section
def Q3(al:Rb->uS)(rs:N Rb):N (K×Od):=rs.filterMap λr=>if al r=qR then Z (r.o,r.x)else wW
def s9(i:K)(rs:N Rb):N (K×Od):=rs.filterMap λr=>if r.c=Z i then Z (r.o,r.x)else wW
def De(i:K)(rs:N Rb):N (K×Od):=rs.filterMap λr=>if r.a=Z i then Z (r.o,r.x)else wW
def iX(i:K)(rs:N Rb):N (K×Od):=rs.filterMap λr=>if i∈r.rd then Z (r.o,r.x)else wW
def RB{al b:Rb->uS}{i:K}:∀{rs:N Rb},(∀r∈rs,(r.c=Z i/\i∉r.rd/\r.a≠Z i/\al r=qR/\b r=I)\/(r.a=Z i/\r.c≠Z i/\i∉r.rd/\al r=I/\b r=qR)\/
 (i∈r.rd/\r.c≠Z i/\r.a≠Z i/\al r=qR/\b r=qR)\/(r.c≠Z i/\r.a≠Z i/\i∉r.rd/\al r=b r))->
 ∃rest,(∀e∈rest,∃r∈rs,e=(r.o,r.x)/\al r=qR/\b r=qR)/\(Q3 al rs).Perm (s9 i rs++(iX i rs++rest))/\(Q3 b rs).Perm (De i rs++(iX i rs++rest))
 |[],_=>⟨[],λe he=>kW he H1,xdD _,xdD _⟩
 |r::rs,h=>by
  have⟨rest,h1,f,d⟩:=RB (rs:=rs) λq m=>h q<|FS _ m;have k:∀e∈rest,∃q∈r::rs,e=(q.o,q.x)/\al q=qR/\b q=qR:=λe he=>by grind
  rcases h r (IR)with⟨g,j,a3,a4,a5⟩|⟨g,j,a3,a4,a5⟩|⟨g,j,a3,a4,a5⟩|⟨g,j,a3,a4⟩
  refine⟨rest,k,?_,?_⟩;simp only[Q3,s9,iX,xaR,g,j,a4,Xs,Z9,UP]at f⊢;simp_all;simp only[Q3,De,iX,xaR,a3,j,a5,Z9,UP,xam]at d⊢;exact d;refine⟨rest,k,?_,?_⟩;simp only[Q3,s9,iX,xaR,j,a3,a4,Z9,UP,xam]at f⊢;exact f;simp only[Q3,De,iX,xaR,g,a3,a5,Xs,Z9,UP]at d⊢;exact d.cons _;refine⟨rest,k,?_,?_⟩;simp only[Q3,s9,iX,xaR,g,j,a4,Xs,Z9,UP]at f⊢;exact(f.cons _).trans xce.symm;simp only[Q3,De,iX,xaR,g,a3,a5,Xs,Z9,UP]at d⊢;exact(d.cons _).trans xce.symm
  cases l:al r with
  |false=>
   rw[l]at a4;refine⟨rest,k,?_,?_⟩;simp only[Q3,s9,iX,xaR,g,a3,l,Z9,UP,xam]at f⊢;exact f;simp only[Q3,De,iX,xaR,j,a3,<-a4,Z9,UP,xam]at d⊢;exact d
  |true=>
   rw[l]at a4;refine⟨(r.o,r.x)::rest,λe he=> ?_,?_,?_⟩;obtain rfl|he:=xal.1 he
   exact⟨r,IR,O,l,a4.symm⟩;exact k e he;simp only[Q3,s9,iX,xaR,g,a3,l,Xs,Z9,UP]at f⊢;rw[<-xas]at f⊢;exact(f.cons _).trans xce.symm;simp only[Q3,De,iX,xaR,j,a3,<-a4,Xs,Z9,UP]at d⊢;rw[<-xas]at d⊢;exact(d.cons _).trans xce.symm
def KV(P:Z2)(vs:K->jp)(KL:N (Wn×N (K×Dv))):N (Wn×Pr):=KL.map λe=>(e.1,prL P vs e.2)
def GB(d:V Wn)(l:N (K×Dv))(KL:N (Wn×N (K×Dv))):N (Wn×N (K×Dv)):=match d with
 |some t=>(t,l)::KL
 |none=>KL
def aD:N (Wd×N (wP×Dv))->N (Wn×N (wP×Dv))->N (Wn×N (wP×Dv))
 |[],K=>K
 |(o,l)::r,K=>aD r<|GB o.dst l K
def OL(P:Z2)(vs:K->jp)(L:N (Wd×N (K×Dv))):N (Wd×Pr):=L.map λe=>(e.1,prL P vs e.2)
section
variable{P:Z2}{vs:wP->jp}
def zfI{d:V Wn}{l:N (K×Dv)}{KL:N (Wn×N (K×Dv))}:KV P vs (GB d l KL)=AV d (prL P vs l) (KV P vs KL):=by cases d<;>rfl
def zfC:∀(L:N (Wd×N (K×Dv))) (KL:N (Wn×N (K×Dv))),KV P vs (aD L KL)=Kof (OL P vs L) (KV P vs KL)
 |[],KL=>rfl
 |(o,l)::r,KL=>by
  show KV P vs (aD r<|GB o.dst l KL)=Kof (OL P vs r) (AV o.dst (prL P vs l)<|KV P vs KL);rw[zfC r,zfI]
end
def ObB(P:Z2)(b:Z5 Wd)(we:jP)(Se:K->Prop)(mE:N MF)(Γ:N FF)(i9:xr)(vs:K->jp)(n0:K)(rs:N Rb)(KL:N (Wn×N (K×Dv)))(i:K)(o:Wd)(L:N (K×Dv))(a:Oi):Prop:=
 n0<=a.lo/\a.lo<=a.hi/\(∀e∈L,∀p,vC e.2=Z p->p<a.hi/\p∈a.refs)/\(∀e∈De i rs,e.1<a.hi)/\
 ∀mK,(∀p,p<n0->mK p=vs p)->∀(H:xr) (F:N MF) (G:N FF) (w:jP),St we Se (MS mK (s9 i rs++iX i rs)++(mE++F)) (Ig (KV P mK KL) i9 H (o.looksAt b)::(Γ++G)) w->
  (xb b H o=qR->uF P o H w (λv w'=>∃vs2,(∀p,p<a.lo->vs2 p=mK p)/\St we Se (MS vs2 (De i rs)++(MS mK (iX i rs)++(mE++F))) (zkq P vs2 v L++(Γ++G)) w'))/\
  (xb b H o=I->s9 i rs=[]/\De i rs=[]/\∀S w,zD S (zkq P mK XS L) w)
structure zsw(l:N Wd)(m:K)(rs:N Rb)(is:N Oi):Prop where
 a:∀r∈rs,∀j,r.a=Z j->j<m/\∀i∈r.rd,qf l 16 i j=qR
 c:∀r∈rs,∀k,r.c=Z k->k<m/\(∀j,r.a=Z j->qf l 16 k j=qR)/\∀i∈r.rd,qf l 16 k i=qR
 n:∀i b,is[i]? =Z b->∀r∈rs,b.lo<=r.o->r.o<b.hi->∃j,r.a=Z j/\(j=i\/qf l 16 j i=qR)
 f:∀i b j J,is[i]? =Z b->is[j]? =Z J->∀p∈J.refs,b.lo<=p->p<b.hi->j=i\/qf l 16 j i=qR
 uniq:∀i j t,i<m->j<m->i≠j->(yb l i).dst=Z t->(yb l j).dst≠Z t
def zdX{l:N Wd}{m:K}{rs:N Rb}{is:N Oi}(h:zkC l m rs is=qR):zsw l m rs is:=by
 unfold zkC at h;rw[xae,xae]at h;have⟨⟨e,hn⟩,f⟩:=h;have hc:∀i q,is[i]? =Z q->zj4 l i q rs is.zipIdx=qR:=λi q hi=>xaV.1 hn (q,i)<|List.mem_zipIdx_iff_getElem?.2 hi;have b:∀(q:Oi) (p:K),q.lo<=p->p<q.hi->inB q p=qR:=λq p h1 d=>by
  unfold inB;simp_all
 refine⟨λr c j a=> ?_,λr c k g=> ?_,λi q hi r c h1 d=> ?_,λi q j J hi a p hp h1 d=> ?_,λi j t hi a hd n o=> ?_⟩;have:=xaV.1 e r c;simp_all;have:=xaV.1 e r c;rw[xae]at this;have:=this.2;rw[g]at this;simp only[xae,xaV]at this;refine⟨by have:=xbJ this.1.1;lia,λj a=> ?_,this.2⟩;have:=this.1.2;rw[a]at this;exact this;have:=hc i q hi;unfold zj4 at this;rw[xae]at this;have:=xaV.1 this.1 r c;rw[b q _ h1 d,xeX,xeI]at this;split at this;rename_i j a;rw[xeb]at this;exact⟨j,a,this.imp yh id⟩;cases this
 have:=hc i q hi;unfold zj4 at this;rw[xae]at this;have:=xaV.1 this.2 (J,j)<|List.mem_zipIdx_iff_getElem?.2 a;have:=xaV.1 this p hp;rw[b q _ h1 d,xeX,xeI,xeb]at this;exact this.imp yh id;have:=xaV.1 (xaV.1 f i<|xbf.2 hi) j<|xbf.2 a;rw[YX hd,xeI,n]at this;simp[o]at this
end
section
section
variable{P:Z2}{N:Nd}{we:jP}{Se:wP->Prop}{ms:wF MF}{Γ:wF FF}{Q:Qs}{i9:xr}{l:wF Wd}{m:wP}
def zcR{Lp:wF (Wd×Pr)}(hd:∀i,i<m->∃b,Lp[i]? =Z (yb l i,b))(f:∀(i:K) (x:Wd×Pr),Lp[i]? =Z x->i<m/\x.1=yb l i){D:K->uS}{H:xr}{S:K->Prop}{w:jP}{i:K}{t:Wn}
 (g:∀t,(∀i,i<m->D i=qR->(yb l i).dst≠Z t)->H t=i9 t) (h:(By Lp D H).p S w) (hl:i<=m) (ht:∀j,j<m->(yb l j).dst=Z t->(D j=qR↔j<i)):Xv (Kof (Lp.take i) []) i9 H S w t:=by
 unfold Xv;rcases se t (Lp.take i) []with⟨j,y,g1,a,q,k⟩|⟨g1,a⟩
 rw[k];rw[xbF]at g1;split at g1;rename_i hc;have⟨hi,n⟩:=f j y g1;exact h j y t ((ht j hi<|n▸a).2 hc) g1 a;cases g1
 rw[a];refine g t λj d o e=> ?_;have hc:=(ht j d e).1 o;have⟨b,c⟩:=hd j d;exact g1 j (yb l j,b) (by rw[xbF,E hc];exact c) e
def zhO(hc:Vi l m=qR){Lp:wF (Wd×Pr)}(n:∀i,i<m->∃o,Lp[i]? =Z (yb l i,o))(hd:∀(i:K) (x:Wd×Pr),Lp[i]? =Z x->i<m/\x.1=yb l i){D:K->uS}{H:xr}{S:K->Prop}{w:jP}{i:K}
 (hp:i<m) (hn:D i=I) (q:∀e∈(yb l i).after,xcu .any e=qR->D e.on=qR) (r:∀j,D j=qR->∀e∈(yb l j).after,xcu .any e=qR->D e.on=qR)
 (s:∀t,(∀i,i<m->D i=qR->(yb l i).dst≠Z t)->H t=i9 t) (u:(By Lp D H).p S w):Q0 (Kof (Lp.take i) []) i9 H S w (xbn l.toArray<|yb l i):=by
 have⟨h0,h1,v,A,hv⟩:=Y9 hc;have B:i<X l:=W
 have hi:∀t,t∈xbn l.toArray (yb l i)->∀j,j<m->(yb l j).dst=Z t->j≠i->(D j=qR↔j<i):=by
  intro t ht j c d y;have k:=v i j t hp c y d (.inl ht);constructor;intro z;obtain h|h:=xbW j i
  exact h;exfalso;have⟨e,f,g,hl⟩:=Zc (k.2 W);have a:=r j z e f g;rw[hl,hn]at a;cases a
  intro b;have⟨e,f,g,hl⟩:=Zc<|k.1 b;have a:=q e f g;rwa[hl]at a
 exact ay _ λt ht=>zcR n hd s u W λj c d=>by
  by_cases b:j=i;subst b;rw[hn];simp;exact hi t ht j c d b
def aj(D:K->uS)(r:Rb):uS:=(match r.a with
 |none=>qR
 |some j=>D j) && !(match r.c with
 |none=>I
 |some k=>D k)
def TN{D:K->uS}{i:K}(c:∀e∈(yb l i).after,xcu .any e=qR->D e.on=qR)(hc:∀j,D j=qR->∀e∈(yb l j).after,xcu .any e=qR->D e.on=qR):∀(f j:K),qf l f i j=qR->D j=qR
 |0,j,h=>by
  obtain⟨e,b,a,rfl⟩:=Zc h;simp_all
 |f+1,j,h=>by
  unfold qf at h;rw[xeb]at h;obtain h|h:=h
  obtain⟨e,b,a,rfl⟩:=Zc h;simp_all;rw[xfH]at h;have⟨e,b,a⟩:=h;rw[xae]at a;exact Om hc f e.on j (c e (xdS.1 b) a.1) a.2
theorem Iv{al a:Rb->uS}:∀{rs:wF Rb},(∀r∈rs,al r=a r)->Q3 al rs=Q3 a rs
 |[],_=>rfl
 |r::rs,h=>by
  have b:=Iv λq c=>h q<|FS _ c;unfold Q3 at b⊢;grind
def St.mid{we:jP}{Se:K->Prop}{A B:wF MF}{m:MF}{Γ:wF FF}{w:jP}(h:St we Se (A++m::B) Γ w):St we Se (m::(A++B)) Γ w:=St.perm h xce
def St.dropM{we:jP}{Se:K->Prop}{Γ:wF FF}{w:jP}:∀{A B C:wF MF},St we Se (A++(B++C)) Γ w->St we Se (A++C) Γ w
 |A,[],C,h=>h
 |A,b::B,C,h=>St.dropM<|St.drop (i:=0)<|St.mid h
def isD(l:wF Wd)(b:V K)(j:K):uS:=match b with
 |some a=>xak j a||qf l 16 j a
 |none=>I
def Ue(r:Rb):uS:=r.a.isNone && r.c.isNone
def ObP(P:Z2)(a:Z5 Wd)(we:jP)(Se:K->Prop)(mE:wF MF)(Γ:wF FF)(i9:xr)(vs:K->jp)(n0:K)(q:PX)(rs:wF Rb)(KL:wF (Wn×wF (K×Dv)))(i:K)(o:Wd):Prop:=
 ∀mK,(∀p,p<n0->mK p=vs p)->∀(H:xr) (F:wF MF) (G:wF FF) (w:jP),St we Se (MS mK (s9 i rs)++(mE++F)) (Ig (KV P mK KL) i9 H (o.looksAt a)::(Γ++G)) w->
  xb a H o=qR/\OpP P o H w (λb w'=>b=ru q/\St we Se (mE++F) (Γ++G) w')
theorem sO{p:Rb->uS}{r:Rb}{rs:wF Rb}:Q3 p (r::rs)=bif p r then(r.o,r.x)::Q3 p rs else Q3 p rs:=by unfold Q3;grind
def C0{p q:Rb->uS}:∀{rs:wF Rb},(∀r∈rs,p r=qR->q r=qR)->(Q3 q rs).Perm (Q3 p rs++Q3 (λr=>q r && !p r) rs)
 |[],_=>xdD _
 |r::rs,h=>by
  have a:=C0 λq b=>h q<|FS _ b;rw[sO,sO,sO]
  cases hp:p r with
  |false=>
   cases b:q r with
   |false=>exact a
   |true=>exact(xfB _ a).trans xce.symm
  |true=>
   simp_all
def zpr{i:K}:∀{rs:wF Rb},s9 i rs=Q3 (λr=>decide<|r.c=Z i) rs
 |rs=>by unfold s9 Q3;simp only[US]
theorem zek{D:K->uS}{i:K}{rs:wF Rb}(d:D i=I)(hc:∀r∈rs,r.c=Z i->aj D r=qR)(b:∀r∈rs,Ue r=qR->aj D r=qR/\r.c≠Z i):
 (Q3 (aj D) rs).Perm (s9 i rs++(Q3 Ue rs++Q3 (λr=> !decide (r.c=Z i) && aj D r && !Ue r) rs)):=by
 rw[zpr];refine(C0 λr a h=>hc r a<|WP h).trans<|xbp _ ?_;have:=C0 (p:=Ue) (q:=λr=> !decide (r.c=Z i) && aj D r) (rs:=rs) λr a h=>by simp[(b r a h).1,(b r a h).2]
 grind
def zlD{id:K}{mE:wF MF}(C:V K)(q:PX)(m:K)(Ls:wF (wF<|K×Dv))(is:wF Oi)(rs:wF Rb)(ts:wF Wn)(vs:K->jp)(n0:K)(hm:P.follows .mixedOrders=qR)(hc:Vi l m=qR)(hl:X Ls=m)(b0:X is=m)(G:zkC l m rs is=qR)
 (c4:MS vs (Q3 (λr=>r.a.isNone) rs)++mE=ms) (hd:(l.all λo=>ke N.n o.dst)=qR) (hP:∀s,C=Z s->s<m)
 (hQ:∀i x b,((l.take m).zip Ls)[i]? =Z x->is[i]? =Z b->isD l C i=I->ObB P l.toArray we Se mE Γ i9 vs n0 rs (aD (((l.take m).zip Ls).take i) []) i x.1 x.2 b)
 (h5:∀s x,C=Z s->((l.take m).zip Ls)[s]? =Z x->iX s rs=[]/\ObP P l.toArray we Se mE Γ i9 vs n0 q rs (aD (((l.take m).zip Ls).take s) []) s x.1)
 (b1:C.isSome=qR->∀(H:xr) (w:jP) (mK:K->jp),(∀p,p<n0->mK p=vs p)->(∀t,(∀i,i<m->(yb l i).dst≠Z t)->H t=i9 t)->St we Se (MS mK (Q3 Ue rs)++mE) Γ w->Q (.panic<|ru q) H w)
 (b2:C=wW->∀(H:xr) (w:jP) (mK:K->jp),(∀p,p<n0->mK p=vs p)->St we Se (MS mK (Q3 (λr=>r.c.isNone) rs)++mE) (Ig (KV P mK<|aD ((l.take m).zip Ls) []) i9 H ts::Γ) w->WpL P N l.toArray (l.drop m) Q H w):
 T P N we Se ms Γ (.region id l.toArray qR) Q i9:=by
 have⟨h0,h1,h2,h3,g4⟩:=Y9 hc;have hp:=zdX G;have⟨L,hL⟩:∃L,L=(l.take m).zip Ls:=⟨_,O⟩;rw[<-hL]at hQ h5 b2;have g5:X L=m:=by rw[hL];simp;lia
 have hR:∀i,i<m->∃x,L[i]? =Z (yb l i,x):=λi hi=>by
  have b0:i<X l:=xac hi h0;have b3:i<X Ls:=hl.symm▸hi;refine⟨Ls[i]'(b3),?_⟩;rw[hL,xfb];refine⟨?_,m7⟩;rw[xbF,E hi];simp[yb,b0]
 have hS:∀i x,L[i]? =Z x->i<m/\x.1=yb l i:=λi x G=>by
  have hi:i<m:=by have:=(xaA.1 G).1;lia
  have⟨Φ,h⟩:=hR i hi;rw[h]at G;cases G;exact⟨hi,O⟩
 have a0:∀mK i,i<m->∃Φ,(OL P mK L)[i]? =Z (yb l i,Φ):=λmK i hi=>by
  have⟨x,h⟩:=hR i hi;exact⟨_,by rw[OL,xco,h];rfl⟩
 have M:∀mK (i:K) (x:Wd×Pr),(OL P mK L)[i]? =Z x->i<m/\x.1=yb l i:=λmK i x G=>by
  rw[OL,xco]at G
  cases hy:L[i]? with
  |none=>rw[hy]at G;cases G
  |some y=>rw[hy]at G;cases G;exact hS i y hy
 refine znX m (λD H w=>(∀j,D j=qR->isD l C j=I)/\(∀t,(∀i,i<m->D i=qR->(yb l i).dst≠Z t)->H t=i9 t)/\∃mK,(∀p,p<n0->mK p=vs p)/\St we Se (MS mK (Q3 (aj D) rs)++mE) (Γ++[By (OL P mK L) D H]) w) hm hc hd ?_ ?_ ?_;intro w hw;refine⟨λ_ u=>(by cases u),λt _=>O,vs,λ_ _=>O,?_⟩;have:aj (λ_=>I)=λr=>r.a.isNone:=by funext r;unfold aj;cases r.a<;>cases r.c<;>rfl
 rw[this,c4];exact hw.weak λS w h=>zD.append h ⟨λi x t hi=>(by cases hi),ul⟩;rintro D i H w hZ hu b4 hT hD ⟨hU,hv,mK,hN,hV⟩;have g0:i<X l:=W
 have⟨x,h8⟩:=hR i hZ;have⟨b,hI⟩:∃b,is[i]? =some b:=⟨_,xaa W⟩;have hf:∀j,qf l 16 i j=qR->D j=qR:=λj u=>TN hT hD 16 j u;have h4:∀k,D k=qR->qf l 16 k i≠qR:=λk hk B=>by
  have:=Om hD 16 k i hk B;rw[hu]at this;cases this
 have hK:∀S:K->Prop,∀w:jP,(By (OL P mK L) D H).p S w->Q0 (KV P mK<|aD (L.take i) []) i9 H S w (xbn l.toArray<|yb l i):=λS w h9=>by
  rw[zfC];have:=zhO hc (a0 mK) (M mK) hZ hu hT hD hv h9;rw[show OL P mK (L.take i)=(OL P mK L).take i by unfold OL;rw[xeK]];exact this
 by_cases hE:isD l C i=qR
 obtain⟨s,rfl⟩:∃s,C=some s:=by cases C with
  |none=>cases hE
  |some s=>exact⟨s,O⟩
 have c5:isD l (Z s) s=qR:=by simp[isD]
 have c6:i=s:=by simp only[isD,xeb]at hE;obtain h|h:=hE;exact yh h;exact kW (hU s<|hf s h)<|by rw[c5];exact Bool.noConfusion
 subst c6;have⟨g6,hO⟩:=h5 i _ O h8;have c7:∀r∈rs,r.c=Z i->aj D r=qR:=λr B F=>by
  unfold aj;rw[F];simp only[hu,Bool.not_false,Bool.and_true]
  cases Y:r.a with
  |none=>rfl
  |some j=>exact hf j<|(hp.c r B i F).2.1 j Y
 have hP:=zek (D:=D) (i:=i) hu c7 (λr B h=>by
  simp only[Ue,xae,Option.isNone_iff_eq_none]at h;refine⟨?_,by rw[h.2];exact λe=>by cases e⟩;unfold aj;rw[h.1,h.2];rfl)
 have hA:St we Se (MS mK (s9 i rs)++(mE++(MS mK (Q3 Ue rs)++MS mK (Q3 (λr=> !decide (r.c=Z i) && aj D r && !Ue r) rs)))) (Ig (KV P mK<|aD (L.take i) []) i9 H (xbn l.toArray<|yb l i)::(Γ++[By (OL P mK L) D H])) w:=by
  refine St.weak (hV.perm ?_) λS w h=>⟨hK S w (zD.right (Γ:=Γ) h).1,h⟩;have e1:(MS mK<|Q3 (aj D) rs).Perm (MS mK (s9 i rs)++(MS mK (Q3 Ue rs)++MS mK (Q3 (λr=> !decide (r.c=Z i) && aj D r && !Ue r) rs))):=by unfold MS;rw[<-xaU,<-xaU];exact hP.map _
  refine(xeP mE e1).trans ?_;rw[xas];exact xbp _ xen
 have⟨c8,c9⟩:=hO mK hN H _ [By (OL P mK L) D H] w hA;refine⟨λ_=> .inr<|c9.mono λch w' ⟨e0,hs⟩=> ?_,λhw=>(by rw[c8]at hw;cases hw)⟩;subst e0;refine b1 O H w' mK hN (λt ht=>hv t λj u _=>ht j u) ?_;refine St.weak (Γ:=Γ++[By (OL P mK L) D H]) ?_ λS w h=>zD.left h;have h1:St we Se ([]++(MS mK (Q3 (λr=> !decide (r.c=Z i) && aj D r && !Ue r) rs)++(MS mK (Q3 Ue rs)++mE))) (Γ++[By (OL P mK L) D H]) w':=by refine hs.perm ?_;rw[xbO,<-xas,<-xas];exact(xen.trans<|xbp _ xen).trans<|List.Perm.of_eq (xas ..).symm
 exact St.dropM (A:=[]) h1
 have hE:isD l C i=I:=by simpa using hE
 have⟨o1,o2,o3,o4,hO⟩:=hQ i _ b h8 hI hE
 have h6:∀r∈rs,(r.c=Z i/\i∉r.rd/\r.a≠Z i/\aj D r=qR/\aj (FX D i) r=I)\/(r.a=Z i/\r.c≠Z i/\i∉r.rd/\aj D r=I/\aj (FX D i) r=qR)\/
  (i∈r.rd/\r.c≠Z i/\r.a≠Z i/\aj D r=qR/\aj (FX D i) r=qR)\/(r.c≠Z i/\r.a≠Z i/\i∉r.rd/\aj D r=aj (FX D i) r):=by
  intro r B;have hF:qf l 16 i i≠qR:=λh=>by have:=hf i h;rw[hu]at this;cases this
  have hB:∀j,j≠i->FX D i j=D j:=λj u=>NG u;by_cases F:r.c=Z i;have⟨c1,c2,c3⟩:=hp.c r B i F;have hC:i∉r.rd:=λh=>hF<|c3 i h;have hn:r.a≠Z i:=λh=>hF<|c2 i h;refine .inl ⟨F,hC,hn,?_,?_⟩;unfold aj;rw[F];simp only[hu,Bool.not_false,Bool.and_true]
  cases Y:r.a with
  |none=>rfl
  |some j=>exact hf j<|c2 j Y
  unfold aj;rw[F];simp only[pX,xeX,Bool.and_false];by_cases hn:r.a=Z i;have⟨a1,a2⟩:=hp.a r B i hn;have hC:i∉r.rd:=λh=>hF<|a2 i h;refine .inr (.inl ⟨hn,F,hC,?_,?_⟩);unfold aj;rw[hn];simp only[hu,Bool.false_and];unfold aj;rw[hn];simp only[pX,Bool.true_and]
  cases hq:r.c with
  |none=>rfl
  |some k=>
   simp only;rw[hB k<|λe=>F<|by rw[hq,e]]
   cases h':D k with
   |false=>rfl
   |true=>exact kW ((hp.c r B k hq).2.1 i hn)<|h4 k h'
  have a5:∀k,r.c=Z k->i∈r.rd->D k=I:=λk hk hi=>by
   cases h':D k with
   |false=>rfl
   |true=>exact kW ((hp.c r B k hk).2.2 i hi)<|h4 k h'
  have hW:aj (FX D i) r=aj D r:=by
   unfold aj
   cases Y:r.a with
   |none=>
    cases hq:r.c with
    |none=>rfl
    |some k=>simp only;rw[hB k<|λe=>F<|by rw[hq,e]]
   |some j=>
    cases hq:r.c with
    |none=>simp only;rw[hB j<|λe=>hn<|by rw[Y,e]]
    |some k=>simp only;rw[hB j (λe=>hn<|by rw[Y,e]),hB k<|λe=>F<|by rw[hq,e]]
  by_cases hC:i∈r.rd;have:aj D r=qR:=by
   unfold aj;have e1:(match r.c with|none=>I|some k=>D k)=I:=by
    cases hq:r.c with
    |none=>rfl
    |some k=>exact a5 k hq hC
   rw[e1];simp only[Bool.not_false,Bool.and_true]
   cases Y:r.a with
   |none=>rfl
   |some j=>exact hf j<|(hp.a r B j Y).2 i hC
  exact .inr (.inr (.inl ⟨hC,F,hn,this,hW.trans this⟩));exact .inr (.inr (.inr ⟨F,hn,hC,hW.symm⟩))
 have⟨rest,a6,p1,p2⟩:=RB h6;have hA:St we Se (MS mK (s9 i rs++iX i rs)++(mE++MS mK rest)) (Ig (KV P mK<|aD (L.take i) []) i9 H (xbn l.toArray<|yb l i)::(Γ++[By (OL P mK L) D H])) w:=by
  refine St.weak (hV.perm ?_) λS w h=>⟨hK S w (zD.right (Γ:=Γ) h).1,h⟩;have e1:(MS mK<|Q3 (aj D) rs).Perm (MS mK (s9 i rs++iX i rs)++MS mK rest):=by unfold MS;rw[<-xaU,xas];exact p1.map _
  refine(xeP mE e1).trans ?_;rw[xas];exact xbp _ xen
 have hO:=hO mK hN H (MS mK rest) [By (OL P mK L) D H] w hA;have h7:∀(v:jp) (t:Wn),(∀i',i'<m->FX D i i'=qR->(yb l i').dst≠Z t)->put H (yb l i).dst v t=i9 t:=λv t ht=>by
  rw[nF<|ht i hZ<|pX D i];exact hv t λj u e2=>ht j u<|zkr e2
 have R:∀(v:jp) (w':jP) (vs2:K->jp),(∀p,p<b.lo->vs2 p=mK p)->St we Se (MS vs2 (De i rs)++(MS mK (iX i rs)++(mE++MS mK rest))) (zkq P vs2 v x++(Γ++[By (OL P mK L) D H])) w'->
  ∃g,(∀p,p<n0->g p=vs p)/\St we Se (MS g (Q3 (aj<|FX D i) rs)++mE) (Γ++[By (OL P g L) (FX D i)<|put H (yb l i).dst v]) w':=by
  intro v w' vs2 a7 hs;have e3:∃g:K->jp,g=λp=>if b.lo<=p/\p<b.hi then vs2 p else mK p:=⟨_,O⟩;have⟨g,e3⟩:=e3;have hX:∀p,p<b.hi->g p=vs2 p:=λp hp=>by
   rw[e3];simp only;split;rfl
   next hc=>exact(a7 p W).symm
  have hG:∀p,¬(b.lo<=p/\p<b.hi)->g p=mK p:=λp hp=>by
   rw[e3];exact ir hp
  refine⟨g,λp hp=>(hG p W).trans<|hN p hp,?_⟩;have hH:∀r∈rs,aj D r=qR->g r.o=mK r.o:=λr B hH=>hG r.o λ⟨g1,g2⟩=>by
   have⟨j,u,hji⟩:=hp.n i b hI r B g1 g2;unfold aj at hH;rw[u,xae]at hH;obtain rfl|hji:=hji
   have:=hH.1;simp only at this;rw[hu]at this;cases this
   exact h4 j hH.1 hji
  have m1:MS g (De i rs)=MS vs2 (De i rs):=wV λe U=>hX e.1<|o4 e U;have m2:MS g (iX i rs)=MS mK (iX i rs):=wV λe U=>by
   have⟨r,B,a8⟩:=xem.1 U;split at a8;rename_i hi;cases a8;rcases h6 r B with⟨a1,a2,_⟩|⟨a1,a2,a3,_⟩|⟨a1,a2,a3,a4,_⟩|⟨a1,a2,a3,_⟩
   exact kW hi a2;exact kW hi a3;exact hH r B a4;exact kW hi a3;cases a8
  have m3:MS g rest=MS mK rest:=wV λe U=>by
   obtain⟨r,B,rfl,h1,_⟩:=a6 e U;exact hH r B h1
  have hP:(MS g (Q3 (aj<|FX D i) rs)++mE).Perm (MS vs2 (De i rs)++(MS mK (iX i rs)++(mE++MS mK rest))):=by
   rw[<-m1,<-m2,<-m3];have e1:(MS g<|Q3 (aj<|FX D i) rs).Perm (MS g (De i rs)++(MS g (iX i rs)++MS g rest)):=by unfold MS;rw[<-xaU,<-xaU];exact p2.map _
   refine(xeP mE e1).trans ?_;rw[xas,xas];exact xbp _<|xbp _ xen
  refine St.weak (hs.perm hP.symm) λS w2 h=> ?_;have c0:=zD.right h;refine zD.append (zD.left c0) ⟨?_,ul⟩;have h9:=(zD.right c0).1;intro j y t u hy ht;rw[OL,xco]at hy
  cases hz:L[j]? with
  |none=>rw[hz]at hy;cases hy
  |some z=>
   rw[hz]at hy;cases hy;have⟨e4,e5⟩:=hS j z hz;by_cases hji:j=i
   subst hji;rw[h8]at hz;cases hz;have e6:(yb l j).dst=Z t:=ht;show(prL P g x).p S (put H (yb l j).dst v t) w2;rw[e6,DA];intro e U;have:=k9.1 (zD.left h) _<|xat.2 ⟨e,U,O⟩;have a9:qp P g e.2 v e.1=qp P vs2 e.2 v e.1:=by unfold qp;simp only[iR (P:=P) (mK:=g) (vs:=vs2) (d:=e.2) λo ho=>hX o (o3 e U o ho).1]
   rw[a9];exact this;rw[NG hji]at u;have e7:(yb l i).dst≠Z t:=hp.uniq j i t e4 hZ hji<|e5▸ht;show(prL P g z.2).p S (put H (yb l i).dst v t) w2;rw[nF e7];intro e U;have:=h9 j (z.1,prL P mK z.2) t u (by rw[OL,xco,hz];rfl) ht;have:=this e U;have⟨J,hJ⟩:∃J,is[j]? =some J:=⟨_,xaa W⟩;have⟨_,_,q3,_,_⟩:=hQ j _ J hz hJ<|hU j u;have a9:qp P g e.2 (H t) e.1=qp P mK e.2 (H t) e.1:=by
    unfold qp;simp only[iR (P:=P) (mK:=g) (vs:=mK) (d:=e.2) λo ho=>hG o λ⟨g1,g2⟩=>by
     rcases hp.f i b j J hI hJ o (q3 e U o ho).2 g1 g2 with h|h
     exact hji h;exact h4 j u h]
   rw[a9];exact this
 have hY:∀j,FX D i j=qR->isD l C j=I:=λj u=>by
  by_cases h:j=i;rw[h];exact hE;rw[NG h]at u;exact hU j u
 refine⟨λhw=> .inl<|(hO.1 hw).mono λv w' ⟨vs2,a7,hs⟩=>⟨hY,h7 v,R v w' vs2 a7 hs⟩,λhw=>⟨hY,h7 XS,?_⟩⟩;have⟨g1,g2,g3⟩:=hO.2 hw;refine R XS w mK (λ_ _=>O) ?_;rw[g1,xbO]at hA;rw[g2];refine St.weak (show St we Se (MS mK []++(MS mK (iX i rs)++(mE++MS mK rest))) _ w from hA) λS w h=>zD.append (g3 S w) h.2;rintro D H w hM b4 ⟨hU,hv,mK,hN,hV⟩;have e8:C=wW:=by
  cases C with
  |none=>rfl
  |some s=>exact kW (hU s<|hM s<|hP s O)<|by simp[isD]
 refine b2 e8 H w mK hN ?_;have e9:Q3 (aj D) rs=Q3 (λr=>r.c.isNone) rs:=by
  refine Iv λr B=> ?_;have:aj D r=r.c.isNone:=by
   unfold aj;have e1:(match r.a with|none=>qR|some j=>D j)=qR:=by
    cases Y:r.a with
    |none=>rfl
    |some j=>exact hM j (hp.a r B j Y).1
   rw[e1]
   cases hq:r.c with
   |none=>rfl
   |some k=>simp only[hM k (hp.c r B k hq).1];rfl
  exact this
 rw[e9]at hV;refine hV.weak λS w h=>⟨?_,zD.left h⟩;refine ay ts λt _=> ?_;have:=zcR (i:=m) (t:=t) (a0 mK) (M mK) hv (zD.right (Γ:=Γ) h).1 (Nm m) λj u _=>⟨λ_=>u,λ_=>hM j u⟩;rw[zfC];rwa[xaY<|by unfold OL;rw[xaj];lia]at this
end
end
section
section
variable{P:Z2}{cf:Cf}{fr:Fr}{cx σ σ0:Sg}{vs mK:wP->jp}{H i9:xr}{w:jP}{R:Type}{r:R}
def DK:∀{rg:N (K×K×Dv)}{e:K×K×Dv},e∈dd rg->e∈rg
 |a::r,e,h=>by
  obtain rfl|h:=xal.1 h
  simp_all;exact FS _<|DK (xbX.1 h).1
def zaq:∀{rg:N (K×K×Dv)}{e:K×K×Dv},e∈dd rg->lU rg e.1 e.2.1=Z e.2.2
 |(t,i,d)::r,e,h=>by
  obtain rfl|h:=xal.1 h
  unfold lU;simp;have⟨h1,a⟩:=xbX.1 h;unfold lU;simp only[xcS]at a;rw[a];exact zaq h1
def R8:∀(l:N Wd) (al:N (K×uL)) {σ:Sg},u7 P fr cx σ H w->u7 P fr cx (znJ cf cx l al σ) H w
 |[],_,_,h=>h
 |o::r,al,σ,h=>R8 r _<|Ek _ h
theorem zlQ{N:K}{l:wF Wd}(h:(l.all λo=>ke N o.dst)=qR)(m:K):((l.drop m).all λo=>ke N o.dst)=qR:=by grind
def nC:∀(l:N K) {σ:Sg},dq P fr cx σ vs H w->dq P fr cx (Ln σ l) vs H w
 |[],_,h=>h
 |o::r,_,h=>nC r<|Ic h
theorem O9:∀(l:N K) (σ:Sg),(Ln σ l).nx=σ.nx
 |[],_=>rfl
 |o::r,σ=>by
  show(Ln (R9 σ o) r).nx=_;rw[O9 r];unfold R9;grind
structure RX1(i:K)(r r':Rb):Prop where
 a:r'.a=r.a
 o:r'.o=r.o
 x:r'.x=r.x
 c1:∀k,r.c=Z k->r'.c=Z k
 c2:r.c=wW->∀k,r'.c=Z k->i<=k
 d1:∀j∈r.rd,j∈r'.rd
 d2:∀j∈r'.rd,j∈r.rd\/i<=j
def RX(i:K):N Rb->N Rb->Prop
 |[],b=>∀r∈b,(∃j,r.a=Z j/\i<=j)/\(∀k,r.c=Z k->i<=k)/\∀j∈r.rd,i<=j
 |_::_,[]=>UT
 |r::rs,d::b=>RX1 i r d/\RX i rs b
def B2(i:K)(rs:N Rb):Prop:=∀r∈rs,(∀j,r.a=Z j->j<i)/\(∀k,r.c=Z k->k<i)/\∀j∈r.rd,j<i
def RX.refl(i:K):∀rs:N Rb,RX i rs rs
 |[]=>λr b=>kW b H1
 |r::rs=>⟨⟨O,O,O,λ_ h=>h,λh k a=>(by rw[h]at a;cases a),λ_ h=>h,λ_ h=> .inl h⟩,RX.refl i rs⟩
theorem TA{i:K}{a:N Rb}(h:RX (i+1) [] a):RX i [] a/\s9 i a=[]/\De i a=[]/\iX i a=[]:=by refine⟨λr b=> ?_,?_,?_,?_⟩;have⟨⟨j,h1,c⟩,d,f⟩:=h r b;grind;refine xex.2 λr b=>ir λe=> ?_;have:=(h r b).2.1 i e;lia;refine xex.2 λr b=>ir λe=> ?_;have⟨j,h1,c⟩:=(h r b).1;grind;refine xex.2 λr b=>ir λe=> ?_;have:=(h r b).2.2 i e;lia
theorem RX1.step{i:K}{r r1 e:Rb}(h:RX1 (i+1) r1 e)(f:r1.a=r.a)(g:r1.o=r.o)(l:r1.x=r.x)(hc:∀k,r.c=Z k->r1.c=Z k)(m:r.c=wW->∀k,r1.c=Z k->k=i)(hd:∀j∈r.rd,j∈r1.rd)(n:∀j∈r1.rd,j∈r.rd\/j=i):RX1 i r e:={
 a:=h.a.trans f
 o:=h.o.trans g
 x:=h.x.trans l
 c1:=λk b=>h.c1 k<|hc k b
 c2:=λhn k b=>by
  cases h1:r1.c with
  |none=>have:=h.c2 h1 k b;lia
  |some q=>
   have:=h.c1 q h1;simp_all
 d1:=λj d=>h.d1 j<|hd j d
 d2:=λj d=>by
  obtain h1|h1:=h.d2 j d
  grind;exact .inr<|by lia}
theorem Mq{i:K}:∀{rs b:N Rb},B2 i rs->RX (i+1) rs b->RX i rs b/\s9 i b=[]/\De i b=[]/\iX i b=[]
 |[],b,_,h=>TA h
 |r::rs,[],_,h=>h.elim
 |r::rs,d::b,f,⟨h1,n⟩=>by
  have⟨g1,g,j,l⟩:=Mq (λq o=>f q<|FS _ o) n;have⟨q1,q2,t⟩:=f r<|IR;have e1:d.c≠Z i:=λe=>by
   cases hc:r.c with
   |none=>have:=h1.c2 hc i e;lia
   |some k=>have:=h1.c1 k hc;rw[e]at this;cases this;have:=q2 i hc;lia
  have p:d.a≠Z i:=λe=>by rw[h1.a]at e;have:=q1 i e;lia
  have s:i∉d.rd:=λe=>by
   obtain h|h:=h1.d2 i e
   grind;lia
  refine⟨⟨h1.step O O O (λ_ h=>h) (λhn k m=>(by rw[hn]at m;cases m)) (λ_ h=>h)<|λ_ h=> .inl h,g1⟩,?_,?_,?_⟩;unfold s9 at g⊢;rw[xaR,ir e1];exact g;unfold De at j⊢;rw[xaR,ir p];exact j;unfold iX at l⊢;rw[xaR,ir s];exact l
def zeV{i:K}{os:N K}:∀{rs b:N Rb},B2 i rs->RX (i+1) (zjg i os rs) b->RX i rs b/\s9 i b=[]/\De i b=[]/\∀e∈dK os rs,e∈iX i b
 |[],b,_,h=>by
  have⟨g1,d,f,_⟩:=TA h;exact⟨g1,d,f,λe he=>kW he H1⟩
 |r::rs,[],_,h=>h.elim
 |r::rs,g::b,t,⟨h1,z⟩=>by
  have⟨g1,d,f,l⟩:=zeV (rs:=rs) (λq A=>t q<|FS _ A) z;have⟨q1,q2,F⟩:=t r<|IR;have⟨r1,p⟩:∃r1,r1=(match r.c,cL os r.o with|none,true=>(⟨r.a,wW,i::r.rd,r.o,r.x⟩:Rb)|_,_=>r):=⟨_,O⟩;have h1:RX1 (i+1) r1 g:=by rw[p];exact h1
  have k1:r1.a=r.a/\r1.o=r.o/\r1.x=r.x/\r1.c=r.c/\(∀j∈r.rd,j∈r1.rd)/\(∀j∈r1.rd,j∈r.rd\/j=i):=by rw[p];split;simp_all;simp_all
  have⟨u,v,y,m,B,s⟩:=k1;have e1:g.c≠Z i:=λe=>by
   cases hc:r.c with
   |none=>have:=h1.c2 (m.trans hc) i e;lia
   |some k=>have:=h1.c1 k<|m.trans hc;rw[e]at this;cases this;have:=q2 i hc;lia
  have C:g.a≠Z i:=λe=>by rw[h1.a,u]at e;have:=q1 i e;lia
  refine⟨⟨h1.step u v y (λk n=>m.trans n) (λhn k n=>by rw[m,hn]at n;cases n) B s,g1⟩,?_,?_,?_⟩;unfold s9 at d⊢;rw[xaR,ir e1];exact d;unfold De at f⊢;rw[xaR,ir C];exact f;intro e he;unfold dK at he;unfold iX at l⊢;rw[xaR];split at he;rename_i hc D;have hi:i∈g.rd:=h1.d1 i (by rw[p,hc,D];exact IR);rw[E hi];obtain rfl|he:=xal.1 he
  rw[h1.o,h1.x,v,y];exact IR;exact FS _<|l e he;split;exact l e he;exact FS _<|l e he
def ziJ{i:K}:∀{ob:N (K×Od)}{b:N Rb},RX (i+1) (zd3 i ob) b->RX i [] b/\s9 i b=[]/\De i b=ob/\iX i b=[]
 |[],b,h=>TA h
 |e::ob,[],h=>h.elim
 |e::ob,d::b,⟨h1,n⟩=>by
  have⟨g1,f,g,l⟩:=ziJ n;have e1:d.c≠Z i:=λe=>by have:=h1.c2 O i e;lia
  have m:=h1.a;have p:i∉d.rd:=λe=>by
   obtain h|h:=h1.d2 i e
   cases h
   lia
  refine⟨λr hr=> ?_,?_,?_,?_⟩;obtain rfl|hr:=xal.1 hr
  exact⟨⟨i,m,Nm _⟩,λk q=>by have:=h1.c2 O k q;lia,λj s=>by
   obtain h|h:=h1.d2 j s
   cases h
   lia⟩
  exact g1 r hr;unfold s9 at f⊢;rw[xaR,ir e1];exact f;unfold De at g⊢;rw[xaR,E m,g,h1.o,h1.x];unfold iX at l⊢;rw[xaR,ir p];exact l
def TR{i:K}{os:N K}{ob:N (K×Od)}:∀{rs b:N Rb},B2 i rs->RX (i+1) (zad i os rs++zd3 i ob) b->RX i rs b/\s9 i b=dK os rs/\De i b=ob/\iX i b=[]
 |[],b,_,h=>ziJ h
 |r::rs,[],_,h=>h.elim
 |r::rs,d::b,n,⟨h1,A⟩=>by
  have⟨g1,B,p,s⟩:=TR (rs:=rs) (λq C=>n q<|FS _ C) A;have⟨q1,q2,D⟩:=n r<|IR;have⟨r1,f⟩:∃r1,r1=(match r.c,cL os r.o with|none,true=>(⟨r.a,Z i,r.rd,r.o,r.x⟩:Rb)|_,_=>r):=⟨_,O⟩;have h1:RX1 (i+1) r1 d:=by rw[f];exact h1
  have k1:r1.a=r.a/\r1.o=r.o/\r1.x=r.x/\r1.rd=r.rd/\(∀k,r.c=Z k->r1.c=Z k)/\(r.c=wW->∀k,r1.c=Z k->k=i):=by rw[f];split;simp_all;exact⟨O,O,O,O,λ_ h=>h,λhn k t=>(by rw[hn]at t;cases t)⟩
  have⟨u,v,y,l,F,m⟩:=k1;have G:d.a≠Z i:=λe=>by rw[h1.a,u]at e;have:=q1 i e;lia
  have J:i∉d.rd:=λe=>by
   obtain h|h:=h1.d2 i e
   rw[l]at h;have:=D i h;lia;lia
  refine⟨⟨h1.step u v y F m (λj g=>by rw[l];exact g) (λj g=>by rw[l]at g;exact .inl g),g1⟩,?_,?_,?_⟩
  have no:r1=r->d.c≠Z i:=λhd e=>by
   rw[hd]at h1
   cases hc:r.c with
   |none=>have:=h1.c2 hc i e;lia
   |some k=>have:=h1.c1 k hc;rw[e]at this;cases this;have:=q2 i hc;lia
  have hv:dK os (r::rs)=(match r.c,cL os r.o with|none,qR=>(r.o,r.x)::dK os rs|_,_=>dK os rs):=O;have L:s9 i (d::b)=if d.c=Z i then(d.o,d.x)::s9 i b else s9 i b:=by unfold s9;rw[xaR];split<;>next h=>split at h<;>simp_all
  rw[L,hv,B]
  cases hc:r.c with
  |some k=>
   rw[ir<|no<|by rw[f,hc]]
  |none=>
   cases z:cL os r.o with
   |false=>rw[ir<|no<|by rw[f,hc,z]]
   |true=>
    have:d.c=Z i:=h1.c1 i (by rw[f,hc,z]);rw[E this,h1.o,h1.x,v,y]
  unfold De at p⊢;rw[xaR,ir G];exact p;unfold iX at s⊢;rw[xaR,ir J];exact s
def zf3{i:K}:∀{ob:N (K×Od)}{b:N Rb},RX i (zqi ob) b->Q3 (λr=>r.a.isNone) b=ob
 |[],b,h=>xex.2 λr d=>by
  have⟨⟨j,h1,_⟩,_⟩:=h r d;simp[h1]
 |e::ob,[],h=>h.elim
 |e::ob,f::b,⟨h1,g⟩=>by
  have c:=zf3 g;unfold Q3 at c⊢;have:f.a=wW:=h1.a;simp only[xaR,this,Option.isNone_none,Xs];rw[c,h1.o,h1.x]
theorem zkl{i:K}{os:N K}{rs:N Rb}(h:B2 i rs):B2 (i+1) (zjg i os rs):=by
 induction rs with
 |nil=>exact λr a=>kW a H1
 |cons r rs b=>
  intro q hq;obtain rfl|hq:=xal.1 hq
  have⟨q1,q2,c⟩:=h r<|IR;split;grind;grind;exact b (λq hq=>h q<|FS _ hq) q hq
theorem zcA{i:K}{os:N K}{rs:N Rb}(h:B2 i rs):B2 (i+1) (zad i os rs):=by
 induction rs with
 |nil=>exact λr a=>kW a H1
 |cons r rs b=>
  intro q hq;obtain rfl|hq:=xal.1 hq
  have⟨q1,q2,c⟩:=h r<|IR;split;grind;grind;exact b (λq hq=>h q<|FS _ hq) q hq
def zj5{i:K}{ob:N (K×Od)}{rs:N Rb}(h:B2 (i+1) rs):B2 (i+1) (rs++zd3 i ob):=λq hq=>by
 obtain hq|hq:=xab.1 hq
 exact h q hq;obtain⟨e,_,rfl⟩:=xat.1 hq;simp_all
theorem zgv{i:K}{rs:N Rb}(h:B2 i rs):B2 (i+1) rs:=λr a=>by
 have⟨q1,q2,b⟩:=h r a;grind
theorem zqh{i n:K}{os:N K}{rs:N Rb}(h:∀r∈rs,r.o<n):∀r∈zjg i os rs,r.o<n:=by
 induction rs with
 |nil=>exact λr a=>kW a H1
 |cons r rs b=>
  intro q hq;obtain rfl|hq:=xal.1 hq
  grind;simp_all
theorem zl0{i n:K}{os:N K}{rs:N Rb}(h:∀r∈rs,r.o<n):∀r∈zad i os rs,r.o<n:=by
 induction rs with
 |nil=>exact λr a=>kW a H1
 |cons r rs b=>
  intro q hq;obtain rfl|hq:=xal.1 hq
  grind;simp_all
theorem zgK{n:K}{os:N K}:∀{rs:N Rb},(∀r∈rs,r.o<n)->∀e∈dK os rs,e.1<n
 |[],_,e,a=>kW a H1
 |r::rs,h,e,a=>by
  have c:=zgK (os:=os) λq b=>h q<|FS _ b;unfold dK at a;split at a;grind;grind
def zcN:∀(rs:N Rb),Pg rs=Q3 (λr=>r.c.isNone) rs
 |[]=>rfl
 |r::rs=>by
  have a:=zcN rs;unfold Q3 at a⊢;unfold Pg
  cases hc:r.c with
  |none=>simp only[xaR,hc,Option.isNone_none,Xs];rw[a]
  |some k=>simp only[xaR,hc];exact a
def bf{ts:N Wn}:∀{rg:N (K×K×Dv)}{e:K×K×Dv},e∈bC ts rg->e∈rg/\cL ts e.1=qR
 |(t,i,v)::r,e,h=>by
  unfold bC at h;split at h;rename_i b;obtain rfl|h:=xal.1 h
  simp_all;have⟨h1,a⟩:=bf h;exact⟨FS _ h1,a⟩;have⟨h1,a⟩:=bf h;exact⟨FS _ h1,a⟩
def nL{ts:N Wn}{t i:K}(ht:cL ts t=qR):∀{rg:N (K×K×Dv)},lU (bC ts rg) t i=lU rg t i
 |[]=>rfl
 |(b,c,v)::r=>by
  unfold bC;split;unfold lU;rw[nL ht];rename_i a;rw[nL ht];conv=>rhs;unfold lU
  rw[YX<|λe=>by rw[e,ht]at a;cases a];rfl
def zco{t i:K}:∀{a b:N (K×K×Dv)},lU (a++b) t i=match lU a t i with|some d=>Z d|none=>lU b t i
 |[],b=>rfl
 |(c,e,v)::a,b=>by
  show(bif Q c t && Q e i then Z v else lU (a++b) t i)=(match(bif Q c t && Q e i then Z v else lU a t i)with|some d=>Z d|none=>lU b t i);cases f:Q c t && Q e i
  simp only[WD];exact zco;rfl
theorem zlm{l:N K}{t:K}(h:cL l t=qR):t∈l:=by grind [cL,yh]
def tj:∀{l:N (K×Dv)}{e:K×Dv}{p:K},e∈l->vC e.2=Z p->p∈sA l
 |(i,v)::r,e,p,h,hp=>by
  unfold sA;obtain rfl|h:=xal.1 h
  simp_all;have:=tj h hp;split;simp_all;lia
theorem zhu{d:V Wn}{rg:N (K×K×Dv)}{e:K×Dv}(h:e∈B3 d rg):∃t,d=Z t/\(t,e.1,e.2)∈rg:=by
 unfold B3 at h;split at h;rename_i t;have⟨q,c,a⟩:=xem.1 h;split at a;rename_i b;rw[<-yh b];grind;cases a
 cases h
def zbr(P:Z2)(vs:K->jp)(n0:K)(Γ:N FF)(i9:xr)(cx σ:Sg)(KL:N (Wn×N (K×Dv))):Prop:=∀mK,(∀p,p<n0->mK p=vs p)->zoh P mK Γ i9 cx σ (KV P mK KL)
def zb8(cx:Sg)(KL:N (Wn×N (K×Dv))):Prop:=∀e∈KL,Wq cx.rg e.1=qR
def aE{KL:N (Wn×N (K×Dv))}{l:N (K×Dv)}{d:V Wn}(hd:wZ cx d=qR)(h:zb8 cx KL):zb8 cx (GB d l KL):=by
 cases d with
 |none=>exact h
 |some s=>
  intro e he;obtain rfl|he:=xal.1 he
  exact hd;exact h e he
def gL{n0:K}{Γ:N FF}{KL:N (Wn×N (K×Dv))}{l:N (K×Dv)}{o:Wd}(hd:wZ cx o.dst=qR)(h:zbr P vs n0 Γ i9 cx σ KL):zbr P vs n0 Γ i9 cx (σ.put o.dst l) (GB o.dst l KL):=λmK hv=>by
 rw[zfI];exact zgr hd (h mK hv) λS v w hv=>hv
def PnR(c:V (K×PX))(i n:K)(a:V (K×PX)):Prop:=a=c\/(c=wW/\∃b q,a=Z (b,q)/\i<=b/\b<i+n)
def PnR.up{b a:V (K×PX)}{i n:K}(h:PnR b (i+1) n a):PnR b i (n+1) a:=by
 obtain h|⟨h,c,q,h1,d,e⟩:=h
 exact .inl h;exact .inr ⟨h,c,q,h1,W,W⟩
theorem PnR.ne{c a:V (K×PX)}{i n:K}(h:PnR c (i+1) n a)(hi:∀b q,c=Z (b,q)->b<i)(q:PX):a≠Z (i,q):=λe=>by
 obtain h|⟨h,b,d,h1,f,g⟩:=h
 grind;grind
def PnR.of_some{a:V (K×PX)}{e:K×PX}{i n:K}(h:PnR (Z e) i n a):a=Z e:=by
 obtain h|⟨h,_⟩:=h
 exact h;cases h
def zm0(P:Z2)(b:N Wd)(we:jP)(Se:K->Prop)(mE:N MF)(Γ:N FF)(i9:xr)(vs:K->jp)(n0:K)(c:V (K×PX))(rs:N Rb):N ((Wd×N (K×Dv))×Oi)->K->N (Wn×N (K×Dv))->Prop
 |[],_,_=>Ws
 |((o,L),a)::r,i,KL=>(isD b (c.map (·.1)) i=I->ObB P b.toArray we Se mE Γ i9 vs n0 rs KL i o L a)/\(∀q,c=Z (i,q)->iX i rs=[]/\ObP P b.toArray we Se mE Γ i9 vs n0 q rs KL i o)/\zm0 P b we Se mE Γ i9 vs n0 c rs r (i+1) (GB o.dst L KL)
def Fa{P:Z2}{b:N Wd}{we:jP}{Se:K->Prop}{mE:N MF}{Γ:N FF}{i9:xr}{vs:K->jp}{n0:K}{d:V (K×PX)}{rs:N Rb}:∀(r:N (Wd×N (K×Dv))) (is:N Oi) (n:K) (KL:N (Wn×N (K×Dv))) (i:K) (x:Wd×N (K×Dv)) (a:Oi),
 zm0 P b we Se mE Γ i9 vs n0 d rs (r.zip is) n KL->r[i]? =Z x->is[i]? =Z a->(isD b (d.map (·.1)) (n+i)=I->ObB P b.toArray we Se mE Γ i9 vs n0 rs (aD (r.take i) KL) (n+i) x.1 x.2 a)/\∀q,d=Z (n+i,q)->iX (n+i) rs=[]/\ObP P b.toArray we Se mE Γ i9 vs n0 q rs (aD (r.take i) KL) (n+i) x.1
 |[],_,_,_,_,_,_,h,c,_=>by simp at c
 |_::_,[],_,_,_,_,_,_,_,h=>by simp at h
 |(o,L)::r,e::is,n,KL,0,x,a,h,c,hc=>by simp at c hc;subst c;subst hc;exact⟨h.1,h.2.1⟩
 |(o,L)::r,e::is,n,KL,i+1,x,a,h,c,hc=>by
  have:=Fa r is (n+1) (GB o.dst L KL) i x a h.2.2 (by simpa using c) (by simpa using hc);rw[(W:n+1+i=n+(i+1))]at this;simpa[aD]using this
def Ak(hT:y6 P cf.tt)(hL:ua P cf.tt)(hC:∀s∈cf.cs,y8 P s)(hX:Bp P cf){u:N Wd}{fz:N K}{k:V (K×PX)->Sg->N Rb->N Oi->V R}{Γ:N FF}{n0:K}(hF:∀e∈cx.ob,e.1<n0):∀{os:N Wd}{i:K}{J:V (K×PX)}{σ:Sg}{rs:N Rb}{is:N Oi}{KL:N (Wn×N (K×Dv))},
 OY cf cx u fz J os i σ rs is k=Z r->(∀C q,J=Z (C,q)->C<i)->zbr P vs n0 Γ i9 cx σ KL->zb8 cx KL->σ.ob=[]->Bd cx σ->(∀r∈rs,r.o<σ.nx)->B2 i rs->n0<=σ.nx->
 ∃(x:V (K×PX)) (Ls:N (N<|K×Dv)) (z:N Oi) (xS:Sg) (y:N Rb),PnR J i (X os) x/\X Ls=X os/\X z=X os/\k x xS y (is++z)=Z r/\RX i rs y/\
  zm0 P u fr.we fr.Se (MS vs cx.ob++fr.F) Γ i9 vs n0 x y ((os.zip Ls).zip z) i KL/\zbr P vs n0 Γ i9 cx xS (aD (os.zip Ls) KL)/\zb8 cx (aD (os.zip Ls) KL)/\xS.ob=[]/\Bd cx xS/\(∀r∈y,r.o<xS.nx)/\n0<=xS.nx
 |[],i,J,σ,rs,is,KL,h,hH,hi,hn,ho,hB,hr,L,h0=>⟨J,[],[],σ,rs,.inl O,O,O,by rw[xbo];exact h,RX.refl _ _,ul,hi,hn,ho,hB,hr,h0⟩
 |o::os,i,J,σ,rs,is,KL,h,hH,hi,hn,ho,hB,hr,L,h0=>by
  unfold OY at h;have⟨hd,h⟩:=yo h;have hG:∀C q,J=Z (C,q)->C<i+1:=λC q e=>Nat.lt_succ_of_lt<|hH C q e;cases hJ:zmE u J i<;>rw[hJ]at h
  case true=>
   obtain⟨C,q0,rfl⟩:∃C q0,J=some (C,q0):=by
    cases J with
    |none=>cases hJ
    |some e=>exact⟨e.1,e.2,O⟩
   have⟨x,Ls,z,xS,y,hc,h1,U,Y,h4,h5,h6,h7,h8,h9,hu,hy⟩:=Ak hT hL hC hX hF (os:=os) h hG (gL (l:=[]) hd hi) (aE hd hn) ho (Aj hB λe he=>kW he H1) hr (zgv L) h0;have⟨g1,g2,Q,g4⟩:=Mq L h4;have hK:x=Z (C,q0):=hc.of_some;refine⟨x,[]::Ls,⟨σ.nx,σ.nx,[]⟩::z,xS,y,hc.up,by simp[h1],by simp[U],by rw[<-Y];simp,g1,⟨λhD=> ?_,λq hq=>kW hq<|hc.ne hH q,h5⟩,h6,h7,h8,h9,hu,hy⟩;exfalso;rw[hK]at hD;have hJ:qf u 16 i C=qR:=hJ;simp[isD,hJ]at hD
  simp only[OA]at h;have⟨D,b,h,hW,hP,a2,hU,a3⟩:=zgA h hB;have hE:∀{mK H S w},(∀p,p<n0->mK p=vs p)->zD S Γ w->Q0 (KV P mK KL) i9 H S w (xbn u.toArray o)->∀t∈xbn u.toArray o,Lk P mK H S w cx σ t:=λ{mK H S w} hv a E t ht=>hi mK hv H S w a t<|iZ E t ht;cases b
  ·have b1:zbr P vs n0 Γ i9 cx (D.put o.dst [(0,.un)]) (GB o.dst [(0,.un)] KL):=gL hd λmK hv H S w a t ht=>hU P mK H S w t<|hi mK hv H S w a t ht;have⟨x,Ls,z,xS,y,hc,h1,U,Y,h4,h5,h6,h7,h8,h9,hu,hy⟩:=Ak hT hL hC hX hF (os:=os) h hG b1 (aE hd hn) (hW.trans ho) (Aj a2 λe he p hp=>by obtain rfl:=xaf.1 he;cases hp) (λr hz=>by show r.o<D.nx;rw[hP];exact hr r hz) (zgv L) (by show n0<=D.nx;rw[hP];exact h0);have⟨g1,g2,Q,g4⟩:=Mq L h4;refine⟨x,[(0,.un)]::Ls,⟨D.nx,D.nx,[]⟩::z,xS,y,hc.up,by simp[h1],by simp[U],by rw[<-Y];simp,g1,⟨λ_=>⟨(by show n0<=D.nx;rw[hP];exact h0),Nm _,λe he p hp=>(by obtain rfl:=xaf.1 he;cases hp),λe he=>(by rw[Q]at he;cases he),λmK hv H F G w B=>⟨λhw=> ?_,λ_=>⟨g2,Q,λS w=>⟨O,ul⟩⟩⟩⟩,λq hq=>kW hq<|hc.ne hH q,h5⟩,h6,h7,h8,h9,hu,hy⟩;exfalso;have⟨S,_,a⟩:=B.ex;have:=a3 P mK H S w λt ht=>hE hv (zD.left a.2) a.1 t ht;rw[hw]at this;cases this
  ·have⟨c,h,a4,b2,hA,a5⟩:=zjV h a2;have hY:∀mK H S w t,Lk P mK H S w cx σ t->Lk P mK H S w cx c t:=λmK H S w t ht=>a5 P mK H S w t<|hU P mK H S w t ht;have hZ:zbr P vs n0 Γ i9 cx c KL:=λmK hv H S w a t ht=>hY mK H S w t<|hi mK hv H S w a t ht;have T:c.nx=σ.nx:=b2.trans hP;have hQ:∀{mK H S w},(∀p,p<n0->mK p=vs p)->zD S Γ w->Q0 (KV P mK KL) i9 H S w (xbn u.toArray o)->xb u.toArray H o=qR:=λ{mK H S w} hv a E=>a3 P mK H S w λt ht=>hE hv a E t ht;generalize hI:xbn u.toArray o=ts at h hE hQ;generalize c8:ek ts c.rg=M at h;generalize c9:fzB fz o.dst=bz at h;cases hM:(zl2 cf cx ⟨c.nx,c.rg,dK M rs⟩ bz o.dst o.op||(zld cf cx c o.op).isSome)<;>rw[hM]at h
   ·simp only[OA]at h;have⟨l,h,b3⟩:=zmA (P:=P) (d:=o.dst) (ty:=o.type) (wl:=o.pos) (wn:=o.after) (g:=o.guard) (F:=[]) hT hL hC hX h;have⟨hl,h⟩:=yo h;have⟨x,Ls,z,xS,y,hc,h1,U,Y,h4,h5,h6,h7,h8,h9,hu,hy⟩:=Ak hT hL hC hX hF (os:=os) h hG (gL hd hZ) (aE hd hn) (a4.trans<|hW.trans ho) (Aj hA<|O3 hl) (zqh λr hz=>by show r.o<c.nx;rw[T];exact hr r hz) (zkl L) (by show n0<=c.nx;rw[T];exact h0);have⟨g1,g2,Q,g4⟩:=zeV L h4;refine⟨x,l::Ls,⟨c.nx,c.nx,sA l⟩::z,xS,y,hc.up,by simp[h1],by simp[U],by rw[<-Y];simp,g1,⟨λ_=>⟨(by show n0<=c.nx;rw[T];exact h0),Nm _,λe he p hp=>⟨O3 hl e he p hp,tj he hp⟩,λe he=>(by rw[Q]at he;cases he),λmK hv H F G w B=>⟨λ_=> ?_,λhw=> ?_⟩⟩,λq hq=>kW hq<|hc.ne hH q,h5⟩,h6,h7,h8,h9,hu,hy⟩
    ·rw[g2]at B;rw[Q];have⟨k1,k2,k3,S,k4,k5,k6,k7,k8⟩:=B;have hN:MS mK cx.ob=MS vs cx.ob:=wV λe he=>hv _<|hF e he;refine(b3 H w S mK k5 (Yw.2 λmf hmf=> ?_) λt ht=> ?_).mono ?_
     ·obtain hmf|hmf:=xab.1 hmf
      ·obtain⟨e,he,rfl⟩:=xat.1 hmf;exact Yw.1 k7 _<|xab.2 (.inl<|xat.2 ⟨e,g4 e he,O⟩)
      ·rw[xbo]at hmf;have hmf:mf∈MS mK cx.ob:=hmf;rw[hN]at hmf;exact Yw.1 k7 _<|xab.2 (.inr<|xab.2 (.inl<|xab.2 (.inl hmf)))
     ·have E:Q0 (KV P mK KL) i9 H S w (xbn u.toArray o):=k8.1;exact hY mK H S w t<|hE hv (zD.left k8.2) (hI▸E) t<|hI▸xab.2 (.inl ht)
     ·rintro v w' ⟨hx,hf⟩;refine⟨mK,λ_ _=>O,k1.trans hx,k2,k3,S,k4,λk hk=>k5 k<|xao hx.size hk,k6,yV.keep hx.to (λm hm i hi=>hx.block i (yV.lt k7 m hm i hi) ul) k7,zD.append (k9.2 λf b4=> ?_)<|zD.keep hx.to k8.2⟩;obtain⟨e,he,rfl⟩:=xat.1 b4;exact hf e he
    ·exfalso;have⟨S,_,a⟩:=B.ex;have E:Q0 (KV P mK KL) i9 H S w (xbn u.toArray o):=a.1;have:=hQ hv (zD.left a.2)<|hI▸E;rw[hw]at this;cases this
   ·simp only[OA]at h;have hN:∀{vs2:K->jp},(∀p,p<n0->vs2 p=vs p)->MS vs2 cx.ob=MS vs cx.ob:=λhv=>wV λe he=>hv _<|hF e he
    have hV:∀{mK:K->jp}{H:xr}{F:N MF}{G:N FF}{w:jP},(∀p,p<n0->mK p=vs p)->St fr.we fr.Se (MS mK (dK M rs)++((MS vs cx.ob++fr.F)++F)) (Ig (KV P mK KL) i9 H (xbn u.toArray o)::(Γ++G)) w->
     dq P ⟨fr.we,fr.Se,fr.F++F,Γ++G⟩ ⟨0,[],cx.ob⟩ ⟨c.nx,dd<|bC ts<|c.rg++cx.rg,dK M rs⟩ mK H w:=by
     intro mK H F G w hv B;refine⟨⟨λe he=>zgK (λr hz=>by rw[T];exact hr r hz) e he,hA.o2,λe he p hp=> ?_,λe he=>kW he H1⟩,?_⟩
     ·have:=(bf<|DK he).1;obtain h|h:=xab.1 this
      ·exact hA.r1 e h p hp
      ·exact hA.r2 e h p hp
     ·show St fr.we fr.Se (MS mK (dK M rs)++(MS mK cx.ob++(fr.F++F))) (RS P mK H (dd<|bC ts<|c.rg++cx.rg)++([]++(Γ++G))) w;rw[hN hv,<-xas<|MS vs cx.ob];refine B.weak λS w a=>zD.append (k9.2 λf hf=> ?_) a.2;obtain⟨e,he,rfl⟩:=xat.1 hf;have E:Q0 (KV P mK KL) i9 H S w (xbn u.toArray o):=a.1;have a6:=(bf<|DK he).2;have a7:=zaq he;rw[nL a6,zco]at a7;exact hY mK H S w e.1 (hE hv (zD.left a.2) (hI▸E) e.1<|zlm a6) e.2.1 e.2.2 a7
    rcases zix (P:=P) (cx:=⟨0,[],cx.ob⟩) (d:=o.dst) (ty:=o.type) (wl:=o.pos) (wn:=o.after) (g:=o.guard) hT hL hC hX (by cases o.dst<;>rfl) h with⟨τ,h,c0,hm⟩|⟨q,a8,h,_,hm⟩;rotate_left
    ·cases J with
     |some e=>cases h
     |none=>
      have⟨x,Ls,z,xS,y,hc,h1,U,Y,h4,h5,h6,h7,h8,h9,hu,hy⟩:=Ak hT hL hC hX hF (os:=os) h (λC q e=>by cases e;lia) (gL (l:=[]) hd hZ) (aE hd hn) (a4.trans<|hW.trans ho) (Aj hA λe he=>kW he H1) (zl0 λr hz=>by show r.o<c.nx;rw[T];exact hr r hz) (zcA L) (by show n0<=c.nx;rw[T];exact h0);have c1:RX (i+1) (zad i M rs++zd3 i []) y:=by rw[show zd3 i []=[]from O,xbo];exact h4
      have⟨g1,g2,Q,g4⟩:=TR L c1;have hK:x=Z (i,q):=hc.of_some;refine⟨x,[]::Ls,⟨c.nx,c.nx,[]⟩::z,xS,y,.inr ⟨O,i,q,hK,Nm _,m7⟩,by simp[h1],by simp[U],by rw[<-Y];simp,g1,⟨λhD=> ?_,λq' hq=>⟨g4,?_⟩,h5⟩,h6,h7,h8,h9,hu,hy⟩
      ·exfalso;rw[hK]at hD;simp[isD]at hD
      ·rw[hK]at hq;cases hq;intro mK hv H F G w B;rw[g2]at B;have⟨S,_,a⟩:=B.ex;have E:Q0 (KV P mK KL) i9 H S w (xbn u.toArray o):=a.1;refine⟨hQ hv (zD.left a.2)<|hI▸E,(hm _ mK H w<|hV hv B).mono ?_⟩;rintro ch w' ⟨c2,_,hs⟩;refine⟨c2,?_⟩;have hs:St fr.we fr.Se ([]++(MS mK a8.ob++(MS mK cx.ob++(fr.F++F)))) (RS P mK H a8.rg++([]++(Γ++G))) w':=hs;have hs:=St.dropM (A:=[]) hs;rw[hN hv,<-xas<|MS vs cx.ob]at hs;exact St.weak (show St fr.we fr.Se (MS vs cx.ob++fr.F++F) _ w' from hs) λS w a=>zD.right a
    have⟨j,a0⟩:∃j,j=zqu bz o.dst τ:=⟨_,O⟩;simp only at h;rw[<-a0]at h;have a9:j.nx=τ.nx:=by rw[a0];cases bz<;>first|rfl|exact O9 _ _
    have h':∀{a1:Fr}{vs2:K->jp}{H w},dq P a1 ⟨0,[],cx.ob⟩ τ vs2 H w->dq P a1 ⟨0,[],cx.ob⟩ j vs2 H w:=λ{a1 vs2 H w} hq=>by rw[a0];cases bz<;>first|exact hq|exact nC _ hq
    unfold zmC at h;have⟨hl,h⟩:=yo h;rw[xae]at hl;have⟨hl,hR⟩:=hl;have hR:∀e∈j.ob,e.1<j.nx:=λe he=>by
     have:=xaV.1 hR e he;have:=xbJ this;lia
    have hg:c.nx<=j.nx:=by rw[a9];exact c0
    have c3:zbr P vs n0 Γ i9 cx ⟨j.nx,qU c.rg o.dst<|B3 o.dst j.rg,[]⟩ (GB o.dst (B3 o.dst j.rg) KL):=λmK hv=>gL (l:=B3 o.dst j.rg) hd hZ mK hv;have c4:Bd cx ⟨j.nx,qU c.rg o.dst<|B3 o.dst j.rg,[]⟩:=by
     refine⟨λe he=>kW he H1,λe he=>xac (hA.o2 e he) hg,λe he p hp=> ?_,λe he p hp=>xac (hA.r2 e he p hp) hg⟩;have he:e∈qU c.rg o.dst (B3 o.dst j.rg):=he;unfold qU at he;split at he
     ·obtain he|he:=xab.1 he
      ·obtain⟨e',c5,rfl⟩:=xat.1 he;exact O3 hl e' c5 p hp
      ·exact xac (hA.r1 e (xbX.1 he).1 p hp) hg
     ·exact xac (hA.r1 e he p hp) hg
    have⟨x,Ls,z,xS,y,hc,h1,U,Y,h4,h5,h6,h7,h8,h9,hu,hy⟩:=Ak hT hL hC hX hF (os:=os) h hG c3 (aE hd hn) O c4 (λq hq=>by
     obtain hq|hq:=xab.1 hq
     ·exact xac (zl0 (n:=c.nx) (λr hz=>by rw[T];exact hr r hz) q hq) hg
     ·obtain⟨e,he,rfl⟩:=xat.1 hq;exact hR e he) (zj5 (zcA L)) (xao (by rw[T];exact h0) hg)
    have⟨g1,g2,Q,g4⟩:=TR L h4;refine⟨x,B3 o.dst j.rg::Ls,⟨c.nx,j.nx,sA<|B3 o.dst j.rg⟩::z,xS,y,hc.up,by simp[h1],by simp[U],by rw[<-Y];simp,g1,⟨λ_=>⟨(by show n0<=c.nx;rw[T];exact h0),hg,λe he p hp=>⟨O3 hl e he p hp,tj he hp⟩,λe he=>hR e (by rw[Q]at he;exact he),λmK hv H F G w B=>⟨λ_=> ?_,λhw=> ?_⟩⟩,λq hq=>kW hq<|hc.ne hH q,h5⟩,h6,h7,h8,h9,hu,hy⟩
    ·rw[g2,g4,xbo]at B;rw[Q,g4];refine(hm _ mK H w<|hV hv B).mono ?_;rintro v w' ⟨vs2,b0,c6⟩;have⟨_,hS⟩:=h' c6;refine⟨vs2,b0,?_⟩;have hS:St fr.we fr.Se (MS vs2 j.ob++(MS vs2 cx.ob++(fr.F++F))) (RS P vs2 (put H o.dst v) j.rg++([]++(Γ++G))) w':=hS;rw[hN (vs2:=vs2)<|λp hp=>(b0 p<|xac hp (by show n0<=c.nx;rw[T];exact h0)).trans<|hv p hp,<-xas<|MS vs cx.ob]at hS;refine St.weak (show St fr.we fr.Se (MS vs2 j.ob++(MS mK []++(MS vs cx.ob++fr.F++F))) _ w' from hS) λS w a=>zD.append (k9.2 λf hf=> ?_)<|zD.right a;obtain⟨e,he,rfl⟩:=xat.1 hf;have⟨t,ht,c7⟩:=zhu he;have:=J8 (zD.left a) c7;rw[ht,DA]at this;exact this
    ·exfalso;have⟨S,_,a⟩:=B.ex;have E:Q0 (KV P mK KL) i9 H S w (xbn u.toArray o):=a.1;have:=hQ hv (zD.left a.2)<|hI▸E;rw[hw]at this;cases this
def qOf:V (K×PX)->PX
 |some e=>e.2
 |none=>(0,0)
def PN{o:Wd}{x:N (wP×Dv)}{t:Wn}:∀{L:N (Wd×N (wP×Dv))}{K:N (Wn×N (wP×Dv))},(o,x)∈L->o.dst=Z t->∃y,(t,y)∈aD L K
 |(d,f)::L,K,h,ht=>by
  obtain h|h:=xal.1 h
  cases h;have:∀{L:N (Wd×N (wP×Dv))}{K:N (Wn×N (wP×Dv))}{e},e∈K->e∈aD L K:=by
   intro L
   induction L with
   |nil=>exact λh=>h
   |cons a L c=>
    intro K e b;refine c ?_
    cases g:a.1.dst with
    |none=>exact b
    |some s=>exact FS _ b
  exact⟨x,show(t,x)∈aD L (GB o.dst x K)from this<|by rw[ht];exact IR⟩;exact PN (L:=L) h ht
def zjv{l:N K}{t:K}(h:t∈l):cL l t=qR:=by unfold cL;simp_all
def zdl{l:N Wd}{i m:K}(hi:i<m)(b:m<=X l):yb l i∈l.take m:=by
 have a:i<X l:=W
 rw[show yb l i=l[i]by simp[yb,a]];exact xbu<|by rw[xbF,E hi];exact xaa a
def DR:∀(rs:N Rb),Lq rs=Q3 Ue rs
 |[]=>rfl
 |r::rs=>by
  rw[sO];unfold Lq Ue;rw[DR rs];cases r.a<;>cases r.c<;>rfl
def zfW(hm:P.follows .mixedOrders=qR)(hT:y6 P cf.tt)(hL:ua P cf.tt)(hC:∀s∈cf.cs,y8 P s)(hX:Bp P cf){N:Nd}{id m:wP}{fz:wF wP}{l:wF Wd}{Q:Qs}{kp:PX->Sg->V R}{k:Sg->V R}
 (hP:∀q xS,kp q xS=Z r->∀C w,mM cx H C->u7 P fr cx xS C w->Q (.panic<|ru q) C w) (hK:∀xS,k xS=Z r->∀C w,mM cx H C->u7 P fr cx xS C w->Q .normal C w) (hN:(l.all λo=>ke N.n o.dst)=qR) (hc:Vi l m=qR) (h:zjP cf cx fz l m σ kp k=Z r) (hR:u7 P fr cx σ H w):Wp P N (.region id l.toArray qR) Q H w:=by
 unfold zjP at h;have⟨B,vs,hO⟩:=hR;obtain⟨σ0,rfl⟩:∃σ0,σ0=σ:=⟨σ,O⟩;have h9:m<=X l:=(Y9 hc).1
 have⟨A,Ls,is,xS,rs,hQ,h1,h2,M,h4,h5,hE,hB,h',hu,hF,hS⟩:=Ak (P:=P) (fr:=fr) (vs:=vs) (i9:=H) (Γ:=GS P vs H fr cx σ0) (n0:=σ0.nx) (KL:=[]) hT hL hC hX B.o2 h (λ_ _ e=>by cases e)
  (λmK hv C S w' z t ht i dv hd=>by
   have ht:C t=H t:=ht;rw[ht];have hg:get cx σ0 t i=Z dv:=hd;have:=Xi z t i dv hg;have hU:qp P mK dv (H t) i=qp P vs dv (H t) i:=by
    unfold qp;simp only[iR (P:=P) (mK:=mK) (vs:=vs) (d:=dv) λo D=>hv o (by
     obtain hm|hm:=CR hg
     exact B.r1 _ hm o D;exact B.r2 _ hm o D)]
   rw[hU];exact this) (λ_ u=>kW u H1) O ⟨λ_ u=>kW u H1,B.o2,B.r1,B.r2⟩ (λq J=>by
    obtain⟨e,u,rfl⟩:=xat.1 J;exact B.o1 e u) (λq J=>by
    obtain⟨e,u,rfl⟩:=xat.1 J;exact⟨λj hj=>(by cases hj),λj hj=>(by cases hj),λj hj=>kW hj H1⟩) (Nm _)
 simp only[xbO]at M;have⟨hx,M⟩:=yo M;have hV:=zf3 h4;have hG:∀i x g,((l.take m).zip Ls)[i]? =Z x->is[i]? =Z g->isD l (A.map (·.1)) i=I->ObB P l.toArray fr.we fr.Se (MS vs cx.ob++fr.F) (GS P vs H fr cx σ0) H vs σ0.nx rs (aD (((l.take m).zip Ls).take i) []) i x.1 x.2 g:=λi x g a b c=>by
  have:=(Fa _ is 0 [] i x g h5 a b).1;rw[xaM]at this;exact this c
 have hH:∀i0 q,A=Z (i0,q)->i0<m:=λi0 q e=>by
  obtain h|⟨_,i1,q1,g1,g2,g3⟩:=hQ
  rw[h]at e;cases e
  rw[e]at g1;cases g1;rw[xan]at g3;lia
 refine zlD (we:=fr.we) (Se:=fr.Se) (ms:=OS vs fr cx σ0.ob) (mE:=MS vs cx.ob++fr.F) (A.map (·.1)) (qOf A) m Ls is rs (xS.rg.map (·.1)++cx.rg.map (·.1)) vs σ0.nx hm hc (by rw[h1,xan];lia) (by rw[h2,xan];lia) hx (by rw[hV]) hN (λi0 e=>by
  cases A with
  |none=>cases e
  |some T=>cases e;exact hH _ _ O) hG (λi0 x e hW=> ?_) (λhD v w1 mK hl hI hn=> ?_) (λhD=> ?_) w hO
 cases A with
 |none=>cases e
 |some T=>
  have⟨i1,q1⟩:=T;cases e;have a0:=hH _ _ O;have:=(Fa _ is 0 [] i1 x (is[i1]'(by rw[h2,xan];lia)) h5 hW<|xaa _).2 q1;rw[xaM]at this;exact this O
 cases A with
 |none=>cases hD
 |some T=>
  have⟨i1,q1⟩:=T;have hJ:∀i,i<m->∀t,(yb l i).dst=Z t->Wq cx.rg t=qR:=λi hi t ht=>by
   have hY:i<X l:=W
   have⟨x,hZ⟩:∃x,((l.take m).zip Ls)[i]? =some (yb l i,x):=⟨Ls[i]'(by rw[h1,xan];lia),by rw[xfb];refine⟨?_,m7⟩;rw[xbF,E hi];simp[yb,hY]⟩
   have⟨y,hy⟩:=PN (K:=[]) (xbu hZ) ht;exact hB _ hy
  have hw:∀e0∈cx.rg,v e0.1=H e0.1:=λe0 U=>hI e0.1 λi hi hd=>by
   have:=hJ i hi _ hd;simp only[Wq,xaV]at this;have:=this e0 U;simp at this
  have hz:∀e∈σ0.rg.filter (λe=> !cL (zje<|l.take m) e.1),e∈σ0.rg/\v e.1=H e.1:=λe u=>by
   have⟨u,Y⟩:=xbX.1 u;refine⟨u,hI e.1 λi hi hd=> ?_⟩;have:cL (zje<|l.take m) e.1=qR:=zjv<|xem.2 ⟨yb l i,zdl hi W,hd⟩;rw[this]at Y;cases Y
  refine hP q1 _ M v w1 hw ⟨⟨λe u=> ?_,hu.o2,λe u p hp=> ?_,hu.r2⟩,mK,?_⟩;rw[DR]at u;have⟨q,J,u⟩:=xem.1 u;split at u;cases u;exact hF q J
  cases u
  exact xac (B.r1 e (hz e u).1 p hp) hS;show St fr.we fr.Se (MS mK (Lq rs)++(MS mK cx.ob++fr.F)) (RS P mK v (σ0.rg.filter<|λe=> !cL (zje<|l.take m) e.1)++(RS P mK v cx.rg++fr.G)) w1;rw[DR,wV (ob:=cx.ob) λe u=>hl _<|B.o2 e u];refine hn.weak λS w2 z=>zD.append ?_<|zD.append ?_<|zD.right<|zD.right z;rw[uG (vs:=vs) (H:=H) (λe u o D=>hl o<|B.r1 e (hz e u).1 o D) λe u=>(hz e u).2];refine k9.2 λf L=> ?_;obtain⟨e,u,rfl⟩:=xat.1 L;exact k9.1 (zD.left z) _<|xat.2 ⟨e,(hz e u).1,O⟩;rw[uG (vs:=vs) (H:=H) (λe u o D=>hl o<|B.r2 e u o D) λe u=>hw e u];exact zD.left<|zD.right z
 obtain rfl:A=none:=by cases A with
  |none=>rfl
  |some e=>cases hD
 simp only at M;intro v w1 mK hl hn;have hA:Pg rs=Q3 (λr=>r.c.isNone) rs:=zcN rs;have hM:∀e∈Pg rs,e.1<xS.nx:=λe u=>by
  rw[hA]at u;have⟨q,J,u⟩:=xem.1 u;split at u;cases u;exact hF q J
  cases u
 have⟨S1,_,h0⟩:=hn.ex;have hw:mM cx H v:=λe0 U=>by
  have h1:=iZ h0.1 e0.1<|xab.2 (.inr<|xat.2 ⟨e0,U,O⟩);unfold Xv at h1;have L:(KV P mK<|aD ((l.take m).zip Ls) []).find? (λx=>xak x.1 e0.1)=wW:=by rw[List.find?_eq_none];intro e u Y;obtain⟨e1,h6,rfl⟩:=xat.1 u;have:=hB e1 h6;simp only[Wq,xaV]at this;have:=this e0 U;rw[yh Y]at this;simp at this
  rw[L]at h1;exact h1
 refine LD (P:=P) (fr:=fr) hT hL hC hX hK hP hw (zlQ hN m) M ⟨⟨hM,hu.o2,λe u=>hu.r1 e<|DK u,hu.r2⟩,mK,?_⟩;show St fr.we fr.Se (MS mK (Pg rs)++(MS mK cx.ob++fr.F)) (RS P mK v (dd xS.rg)++(RS P mK v cx.rg++fr.G)) w1;rw[hA,wV (ob:=cx.ob) λe u=>hl _<|B.o2 e u];refine hn.weak λS w2 z=> ?_;have hk:=iZ z.1;have h7:∀t∈cx.rg.map (·.1),v t=H t:=λt ht=>by
  have h1:=hk t<|xab.2 (.inr ht);unfold Xv at h1;have L:(KV P mK<|aD ((l.take m).zip Ls) []).find? (λx=>xak x.1 t)=wW:=by rw[List.find?_eq_none];intro e u Y;obtain⟨e0,U,rfl⟩:=xat.1 u;have:=hB e0 U;obtain⟨T,h8,rfl⟩:=xat.1 ht;simp only[Wq,xaV]at this;have:=this T h8;rw[yh Y]at this;simp at this
  rw[L]at h1;exact h1
 refine zD.append ?_<|zD.append ?_<|zD.right<|zD.right z.2;refine k9.2 λf L=> ?_;obtain⟨e,u,rfl⟩:=xat.1 L;have hg:get cx xS e.1 e.2.1=Z e.2.2:=by unfold get;rw[zaq u]
 exact hE mK hl v S w2 z.2 e.1 (hk e.1<|xab.2 (.inl<|xat.2 ⟨e,DK u,O⟩)) _ _ hg;rw[uG (vs:=vs) (H:=H) (λe u o D=>hl o<|B.r2 e u o D) λe u=>h7 e.1<|xat.2 ⟨e,u,O⟩];exact zD.left<|zD.right z.2
def Fu(x:P.follows .mixedOrders=qR)(d:y6 P cf.tt)(e:ua P cf.tt)(f:∀s∈cf.cs,y8 P s)(g:Bp P cf){N:Nd}{id:K}{l:wF Wd}{b:uS}{Q:Qs}{kp:PX->Sg->V R}{k:Sg->V R}
 (i:∀q xS,kp q xS=Z r->∀c w,mM cx H c->u7 P fr cx xS c w->Q (.panic<|ru q) c w) (j:∀xS,k xS=Z r->∀c w,mM cx H c->u7 P fr cx xS c w->Q .normal c w) (p:(l.all λo=>ke N.n o.dst)=qR) (h:zf8 cf cx id l b σ kp k=Z r) (t:u7 P fr cx σ H w):Wp P N (.region id l.toArray b) Q H w:=by
 unfold zf8 at h;cases b
 exact λa h1 y z=>eL<|LD d e f g j i mM.refl p h t a h1 y z;simp only[OA]at h;have⟨hc,h⟩:=yo h;generalize zaU l (X l) (X l)=m at hc h;cases A:zqD cf id<;>rw[A]at h
 case true=>
  have⟨u,vs,v⟩:=t;have⟨u,v⟩:=nC (ek (zm6 cf id) σ.rg) ⟨u,v⟩;exact zfW x d e f g i j p hc h ⟨u,vs,v⟩
 exact zfW x d e f g i j p hc h<|R8 (l.take m) [] t
end
end
section
section
variable{P:Z2}{cf:Cf}{fr:Fr}{cx kp σ:Sg}{vs mK:wP->jp}{H i9:xr}{w:jP}{R:Type}{r:R}
def zn4(u:jp)(r:K):V jp:=(wg u)[r]?
def tfF:(f:TF)->f.D->(K->jp)->jp->jp->FF
 |.d t,x,_,_,v=>fV t.rep x v
 |.q t,x,_,_,v=>fP t.rep x v
 |.own _ _,_,_,u,v=>iv<|v=u
 |.var _ _,_,_,u,v=>iv (v=u/\∃b,v=.pointer (Z ⟨b,0,wW⟩))
 |.mat _ _ _,_,_,u,v=>iv<|v=yR u
 |.matv _ _ _,x,_,u,v=>iv<|Ss (yR u) x.2.1 x.2.2 v
 |.row j,r,U,_,v=>iv<|zn4 (U j) r=Z v
 |.view j,r,U,_,v=>iv<|Ss (yR<|U j) r.1 r.2 v
 |.bo _ _ _,_,_,u,v=>iv<|v=yR u
 |.vr _ _ _ _ _ _,_,_,u,v=>iv<|v=yR u
def tfM:(f:TF)->f.D->jp->N MF
 |.own t E,xs,u=>[mO t.rep E u xs]
 |.var t E,z,u=>[mP t.rep.c E u z]
 |.mat t E E1,x,u=>[Bh t.rep E E1 u x.1 x.2]
 |.matv t E E1,x,u=>[Bh t.rep E E1 u x.1.1 x.1.2]
 |.bo t E a,xs,u=>[mBo t.rep E a u xs]
 |.vr t E s E1 n i,x,u=>[mVr (vrP s<|xu n t i) t.rep E (XJ<|xu n t i) (ZL s (xu n t i) []) s.rep E1 u x.1 x.2]
 |_,_,_=>[]
def dsF(U:K->jp)(H:xr):(l:N (K×TF))->JQ l->K->N FF
 |[],_,_=>[]
 |[a],x,i=>[tfF a.2 x U (U i)<|H a.1]
 |a::b::r,x,i=>tfF a.2 x.1 U (U i) (H a.1)::dsF U H (b::r) x.2 (i+1)
def QQ(U:K->jp):(l:N (K×TF))->JQ l->K->N MF
 |[],_,_=>[]
 |[a],x,i=>tfM a.2 x<|U i
 |a::b::r,x,i=>tfM a.2 x.1 (U i)++QQ U (b::r) x.2 (i+1)
def Wm(f:TF)(dv:V Dv)(vs:K->jp)(v:jp):jp:=match f,dv with
 |.mat _ _ _,Z .nil=>aF v []
 |.mat _ _ _,Z (.mw o)=>vs o
 |.matv _ _ _,Z (.mv o _ _)=>vs o
 |.bo _ _ _,Z (.mw o)=>vs o
 |.vr _ _ _ _ _ _,Z (.mw o)=>vs o
 |_,_=>v
def aL(cx σ:Sg)(ds:N (K×TF))(vs:K->jp)(H:xr)(j:K):jp:=match ds[j]? with
 |some (t,f)=>Wm f (get cx σ t 0) vs<|H t
 |none=>XS
def Nv:∀{os l:N K},E5 os l=qR->∀o∈l,cL os o=I
 |os,o::r,h,p,hp=>by
  simp only[E5,xae,xcS]at h;obtain rfl|hp:=xal.1 hp;exact h.1;exact Nv h.2 p hp
def Nh{ds:N (K×TF)}{t:K}{f:TF}{k:f.D->N K->V R}(h:fI cx σ ds t f k=Z r):∃x os,k x os=Z r/\(∀j,FA f=Z j->j<X ds)/\
 (∀(P:Z2) vs H S w,(∀t,Lk P vs H S w cx σ t)->(tfF f x (aL cx σ ds vs H) (Wm f (get cx σ t 0) vs<|H t)<|H t).p S w)/\
 (∀(P:Z2) vs (fr:Fr) H (A:N MF) (Γ:N FF) w (g:N K),(∀S w,zD S Γ w->Lk P vs H S w cx σ t)->(∀o∈os,cL g o=I)->St fr.we fr.Se (A++OS vs fr cx (vi σ.ob g)) Γ w->
  St fr.we fr.Se (tfM f x (Wm f (get cx σ t 0) vs<|H t)++(A++OS vs fr cx (vi σ.ob<|os++g))) Γ w):=by
 have T:∀{f:TF},(∀j,FA f≠Z j)->∀j,FA f=Z j->j<X ds:=λh j e=>kW e<|h j
 cases f with
 |d s=>
  have⟨y,h,hy⟩:=zeM h;refine⟨y,[],h,T (λj e=>by cases e),λP vs H S w hl=> ?_,λP vs fr H A Γ w g _ _ h=>h⟩
  cases a:get cx σ t 0 with
  |none=>rename_i h0;simp only[fI]at h0;rw[a]at h0;cases h0
  |some v=>exact hy P vs S w v _ a<|hl t 0 v a
 |q s=>
  simp only[fI]at h;split at h;rename_i U x a;have⟨e,h⟩:=yv h;subst e;exact⟨_,[],h,T (λj e=>by cases e),λP vs H S w hl=>hl t 0 _ a,λP vs fr H A Γ w g _ _ h=>h⟩;cases h
 |own s E=>
  simp only[fI]at h;split at h;rename_i o a;split at h;rename_i U E' xs J;have⟨l,h1⟩:=yo h;have l:=yh l;subst l;have⟨e,C⟩:=yv h1;cases e;refine⟨_,[o],C,T (λj e=>by cases e),λ_ _ _ _ _ _=>by simp only[a,Wm];exact O,λP vs fr H A Γ w g hl hn m=> ?_⟩;have hp:=jY (vs:=vs) (fr:=fr) (cx:=cx)<|(jI<|hn o<|IR).trans J;have B:=St.mid<|St.perm m<|xbp _ hp;have⟨S,_,F⟩:=m.ex;have hv:H t=vs o:=hl S w F 0 _ a;simp only[a,Wm];show St _ _ (mO s.rep E (H t) _::(A++_)) _ _;rw[hv];exact B
  cases h
  rename_i a;refine⟨_,[],h,T (λj e=>by cases e),λ_ _ _ _ _ _=>by simp only[a,Wm];exact O,λP vs fr H A Γ w g hl hn m=> ?_⟩;have⟨S,_,F⟩:=m.ex;have hv:H t=.slice wW 0 0:=hl S w F 0 _ a;simp only[a,Wm];show St _ _ (mO s.rep E (H t) _::(A++_)) _ _;rw[hv];exact m.nilO;cases h
 |var s E=>
  simp only[fI]at h;split at h;rename_i o s0 a;split at h;rename_i U E' z J;have⟨l,h1⟩:=yo h;have l:=yh l;subst l;have⟨e,C⟩:=yv h1;subst e;refine⟨_,[o],C,T (λj e=>by cases e),λP vs H S w hl=> ?_,λP vs fr H A Γ w g hl hn m=> ?_⟩;have⟨B,b,h4⟩:=hl t 0 _ a;simp only[a,Wm];exact⟨O,b,B.trans h4⟩;have hp:=jY (vs:=vs) (fr:=fr) (cx:=cx)<|(jI<|hn o<|IR).trans J;have B:=St.mid<|St.perm m<|xbp _ hp;have⟨S,_,F⟩:=m.ex;have hv:H t=vs o:=(hl S w F 0 _ a).1;simp only[a,Wm];show St _ _ (mP U.rep.c E (H t) _::(A++_)) _ _;rw[hv];exact B;cases h
  cases h
 |mat s E E1=>
  simp only[fI]at h;split at h;rename_i o a;split at h;rename_i U E' F' ws ix J;have⟨l,h1⟩:=yo h;rw[xae]at l;have hc:=yh l.1;have hd:=yh l.2;subst hc;subst hd;have⟨e,C⟩:=yv h1;cases e;refine⟨_,[o],C,T (λj e=>by cases e),λP vs H S w hl=> ?_,λP vs fr H A Γ w g hl hn m=> ?_⟩
  simp only[a,Wm];exact hl t 0 _ a;have hp:=jY (vs:=vs) (fr:=fr) (cx:=cx)<|(jI<|hn o<|IR).trans J;simp only[a,Wm];have B:=St.mid<|St.perm m<|xbp _ hp;exact B;cases h
  rename_i a;refine⟨_,[],h,T (λj e=>by cases e),λP vs H S w hl=>by simp only[a,Wm];exact O,λP vs fr H A Γ w g hl hn m=> ?_⟩;have⟨S,_,F⟩:=m.ex;have hv:H t=.slice wW 0 0:=hl S w F 0 _ a;simp only[a,Wm];refine SM (u:=aF (H t) []) O ?_;show St _ _ (mO (YY []) E (H t) []::(A++_)) _ _;rw[hv];exact m.nilO;cases h
 |matv s E E1=>
  simp only[fI]at h;split at h;rename_i o lo n a;split at h;rename_i U E' F' ws ix J;have⟨l,h1⟩:=yo h;rw[xae]at l;have hc:=yh l.1;have hd:=yh l.2;subst hc;subst hd;have⟨e,C⟩:=yv h1;cases e;refine⟨_,[o],C,T (λj e=>by cases e),λP vs H S w hl=> ?_,λP vs fr H A Γ w g hl hn m=> ?_⟩
  simp only[a,Wm];exact hl t 0 _ a;have hp:=jY (vs:=vs) (fr:=fr) (cx:=cx)<|(jI<|hn o<|IR).trans J;simp only[a,Wm];have B:=St.mid<|St.perm m<|xbp _ hp;exact B;cases h
  cases h
 |row j=>
  simp only[fI]at h
  have L:∀(o G p:K),j<X ds->get cx σ t 0=Z (.rw o p)->Q o G=qR->k p []=Z r->(∀vs H,aL cx σ ds vs H j=vs G)->∃(x:K) (os:N K),k x os=Z r/\(∀i,FA (TF.row j)=Z i->i<X ds)/\
   (∀(P:Z2) vs H S w,(∀t,Lk P vs H S w cx σ t)->(tfF (.row j) x (aL cx σ ds vs H) (Wm (.row j) (get cx σ t 0) vs<|H t)<|H t).p S w)/\
   (∀(P:Z2) vs (fr:Fr) H (A:N MF) (Γ:N FF) w (g:N K),(∀S w,zD S Γ w->Lk P vs H S w cx σ t)->(∀o∈os,cL g o=I)->St fr.we fr.Se (A++OS vs fr cx (vi σ.ob g)) Γ w->
    St fr.we fr.Se (tfM (.row j) x (Wm (.row j) (get cx σ t 0) vs<|H t)++(A++OS vs fr cx (vi σ.ob<|os++g))) Γ w):=by
   intro o G p he a C B h4;refine⟨p,[],B,λi e=>by cases e;exact he,λP vs H S w hl=> ?_,λP vs fr H A Γ w g _ _ h=>h⟩;have h5:(wg<|vs o)[p]? =Z (H t):=hl t 0 _ a;rw[yh C]at h5;show zn4 (aL cx σ ds vs H j) p=Z (H t);rw[h4];exact h5
  split at h;rename_i o p s _ _ _ a M;split at h;rename_i G Y;have⟨hb,h⟩:=yo h;exact L o G p (xaA.1 M).1 a hb h λvs H=>by unfold aL;rw[M];simp only[Y,Wm]
  cases h
  rename_i o p s _ _ _ a M;split at h;rename_i G lo n Y;have⟨hb,h⟩:=yo h;exact L o G p (xaA.1 M).1 a hb h λvs H=>by unfold aL;rw[M];simp only[Y,Wm]
  cases h
  cases h
 |view j=>
  simp only[fI]at h
  have L:∀(o G p q:K),j<X ds->get cx σ t 0=Z (.mv o p q)->Q o G=qR->k (p,q) []=Z r->(∀vs H,aL cx σ ds vs H j=vs G)->∃(x:K×K) (os:N K),k x os=Z r/\(∀i,FA (TF.view j)=Z i->i<X ds)/\
   (∀(P:Z2) vs H S w,(∀t,Lk P vs H S w cx σ t)->(tfF (.view j) x (aL cx σ ds vs H) (Wm (.view j) (get cx σ t 0) vs<|H t)<|H t).p S w)/\
   (∀(P:Z2) vs (fr:Fr) H (A:N MF) (Γ:N FF) w (g:N K),(∀S w,zD S Γ w->Lk P vs H S w cx σ t)->(∀o∈os,cL g o=I)->St fr.we fr.Se (A++OS vs fr cx (vi σ.ob g)) Γ w->
    St fr.we fr.Se (tfM (.view j) x (Wm (.view j) (get cx σ t 0) vs<|H t)++(A++OS vs fr cx (vi σ.ob<|os++g))) Γ w):=by
   intro o G p q he a C B h4;refine⟨(p,q),[],B,λi e=>by cases e;exact he,λP vs H S w hl=> ?_,λP vs fr H A Γ w g _ _ h=>h⟩;have h5:Ss (yR<|vs o) p q (H t):=hl t 0 _ a;rw[yh C]at h5;show Ss (yR<|aL cx σ ds vs H j) p q (H t);rw[h4];exact h5
  split at h;rename_i o p q s _ _ _ a M;split at h;rename_i G Y;have⟨hb,h⟩:=yo h;exact L o G p q (xaA.1 M).1 a hb h λvs H=>by unfold aL;rw[M];simp only[Y,Wm]
  cases h
  rename_i o p q s _ _ _ a M;split at h;rename_i G lo n Y;have⟨hb,h⟩:=yo h;exact L o G p q (xaA.1 M).1 a hb h λvs H=>by unfold aL;rw[M];simp only[Y,Wm]
  cases h
  cases h
 |bo s E E0=>
  simp only[fI]at h;split at h;rename_i o a;split at h;rename_i U E' F' xs J;have⟨l,h1⟩:=yo h;rw[xae]at l;have hc:=yh l.1;have hd:=yh l.2;subst hc;subst hd;have⟨e,C⟩:=yv h1;cases e;refine⟨_,[o],C,T (λj e=>by cases e),λP vs H S w hl=> ?_,λP vs fr H A Γ w g hl hn m=> ?_⟩
  simp only[a,Wm];exact hl t 0 _ a;have hp:=jY (vs:=vs) (fr:=fr) (cx:=cx)<|(jI<|hn o<|IR).trans J;simp only[a,Wm];have B:=St.mid<|St.perm m<|xbp _ hp;exact B;cases h
  cases h
 |vr s E s2 E1 n i=>
  simp only[fI]at h;split at h;rename_i o a;split at h;rename_i U E' a0 F' n' i' z xs J;have⟨l,h1⟩:=yo h;rw[xae,xae,xae]at l;have⟨e1,C⟩:=yv h1;have⟨e2,B⟩:=yv C;have hc:=yh l.1;have hd:=yh l.2.1;have hf:=yh l.2.2.1;have hi:=yh l.2.2.2;subst hc;subst hd;subst hf;subst hi;subst e1;cases e2;refine⟨_,[o],B,T (λj e=>by cases e),λP vs H S w hl=> ?_,λP vs fr H A Γ w g hl hn m=> ?_⟩
  simp only[a,Wm];exact hl t 0 _ a;have hp:=jY (vs:=vs) (fr:=fr) (cx:=cx)<|(jI<|hn o<|IR).trans J;simp only[a,Wm];have B:=St.mid<|St.perm m<|xbp _ hp;exact B;cases h
  cases h
def Cm{ds:N (K×TF)}{i:K}{t:K}{f:TF}{H:xr}(h:ds[i]? =Z (t,f)):aL cx σ ds vs H i=Wm f (get cx σ t 0) vs (H t):=by unfold aL;rw[h]
def zmr{ds:N (K×TF)}:∀{l:N (K×TF)}{i:K}{k:JQ l->N K->V R},(∀j a,l[j]? =Z a->ds[i+j]? =Z a)->gat cx σ ds l k=Z r->∃x os,k x os=Z r/\(∀a∈l,∀j,FA a.2=Z j->j<X ds)/\
 (∀(P:Z2) vs H S w,(∀t,Lk P vs H S w cx σ t)->zD S (dsF (aL cx σ ds vs H) H l x i) w)/\
 (∀(P:Z2) vs (fr:Fr) H (Γ:N FF) w,(∀S w,zD S Γ w->∀t,Lk P vs H S w cx σ t)->St fr.we fr.Se (OS vs fr cx σ.ob) Γ w->St fr.we fr.Se (QQ (aL cx σ ds vs H) l x i++OS vs fr cx (vi σ.ob os)) Γ w)
 |[],i,k,_,h=>⟨(),[],h,λ_ h=>kW h H1,λ_ _ _ _ _ _=>ul,λ_ _ _ _ _ _ _ h=>h⟩
 |[a],i,k,hd,h=>by
  have⟨x,os,h1,h0,g,m⟩:=Nh (h:fI cx σ ds a.1 a.2 k=Z r);have f:ds[i]? =Z (a.1,a.2):=hd 0 a O;refine⟨x,os,h1,λb z j e=> ?_,λP vs H S w hl=>⟨?_,ul⟩,λP vs fr H Γ w hl n=> ?_⟩;simp_all;rw[Cm f];exact g P vs H S w hl;have:=m P vs fr H [] Γ w [] (λS w d=>hl S w d a.1) (λ_ _=>O) n;rw[xbo]at this;show St _ _ (tfM a.2 x (aL cx σ ds vs H i)++_) _ _;rw[Cm f];exact this
 |a::b::l,i,k,hd,h=>by
  have⟨x,o,h1,h0,g,m⟩:=Nh (h:fI cx σ ds a.1 a.2 _=Z r);have⟨y,os,p,q,s,u⟩:=zmr (l:=b::l) (i:=i+1) (λj c v=>by
   have:=hd (j+1) c (by simpa using v);rw[(W:i+1+j=i+(j+1))];exact this) h1
  have⟨hn,p⟩:=yo p;have f:ds[i]? =Z (a.1,a.2):=hd 0 a O;refine⟨(x,y),o++os,p,λc hc j e=> ?_,λP vs H S w hl=>⟨?_,s P vs H S w hl⟩,λP vs fr H Γ w hl n=> ?_⟩;obtain rfl|hc:=xal.1 hc
  exact h0 j e;exact q c hc j e;rw[Cm f];exact g P vs H S w hl;have:=m P vs fr H (QQ (aL cx σ ds vs H) (b::l) y<|i+1) Γ w os (λS w d=>hl S w d a.1) (Nv hn)<|u P vs fr H Γ w hl n;show St _ _ ((tfM a.2 x (aL cx σ ds vs H i)++QQ (aL cx σ ds vs H) (b::l) y (i+1))++_) _ _;rw[Cm f,xas];exact this
def nvs(vs U:K->jp)(n:K):K->jp:=λk=>if k<n then vs k else U (k-n)
theorem TC{n0:K}:∀{l:N (K×TF)}{x:JQ l}{o:K},∀e∈(mC n0 l x o).2,o<=e.1/\e.1<o+X l
 |[],_,_,e,a=>kW a H1
 |[(t,f)],x,o,e,a=>by
  cases f<;>simp only[mC]at a<;>first|exact kW a H1|(obtain rfl:=xaf.1 a;exact⟨Nm _,xdO _⟩)
 |(t,f)::b::l,x,o,e,a=>by
  have c:∀e∈(mC n0 (b::l) x.2<|o+1).2,o<=e.1/\e.1<o+X ((t,f)::b::l):=λe a=>by
   have:=TC e a;grind
  cases f<;>simp only[mC]at a<;>first
   |exact c e a
   |exact(xal.1 a).elim (λa=>by subst a;exact⟨Nm _,by simp only[xaw];lia⟩)<|λa=>c e a
def OH{n0 o p n:K}{f:TF}{x:f.D}(hn:∀j,FA f=Z j->j<n)(h:vC (Hi n0 o f x).1=Z p):p=o\/p<n0+n:=by
 cases f<;>simp only[Hi,vC,xav,WT]at h
 lia;lia;lia;lia
 next j=>have:=hn j O;exact .inr W
 next j=>have:=hn j O;exact .inr W
 lia;lia
def NR{n0 n:K}:∀{l:N (K×TF)}{x:JQ l}{o:K},(∀a∈l,∀j,FA a.2=Z j->j<n)->∀e∈(mC n0 l x o).1,∀p,vC e.2.2=Z p->p<o+X l\/p<n0+n
 |[],_,_,_,e,he=>kW he H1
 |[(t,f)],x,o,hn,e,he=>by
  intro p hp;obtain rfl:=xaf.1 (show e∈[(t,0,(Hi n0 o f x).1)]from he);rcases OH (hn _<|IR) hp with rfl|h
  simp_all;lia
 |(t,f)::b::l,x,o,hn,e,he=>by
  intro p hp;have he:e=(t,0,(Hi n0 o f x.1).1)\/e∈(mC n0 (b::l) x.2<|o+1).1:=xal.1 he;obtain rfl|he:=he
  rcases OH (hn _<|IR) hp with rfl|h
  simp_all;lia;rcases NR (λa c=>hn a<|FS _ c) e he p hp with h|h
  simp only[xaw]at h⊢;exact .inl W
  exact .inr h
theorem Oc{U:K->jp}{n0:K}:∀{l:N (K×TF)}{x:JQ l}{o i:K},(∀j,j<X l->vs (o+j)=U (i+j))->MS vs (mC n0 l x o).2=QQ U l x i
 |[],_,_,_,_=>rfl
 |[(t,f)],x,o,i,h=>by
  have h0:vs o=U i:=h 0 m7;cases f<;>simp only[mC,Hi,MS,xbT,xdX,Kz,QQ,tfM,h0]<;>rfl
 |(t,f)::b::l,x,o,i,h=>by
  have h0:vs o=U i:=h 0 m7;have a:MS vs (mC n0 (b::l) x.2<|o+1).2=QQ U (b::l) x.2 (i+1):=Oc λj c=>by
   have:=h (j+1) (by simpa using c);grind
  unfold MS at a;cases f<;>simp only[mC,Hi,MS,xbT,Kz,QQ,h0,a]<;>rfl
def HI{U:K->jp}{n0 n:K}{f:TF}{x:f.D}{o t:K}{u:jp}{S:K->Prop}(hv:vs o=u)(hn:∀j,FA f=Z j->j<n)(a:∀j,j<n->vs (n0+j)=U j)(h:(tfF f x U u<|H t).p S w):(qp P vs (Hi n0 o f x).1 (H t) 0).p S w:=by
 subst hv;cases f
 exact h;exact h;exact h;have⟨h1,b,c⟩:=h;exact⟨h1,b,h1.symm.trans c⟩;exact h;exact h;rename_i j;show zn4 (vs<|n0+j) x=Z (H t);rw[a j<|hn j O];exact h;rename_i j;show Ss (yR<|vs<|n0+j) x.1 x.2 (H t);rw[a j<|hn j O];exact h;exact h;exact h
def TM{U:K->jp}{n0 n:K}(d:∀j,j<n->vs (n0+j)=U j):∀{l:N (K×TF)}{x:JQ l}{o i:K}{S:K->Prop},(∀a∈l,∀j,FA a.2=Z j->j<n)->(∀j,j<X l->vs (o+j)=U (i+j))->zD S (dsF U H l x i) w->zD S (RS P vs H (mC n0 l x o).1) w
 |[],_,_,_,_,_,_,_=>trivial
 |[(t,f)],x,o,i,S,hn,h,c=>⟨HI (h 0 m7) (hn _<|IR) d c.1,ul⟩
 |(t,f)::b::l,x,o,i,S,hn,h,c=>⟨HI (h 0 m7) (hn _<|IR) d c.1,TM d (λa e=>hn a<|FS _ e) (λj g=>by
  have:=h (j+1) (by simpa using g);rw[(W:o+1+j=o+(j+1)),(W:i+1+j=i+(j+1))];exact this) c.2⟩
theorem zfD:∀{ns:N (K×NF)},zlh cx σ ns=qR->∀t f,(t,f)∈ns->(match f,get cx σ t 0 with
 |.kb b,Z (.kb c)=>b==c
 |.nil,Z .nil=>qR
 |.ci x,Z (.d .i y)=>eqI x y
 |.cu x,Z (.d .u y)=>eqU x y
 |.al s,Z (.ow o)=>(match get cx σ s 0 with
  |some (.ow a)=>Q o a
  |_=>I)
 |.al s,Z (.vs o _)=>(match get cx σ s 0 with
  |some (.vs a _)=>Q o a
  |_=>I)
 |.al s,Z (.mw o)=>(match get cx σ s 0 with
  |some (.mw a)=>Q o a
  |_=>I)
 |.bm s f,Z (.bm f' o _)=>(match get cx σ s 0 with
  |some (.vs a _)=>Q o a && Q f f'
  |_=>I)
 |_,_=>I)=qR
 |(e,f')::r,h,t,f,hm=>by
  unfold zlh at h;rw[xae]at h;obtain g|hm:=xal.1 hm
  grind;exact zfD h.2 t f hm
def zci{rg:N (K×K×Dv)}{S:K->Prop}(a:zD S (RS P vs H rg) w):∀{ns:N (K×NF)},(∀t f,(t,f)∈ns->match f with
 |.kb b=>H t=.bool b
 |.nil=>H t=.slice wW 0 0
 |.ci x=>(fV eI x<|H t).p S w
 |.cu x=>(fV eU x<|H t).p S w
 |.al s=>H t=H s
 |.bm s f=>H t=.func (.func f) #[H s] #[])->zD S (RS P vs H (Nb rg ns)) w
 |[],_=>a
 |(t,f)::r,h=>by
  have c:=zci a (ns:=r) λt f d=>h t f<|FS _ d;have h0:=h t f<|IR;unfold Nb;show zD S (RS P vs H<|_++_) w;rw[show RS P vs H (_++Nb rg r)=RS P vs H _++RS P vs H (Nb rg r)from xaU];refine zD.append ?_ c;cases f
  exact⟨h0,ul⟩;exact⟨h0,ul⟩;exact⟨h0,ul⟩;exact⟨h0,ul⟩;rename_i s;simp only;split;rename_i v hv;have:=J8 a<|iW hv;have h0:H t=H s:=h0;refine⟨?_,ul⟩;simp_all;trivial;rename_i s f;simp only;split;rename_i o q hv;have⟨h1,e⟩:=J8 a<|iW hv;have h0:H t=.func (.func f) #[H s] #[]:=h0;exact⟨⟨by rw[h0,h1],e⟩,ul⟩;trivial
def O8{rg:N (K×K×Dv)}{n:K}(a:∀e∈rg,∀p,vC e.2.2=Z p->p<n):∀{ns:N (K×NF)},∀e∈Nb rg ns,∀p,vC e.2.2=Z p->p<n
 |[],e,he=>a e he
 |(t,f)::r,e,he=>by
  intro p hp;unfold Nb at he;obtain he|he:=xab.1 he
  cases f
  obtain rfl:=xaf.1 he;cases hp
  obtain rfl:=xaf.1 he;cases hp
  obtain rfl:=xaf.1 he;cases hp
  obtain rfl:=xaf.1 he;cases hp
  simp only at he;split at he;rename_i v hv;obtain rfl:=xaf.1 he;exact a _ (iW hv) p hp;simp_all;simp only at he;split at he;rename_i o q hv;obtain rfl:=xaf.1 he;cases hp;exact a _ (iW hv) _ O
  exact kW he H1;exact O8 a e he p hp
def ZA:∀(l:N (K×TF)) {σ:Sg},u7 P fr cx σ H w->u7 P fr cx (zfb cx σ l) H w
 |[],_,h=>h
 |(t,.d _)::r,_,h=>ZA r<|MC _ h
 |(t,.q _)::r,_,h=>ZA r h
 |(t,.own _ _)::r,_,h=>ZA r h
 |(t,.var _ _)::r,_,h=>ZA r h
 |(t,.mat _ _ _)::r,_,h=>ZA r h
 |(t,.matv _ _ _)::r,_,h=>ZA r h
 |(t,.row _)::r,_,h=>ZA r h
 |(t,.view _)::r,_,h=>ZA r h
 |(t,.bo _ _ _)::r,_,h=>ZA r h
 |(t,.vr _ _ _ _ _ _)::r,_,h=>ZA r h
end
end
section
section
variable{P:Z2}{cf:Cf}{fr:Fr}{cx kp σ:Sg}{vs mK:wP->jp}{H i9:xr}{w:jP}{R:Type}{r:R}{N:Nd}{Q:Qs}
def fK{a b:wF (K×K×Dv)}:RS P vs H (a++b)=RS P vs H a++RS P vs H b:=xaU
def mH{sh:Sh}{k:JQ sh.ds->V R}(h:bh (jj cx kp) sh σ k=Z r)(y:Bd cx kp):∃x,k x=Z r/\∀(fr:Fr) H w,u7 P fr (jj cx kp) σ H w->u7 P fr cx (JU sh x kp) H w:=by
 unfold bh at h;simp only at h;have⟨ht,h⟩:=yo h;have⟨x,os,h1,h0,M,u⟩:=zmr (ds:=sh.ds) (i:=0) (λj a C=>by rw[xaM];exact C) h;refine⟨x,h1,λfr H w T=> ?_⟩;have Y:=ZA sh.ds T;generalize zfb (jj cx kp) σ sh.ds=g at*
 have⟨hB,vs,hv⟩:=Y;have hi:=u P vs fr H (GS P vs H fr (jj cx kp) g) w (λS w q=>Xi q) hv;have hk:=St.dropM hi;generalize hw:aL (jj cx kp) g sh.ds vs H=U at*
 have hd:∀o,o<kp.nx->nvs vs U kp.nx o=vs o:=λo ho=>E ho;have D:∀j,j<X sh.ds->nvs vs U kp.nx (kp.nx+j)=U (0+j):=λj C=>by
  unfold nvs;rw[zF,(W:kp.nx+j-kp.nx=j),xaM]
 have hz:=λe he=>TC (n0:=kp.nx) (l:=sh.ds) (x:=x) (o:=kp.nx) e he;have J:∀e∈(mC kp.nx sh.ds x kp.nx).1,∀p,vC e.2.2=Z p->p<kp.nx+X sh.ds:=λe he p hp=>by
  rcases NR (n0:=kp.nx) (n:=X sh.ds) (l:=sh.ds) (x:=x) (o:=kp.nx) h0 e he p hp with h|h<;>exact h
 refine⟨⟨λe he=> ?_,λe he=> ?_,λe he p hp=> ?_,λe he p hp=> ?_⟩,nvs vs U kp.nx,?_⟩
 ·obtain he|he:=xab.1 he
  ·exact(hz e he).2
  ·exact xac (y.o1 e he)<|xbL _ _
 ·exact xac (y.o2 e he)<|xbL _ _
 ·obtain he|he:=xab.1 he
  ·obtain he|he:=xab.1 he
   ·exact O8 (λe he p hp=>J e he p hp) e he p hp
   ·exact J e he p hp
  ·exact xac (y.r1 e he p hp)<|xbL _ _
 ·exact xac (y.r2 e he p hp)<|xbL _ _
 ·have e1:OS (nvs vs U kp.nx) fr cx ((mC kp.nx sh.ds x kp.nx).2++kp.ob)=QQ U sh.ds x 0++(MS vs (kp.ob++cx.ob)++fr.F):=by
   show MS _ (_++kp.ob)++(MS _ cx.ob++_)=_
   rw[show MS (nvs vs U kp.nx) ((mC kp.nx sh.ds x kp.nx).2++kp.ob)=MS _ _++MS _ _ from xaU,Oc D,wV λe he=>hd _<|y.o1 e he,wV (ob:=cx.ob) λe he=>hd _<|y.o2 e he,
    show MS vs (kp.ob++cx.ob)=MS _ _++MS _ _ from xaU,xas,xas]
  show St _ _ (OS (nvs vs U kp.nx) fr cx<|(mC kp.nx sh.ds x kp.nx).2++kp.ob) _ _;rw[e1];refine hk.weak λS w q=> ?_;have hl:∀t,Lk P vs H S w (jj cx kp) g t:=Xi q;have K:zD S (RS P (nvs vs U kp.nx) H (mC kp.nx sh.ds x kp.nx).1) w:=TM (U:=U) (n:=X sh.ds) (λj C=>by rw[D j C,xaM]) h0 D (by rw[<-hw];exact M P vs H S w hl);have L:zD S (RS P vs H kp.rg++RS P vs H cx.rg) w:=by
   have:=zD.left<|zD.right q;rwa[show RS P vs H (jj cx kp).rg=RS P vs H kp.rg++RS P vs H cx.rg from xaU]at this
  have hn:=zci K (ns:=sh.ns) λt f hm=>by
   have d:=zfD ht t f hm;cases f
   ·split at d<;>simp_all
    next b c u=>exact hl t 0 _ u
   ·split at d<;>simp_all
    next u=>exact hl t 0 _ u
   ·split at d<;>simp_all
    next a b u=>
    have:=hl t 0 _ u;simp only[eqI,US]at d;rw[d];exact this
   ·split at d<;>simp_all
    next a b u=>
    have:=hl t 0 _ u;simp only[eqU,US]at d;rw[d];exact this
   ·next s=>
    cases hc:get (jj cx kp) g t 0 with
    |none=>rw[hc]at d;cases d
    |some v=>
     rw[hc]at d;cases v<;>simp only[xam]at d
     ·next o=>
      cases m:get (jj cx kp) g s 0 with
      |none=>rw[m]at d;cases d
      |some z=>
       rw[m]at d;cases z<;>simp only[xam]at d;have A:H t=vs o:=hl t 0 _ hc;have B:=hl s 0 _ m;have:=yh d;subst this;exact A.trans (show H s=_ from B).symm
     ·next o _=>
      cases m:get (jj cx kp) g s 0 with
      |none=>rw[m]at d;cases d
      |some z=>
       rw[m]at d;cases z<;>simp only[xam]at d;have A:H t=vs o:=(hl t 0 _ hc).1;have B:=(hl s 0 _ m).1;have:=yh d;subst this;exact A.trans B.symm
     ·next o=>
      cases m:get (jj cx kp) g s 0 with
      |none=>rw[m]at d;cases d
      |some z=>
       rw[m]at d;cases z<;>simp only[xam]at d;have A:H t=yR (vs o):=hl t 0 _ hc;have B:=hl s 0 _ m;have:=yh d;subst this;exact A.trans (show H s=_ from B).symm
   ·next s f=>
    cases hc:get (jj cx kp) g t 0 with
    |none=>rw[hc]at d;cases d
    |some v=>
     rw[hc]at d;cases v<;>simp only[xam]at d
     next f' o _=>
     cases m:get (jj cx kp) g s 0 with
     |none=>rw[m]at d;cases d
     |some z=>
      rw[m]at d;cases z<;>simp only[xam]at d;rw[xae]at d;have A:=(hl t 0 _ hc).1;have B:=(hl s 0 _ m).1;have e1:=yh d.1;have e2:=yh d.2;subst e1;subst e2;show H t=.func (.func f) #[H s] #[];rw[B];exact A
  show zD S (RS P _ H ((Nb (mC kp.nx sh.ds x kp.nx).1 sh.ns++(mC kp.nx sh.ds x kp.nx).1)++kp.rg)++(RS P _ H cx.rg++fr.G)) w;refine zD.append ?_<|zD.append ?_<|zD.right<|zD.right q
  ·rw[fK,fK];refine zD.append (zD.append hn K) ?_;rw[uG (λe he p hp=>hd _<|y.r1 e he p hp)<|λ_ _=>O];exact zD.left L
  ·rw[uG (λe he p hp=>hd _<|y.r2 e he p hp)<|λ_ _=>O];exact zD.right L
def zim{a t:Tg}(hp:∀q,t≠ .p q)(h:zbm a t=qR):a=t:=by
 cases a<;>cases t<;>first|rfl|cases h|skip
 rw[yh (show xak _ _=qR from h)];simp_all
def zmg{t:Tg}(d:Bd cx kp){a:Tg×Sh}{k:zaV a->V R}(ht:zbm a.1 t=qR)(h:zoS (jj cx kp) σ t a k=Z r):∃(y:zaV a) (c:Sg),k y=Z r/\(∀{e:Type} (K:Tg->Sg->V e),zg7 kp K a y=K t c)/\∀(fr:Fr) H w,u7 P fr (jj cx kp) σ H w->u7 P fr cx c H w:=by
 obtain⟨τ,sh⟩:=a
 cases τ with
 |p q0=>
  cases t with
  |p q=>
   obtain⟨x,h1,b⟩:=mH (show bh (jj cx kp) sh σ (λx=>k (q,x))=Z r from h) d;exact⟨(q,x),_,h1,λK=>O,b⟩
  |n=>cases ht
  |x i=>cases ht
  |r=>cases ht
 |n=>
  obtain⟨x,h1,b⟩:=mH (show bh (jj cx kp) sh σ k=Z r from h) d
  cases t with
  |n=>exact⟨x,_,h1,λK=>O,b⟩
  |_=>cases ht
 |x i=>
  obtain⟨x,h1,b⟩:=mH (show bh (jj cx kp) sh σ k=Z r from h) d
  cases t with
  |x j=>
   obtain rfl:i=j:=yh ht;exact⟨x,_,h1,λK=>O,b⟩
  |_=>cases ht
 |r=>
  obtain⟨x,h1,b⟩:=mH (show bh (jj cx kp) sh σ k=Z r from h) d
  cases t with
  |r=>exact⟨x,_,h1,λK=>O,b⟩
  |_=>cases ht
def PS{t:Tg}(f:Bd cx kp):∀{l:wF (Tg×Sh)}{k:SmD l->V R},zfH (jj cx kp) σ t l k=Z r->∃(y:SmD l) (c:Sg),k y=Z r/\(∀{g:Type} (K:Tg->Sg->V g),OJ kp K l y=K t c)/\∀(fr:Fr) H w,u7 P fr (jj cx kp) σ H w->u7 P fr cx c H w
 |[],k,h=>by cases h
 |[a],k,h=>by
  obtain⟨ht,h⟩:=yo h;obtain⟨y,c,h1,d,e⟩:=zmg f ht h;exact⟨y,c,h1,λK=>d K,e⟩
 |a::b::l,k,h=>by
  unfold zfH at h;cases ht:zbm a.1 t<;>rw[ht]at h
  ·obtain⟨y,c,h1,d,e⟩:=PS f h;exact⟨.inr y,c,h1,λK=>d K,e⟩
  ·obtain⟨y,c,h1,d,e⟩:=zmg f ht h;exact⟨.inl y,c,h1,λK=>d K,e⟩
abbrev Qd:=lm->wF K->xr->jP->Prop
def qN(D:K):MF where
 blk k:=k=D
 p _ w:=w.heap[D]? =Z (.deferred<|some [])
 keep h _ hb:=(hb D O).trans h
 sub h _:=h
 lt h k a:=by subst a;exact(xbk.1 h).1
def Td(D:K):rW:={target:=.collected D,args:= #[]}
def Nd.wd(N:Nd)(Ds:wF K):Nd:=⟨N.n,Ds.map Td++N.ds,N.rd⟩
def Fr.wd(fr:Fr)(Ds:wF K):Fr:=⟨fr.we,fr.Se,Ds.map qN++fr.F,fr.G⟩
def zmd(N:Nd)(Q:Qd):lm->QR->jP->Prop:=λe a w=>a.tmps.size=N.n/\∃Ds:wF K,a.defers=Ds.map Td++N.ds/\Q e Ds (yf a) w
def Lg(P:Z2)(N:Nd)(c:Wt)(Q:Qd)(Ds:wF K)(H:xr)(w:jP):Prop:=
 ∀a:QR,a.tmps.size=N.n->a.defers=Ds.map Td++N.ds->yf a=H->c.wpIn N.F 0 P (zmd N Q) a w
section
variable{N:Nd}{Q Q':Qd}{Ds:wF wP}
def znR{c:Wt}(h:Wp P (N.wd Ds) c (λe H w=>Q e Ds H w) H w):Lg P N c Q Ds H w:=λa h1 b d=>WL (h a h1 b d) λe g w' ⟨q1,q2,f⟩=>⟨q1,Ds,q2,f⟩
def zmc(K:wF wP->xr->jP->Prop)(Q:Qd):Qd
 |.normal,Ds,H,w=>K Ds H w
 |e,Ds,H,w=>Q e Ds H w
def L7(id:K)(Q:Qd):Qd
 |.exit a,Ds,H,w=>bif xak a id then Q .normal Ds H w else Q (.exit a) Ds H w
 |e,Ds,H,w=>Q e Ds H w
def zrN(Q:Qd):Qd
 |.goto _,_,_,_=>UT
 |e,Ds,H,w=>Q e Ds H w
def Cq{x y:Wt}(h:Lg P N x (zmc (Lg P N y Q) Q) Ds H w):Lg P N (.seq x y) Q Ds H w:=by intro a h1 d f;refine iI<|WL (h a h1 d f) ?_;intro e g w' ⟨q1,b,q2,c⟩;cases e<;>first|exact c g q1 q2 O|exact⟨q1,b,q2,c⟩
def zgS{c:Wt}(h:Lg P N c Q Ds H w)(d:∀e Ds H w,Q e Ds H w->Q' e Ds H w):Lg P N c Q' Ds H w:=
 λa h1 f g=>WL (h a h1 f g) λe j w' ⟨q1,b,q2,i⟩=>⟨q1,b,q2,d e _ _ _ i⟩
def Il{id:K}{c:Wt}(h:Lg P N c (L7 id Q) Ds H w):Lg P N (.block id c) Q Ds H w:=by
 intro a h1 g j;refine wpIn_block<|WL (h a h1 g j) ?_;intro e k w' ⟨q1,b,q2,d⟩
 cases e with
 |exit i=>
  simp only[L7]at d;simp only[Exit.inBlock];cases f:xak i id
  rw[f]at d;rw[ir<|λe=>by subst e;simp at f];exact⟨q1,b,q2,d⟩;rw[f]at d;rw[E<|xdF f];exact⟨q1,b,q2,d⟩
 |_=>exact⟨q1,b,q2,d⟩
def zeu{c:Wt}(h:Lg P N c (zrN Q) Ds H w):Lg P N (.scope c) Q Ds H w:=by intro a h1 f g;refine zal<|WL (h a h1 f g) ?_;intro e i w' ⟨q1,b,q2,d⟩;cases e<;>first|exact⟨q1,b,q2,d⟩|exact d.elim
def Sj{c:Wt}{G:Type}(q:G->wF K->xr->jP->Prop)(i:G->K)(d:G)(f:q d Ds H w)(round:∀g Ds H w,q g Ds H w->Lg P N c (zmc (λb l w'=>∃h,q h b l w'/\i h<i g) Q) Ds H w):Lg P N (.loop c) Q Ds H w:=by
 intro a h1 j m;refine zab (λg a w=>a.tmps.size=N.n/\∃Ds:wF K,a.defers=Ds.map Td++N.ds/\q g Ds (yf a) w) i d ⟨h1,Ds,j,m▸f⟩ ?_;intro g a w ⟨h1,Ds,j,o⟩;refine WL (round g Ds (yf a) w o a h1 j O) ?_;intro e p w' ⟨q1,b,q2,k⟩
 cases e with
 |normal=>have⟨h,o1,o2⟩:=k;exact⟨h,⟨q1,b,q2,o1⟩,o2⟩
 |_=>exact⟨q1,b,q2,k⟩
def Dn{c:uL}{x y:Wt}(hc:ev H c=.bool qR)(h:Lg P N x Q Ds H w):Lg P N (.cond c x y) Q Ds H w:=
 λa h1 d b=>wpIn_cond_true (by rw[KX,b];exact hc)<|h a h1 d b
def Dx{c:uL}{x y:Wt}(hc:ev H c=.bool I)(h:Lg P N y Q Ds H w):Lg P N (.cond c x y) Q Ds H w:=
 λa h1 d b=>wpIn_cond_false (by rw[KX,b];exact hc)<|h a h1 d b
end
def IC{α:Type _}(p:α->uS):∀l:wF α,l.Perm ((l.filter λa=> !p a)++l.filter p)
 |[]=>xdD _
 |a::l=>by
  have b:=IC p l;rw[xfI,xfI];cases hp:p a
  simpa using b.cons a;simp only[xeX,xam,Z9,Xs];exact(b.cons a).trans xce.symm
def EY{ag ro:wF K}(h:u7 P fr cx σ H w):Bd cx (keep σ ag ro)/\u7 P fr (jj cx<|keep σ ag ro) (rest σ ag ro) H w:=by
 have⟨a,vs,c⟩:=h;have b:Bd cx (keep σ ag ro):=⟨λe he=>a.o1 e (xbX.1 he).1,a.o2,λe he=>a.r1 e (xbX.1 he).1,a.r2⟩;refine⟨b,⟨λe he=>a.o1 e (xbX.1 he).1,λe he=> ?_,λe he=>a.r1 e (xbX.1 he).1,λe he=> ?_⟩,vs,?_⟩;obtain he|he:=xab.1 he
 exact b.o1 e he;exact b.o2 e he;obtain he|he:=xab.1 he
 exact b.r1 e he;exact b.r2 e he;have hp:(OS vs fr cx σ.ob).Perm (OS vs fr (jj cx<|keep σ ag ro) (rest σ ag ro).ob):=by
  show List.Perm (MS vs σ.ob++(MS vs cx.ob++fr.F)) (MS vs (rest σ ag ro).ob++(MS vs ((keep σ ag ro).ob++cx.ob)++fr.F));have e:MS vs (rest σ ag ro).ob++(MS vs ((keep σ ag ro).ob++cx.ob)++fr.F)=(MS vs (rest σ ag ro).ob++MS vs (keep σ ag ro).ob)++(MS vs cx.ob++fr.F):=by rw[show MS vs ((keep σ ag ro).ob++cx.ob)=MS _ _++MS _ _ from xaU];simp_all
  rw[e];refine xeP _ ?_;have:=(IC (λe:K×Od=>cL (Hv σ ro) e.1) σ.ob).map<|Kz vs;rw[xaU]at this;exact this
 refine(St.perm c hp).sub' ?_;intro f hf;obtain hf|hf:=xab.1 hf
 obtain⟨e,he,rfl⟩:=xat.1 hf;exact xab.2 (.inl<|xat.2 ⟨e,(xbX.1 he).1,O⟩);obtain hf|hf:=xab.1 hf
 obtain⟨e,he,rfl⟩:=xat.1 hf;obtain he|he:=xab.1 he
 exact xab.2 (.inl<|xat.2 ⟨e,(xbX.1 he).1,O⟩);exact xab.2 (.inr<|xab.2 (.inl<|xat.2 ⟨e,he,O⟩));exact xab.2 (.inr<|xab.2 (.inr hf))
end
end
section
def dw(l:K)(r:li):MF where
 blk k:=k=l
 p _ w:=w.heap[l]? =Z (.loop r)
 keep h _ hb:=(hb l O).trans h
 sub h _:=h
 lt h k a:=by subst a;exact(xbk.1 h).1
def mFF(Γ:N FF):MF where
 blk _:=UT
 p S w:=zD S Γ w
 keep h k _:=zD.keep k h
 sub h k:=zD.sub k h
 lt _ _ a:=a.elim
section
variable{we:jP}{Se:wP->Prop}{ms:wF MF}{Γ Δ:wF FF}{w:jP}
theorem St.ffIn(h:St we Se ms (Δ++Γ) w):St we Se (mFF Δ::ms) Γ w:=by
 have⟨h1,c,d,S,e,f,i,g,b⟩:=h;refine⟨h1,c,⟨λk a=>a.elim,d⟩,S,e,f,λm hm k a=> ?_,⟨zD.left b,g⟩,zD.right b⟩;obtain rfl|hm:=xal.1 hm
 exact a.elim;grind
def St.ffOut(h:St we Se (mFF Δ::ms) Γ w):St we Se ms (Δ++Γ) w:=by have⟨h1,b,c,S,d,e,f,a,g⟩:=h;exact⟨h1,b,c.2,S,d,e,λm i=>f m<|FS _ i,a.2,zD.append a.1 g⟩
theorem St.putObj{l:K}{m m':MF}{o:Obj}(h:St we Se (m::ms) Γ w)(b:∀k,m.blk k↔k=l)(n:∀k,m'.blk k->k=l)(hp:∀S w',w'.heap[l]? =Z o->m'.p S w'):St we Se (m'::ms) Γ (w.putObj l o):=by have⟨h1,q,d,S,r,s,t,i,u⟩:=h;have hl:=t m (IR) l<|(b l).2 O;have v:=yV.lt i m (IR) l<|(b l).2 O;have hd:(w.putObj l o).heap.size=w.heap.size:=World.putObj_size;have f:∀k,k≠l->(w.putObj l o).heap[k]? =w.heap[k]? :=λk a=>World.putObj_heap_other a;have a:yL S w (w.putObj l o):=⟨O,O,O,Nat.le_of_eq hd.symm,λk _ g=>f k λe=>hl.1<|e▸g⟩;have x:b7 we (w.putObj l o):=⟨h1.os,h1.tape,h1.output,xao h1.size<|Nat.le_of_eq hd.symm,λk a g=>(f k λe=>by lia).trans<|h1.block k a g⟩;refine⟨x,q,⟨λk a c hc=>d.1 k ((b k).2<|n k a) c hc,d.2⟩,S,r,λk a=>s k (by rw[hd]at a;exact a),λc hc k j=> ?_,⟨hp S _<|World.putObj_heap_same v,yV.keep a (λc hc k j=>f k λe=> ?_) i.2⟩,zD.keep a u⟩;grind;subst e;exact d.1 k ((b k).2 O) c hc j
theorem St.allocObj{o:Obj}{m:MF}(h:St we Se ms Γ w)(f:∀k,m.blk k->k=w.heap.size)(hp:∀S w',w'.heap[w.heap.size]? =Z o->m.p S w'):St we Se (m::ms) Γ (w.alloc o):=by
 have⟨h1,j,l,S,n,q,g,i,r⟩:=h;have s:(w.alloc o).heap.size=w.heap.size+1:=World.size_alloc ..;have vP:∀k,k<w.heap.size->(w.alloc o).heap[k]? =w.heap[k]? :=λk a=>by
  show(w.heap.push o)[k]? =_;grind
 have hd:(w.alloc o).heap[w.heap.size]? =Z o:=World.alloc_heap_new w o;let e:K->Prop:=λk=>S k/\k≠w.heap.size
 have a:yL e w (w.alloc o):=⟨O,O,O,W,λk a _=>vP k a⟩;have hc:∀k,k<w.heap.size->S k->e k:=λk a b=>⟨b,W⟩;refine⟨⟨h1.os,h1.tape,h1.output,by have:=h1.size;lia,λk a b=>(vP k<|xac a h1.size).trans<|h1.block k a b⟩,j,⟨λk a d hm2 c=> ?_,l⟩,e,λk a=>n k a.1,λk a=>⟨q k W,W⟩,λd hm2 k c=> ?_,⟨hp _ _ hd,yV.keep a (λd hm2 k c=>vP k<|yV.lt i d hm2 k c)<|yV.sub hc i⟩,zD.keep a<|zD.sub hc r⟩;grind;obtain rfl|hm2:=xal.1 hm2
 exact⟨λb=>b.2<|f k c,by have:=f k c;have:=h1.size;lia⟩;exact⟨λb=>(g d hm2 k c).1 b.1,(g d hm2 k c).2⟩
end
section
variable{P:Z2}{cf:Cf}{fr:Fr}{cx kp σ:Sg}{vs mK:wP->jp}{H mD:xr}{w:jP}
def Mz{cx σ:Sg}(h:Bd cx σ):Bd (jj cx σ) ⟨σ.nx,[],[]⟩where
 o1:=λ_ he=>kW he H1
 o2:=λe he=>by
  obtain he|he:=xab.1 he
  exact h.o1 e he;exact h.o2 e he
 r1:=λ_ he=>kW he H1
 r2:=λe he=>by
  obtain he|he:=xab.1 he
  exact h.r1 e he;exact h.r2 e he
def Ay(f:TF)(v u:jp):Prop:=match f with
 |.own _ _=>v=u
 |.var _ _=>v=u/\∃b,v=.pointer (Z ⟨b,0,wW⟩)
 |.mat _ _ _=>v=yR u
 |.bo _ _ _=>v=yR u
 |_=>UT
def Ur(ds:N (K×TF))(H:xr)(U:K->jp):Prop:=∀(j t:K) (f:TF),ds[j]? =Z (t,f)->Ay f (H t) (U j)
def LP:∀{ds:N (K×TF)},du ds=qR->∀(j t:K) (f:TF),ds[j]? =Z (t,f)->(∃s E,f=.own s E)\/(∃s E,f=.var s E)\/(∃s E F,f=.mat s E F)\/(∃s E F,f=.bo s E F)
 |[],_,j,t,f,h=>by simp at h
 |(b,f')::ds,a,0,t,f,h=>by
  simp only[xbE,xav,xcR]at h;obtain⟨rfl,rfl⟩:=h;cases f'<;>simp only[du,xam]at a
  simp_all;simp_all;simp_all;simp_all
 |(b,f')::ds,a,j+1,t,f,h=>by
  refine LP (ds:=ds) ?_ j t f (by simpa using h);cases f'<;>simp only[du,xam]at a<;>exact a
def OX{ds:N (K×TF)}(b:du ds=qR):∀a∈ds,∀j,FA a.2=Z j->j<X ds:=λa c j e=>by
 have⟨i,hi⟩:=xfC.1 c;rcases LP b i a.1 a.2 hi with⟨_,_,h⟩|⟨_,_,h⟩|⟨_,_,_,h⟩|⟨_,_,_,h⟩<;>rw[h]at e<;>cases e
def zcJ{U:K->jp}{S:K->Prop}:∀{ds:N (K×TF)}{x:JQ ds}{i:K},(∀(j t:K) (f:TF),ds[j]? =Z (t,f)->Ay f (H t) (U<|i+j))->zD S (dsF U H ds x i) w
 |[],_,_,_=>trivial
 |[(t,f)],x,i,h=>by
  have h0:=h 0 t f O;refine⟨?_,ul⟩;cases f<;>first|exact h0|exact h0.elim
 |(t,f)::b::l,x,i,h=>by
  have h0:=h 0 t f O;refine⟨?_,zcJ λj t f a=>by
   have:=h (j+1) t f (by simpa using a);rw[(W:i+1+j=i+(j+1))];exact this⟩
  cases f<;>first|exact h0|exact h0.elim
def ziX{n0:K}:∀{ds:N (K×TF)}{x:JQ ds}{o j t:K}{f:TF},ds[j]? =Z (t,f)->∃y:f.D,(t,0,(Hi n0 (o+j) f y).1)∈(mC n0 ds x o).1
 |[],_,_,_,_,_,h=>by simp at h
 |[(a,f')],x,o,0,t,f,h=>by
  obtain⟨rfl,rfl⟩:=h;exact⟨x,IR⟩
 |[(a,f')],x,o,j+1,t,f,h=>by simp at h
 |(a,f')::b::l,x,o,0,t,f,h=>by
  obtain⟨rfl,rfl⟩:=h;exact⟨x.1,IR⟩
 |(a,f')::b::l,x,o,j+1,t,f,h=>by
  obtain⟨y,c⟩:=ziX (by simpa using h);rw[(W:o+1+j=o+(j+1))]at c;exact⟨y,FS _ c⟩
def zfP{ds:N (K×TF)}{x:JQ ds}{n:K}{S:K->Prop}(c:du ds=qR)(h:zD S (RS P vs H (mC n ds x n).1) w):Ur ds H λj=>vs (n+j):=by
 intro j t f a;obtain⟨y,d⟩:=ziX a;have:=J8 h d;rcases LP c j t f a with⟨_,_,rfl⟩|⟨_,_,rfl⟩|⟨_,_,_,rfl⟩|⟨_,_,_,rfl⟩
 ·exact this
 ·obtain⟨h1,b,e⟩:=this;exact⟨h1,b,h1.trans e⟩
 ·exact this
 ·exact this
def zl6{ds:N (K×TF)}{x:JQ ds}(b:du ds=qR)(o1:∀e∈kp.ob,e.1<kp.nx+X ds)(o2:∀e∈cx.ob,e.1<kp.nx+X ds)(r1:∀e∈kp.rg,∀o,vC e.2.2=Z o->o<kp.nx+X ds)(r2:∀e∈cx.rg,∀o,vC e.2.2=Z o->o<kp.nx+X ds):Bd cx (JU ⟨ds,[]⟩ x kp):=by
 refine⟨λe he=> ?_,o2,λe he p hp=> ?_,r2⟩;obtain he|he:=xab.1 he
 exact(TC e he).2;exact o1 e he
 have a:∀e∈(mC kp.nx ds x kp.nx).1,∀p,vC e.2.2=Z p->p<kp.nx+X ds:=λe he p hp=>by
  rcases NR (OX b) e he p hp with h|h<;>exact h
 obtain he|he:=xab.1 he
 obtain he|he:=xab.1 he
 exact a e he p hp;exact a e he p hp;exact r1 e he p hp
def zhf{ds:N (K×TF)}{x:JQ ds}(d:du ds=qR)(hc:Ur ds H λj=>vs<|kp.nx+j)(e:Bd cx (JU ⟨ds,[]⟩ x kp))
 (hd:St fr.we fr.Se (QQ (λj=>vs<|kp.nx+j) ds x 0++(MS vs kp.ob++(MS vs cx.ob++fr.F))) (RS P vs H kp.rg++(RS P vs H cx.rg++fr.G)) w):u7 P fr cx (JU ⟨ds,[]⟩ x kp) H w:=by
 refine⟨e,vs,?_⟩;have b:∀j,j<X ds->vs (kp.nx+j)=(λj=>vs<|kp.nx+j) (0+j):=λj _=>by simp only[xaM]
 have e1:OS vs fr cx (JU ⟨ds,[]⟩ x kp).ob=QQ (λj=>vs<|kp.nx+j) ds x 0++(MS vs kp.ob++(MS vs cx.ob++fr.F)):=by show MS vs ((mC kp.nx ds x kp.nx).2++kp.ob)++(MS vs cx.ob++fr.F)=_;rw[show MS vs ((mC kp.nx ds x kp.nx).2++kp.ob)=MS vs (mC kp.nx ds x kp.nx).2++MS vs kp.ob from xaU,Oc (U:=λj=>vs<|kp.nx+j) b,xas]
 show St _ _ (OS vs fr cx (JU ⟨ds,[]⟩ x kp).ob) _ _;rw[e1];refine hd.weak λS w a=> ?_;have c:zD S (RS P vs H (mC kp.nx ds x kp.nx).1) w:=TM (λj _=>O) (OX d) b (zcJ λj t f g=>by rw[xaM];exact hc j t f g);show zD S (RS P vs H (((mC kp.nx ds x kp.nx).1++(mC kp.nx ds x kp.nx).1)++kp.rg)++(RS P vs H cx.rg++fr.G)) w;rw[fK,fK];exact zD.append (zD.append (zD.append c c)<|zD.left a)<|zD.right a
def zcb{ds:N (K×TF)}{x:JQ ds}{n:K}(d:du ds=qR)(e:u7 P fr cx (JU ⟨ds,[]⟩ x ⟨n,[],[]⟩) H w):∃vs,Ur ds H (λj=>vs<|n+j)/\Bd cx (JU ⟨ds,[]⟩ x ⟨n,[],[]⟩)/\St fr.we fr.Se (QQ (λj=>vs<|n+j) ds x 0++(MS vs cx.ob++fr.F)) (RS P vs H cx.rg++fr.G) w:=by
 have⟨f,vs,b⟩:=e;have⟨S,_,a⟩:=b.ex;have h1:zD S (RS P vs H<|((mC n ds x n).1++(mC n ds x n).1)++[]) w:=zD.left a;rw[fK,fK]at h1;refine⟨vs,zfP d<|zD.right<|zD.left h1,f,?_⟩;have e1:OS vs fr cx (JU ⟨ds,[]⟩ x ⟨n,[],[]⟩).ob=QQ (λj=>vs<|n+j) ds x 0++(MS vs cx.ob++fr.F):=by show MS vs ((mC n ds x n).2++[])++(MS vs cx.ob++fr.F)=_;rw[xbo,Oc (U:=λj=>vs<|n+j) (i:=0) λj _=>by simp only[xaM]]
 have c:St fr.we fr.Se (OS vs fr cx (JU ⟨ds,[]⟩ x ⟨n,[],[]⟩).ob) (GS P vs H fr cx<|JU ⟨ds,[]⟩ x ⟨n,[],[]⟩) w:=b;rw[e1]at c;exact c.weak λS w h=>zD.right h
def Pt{U:K->jp}{a:K×TF}:∀{l:N (K×TF)}{y:a.2.D}{x:JQ l}{i:K},QQ U (a::l) (Iz y x) i=tfM a.2 y (U i)++QQ U l x (i+1)
 |[],y,x,i=>by show tfM a.2 y (U i)=_++[];rw[xbo]
 |_::_,y,x,i=>rfl
def iM{U V:K->jp}:∀{l:N (K×TF)}{x:JQ l}{i k:K},(∀j,j<X l->U (i+j)=V (k+j))->QQ U l x i=QQ V l x k
 |[],_,_,_,_=>rfl
 |[a],x,i,k,h=>by
  have h0:U i=V k:=h 0 m7;show tfM a.2 x (U i)=tfM a.2 x (V k);rw[h0]
 |a::b::l,x,i,k,h=>by
  have h0:U i=V k:=h 0 m7;show tfM a.2 x.1 (U i)++QQ U (b::l) x.2 (i+1)=tfM a.2 x.1 (V k)++QQ V (b::l) x.2 (k+1);rw[h0,iM (k:=k+1) λj c=>by
   have:=h (j+1) (by simpa using c);rw[(W:i+1+j=i+(j+1)),(W:k+1+j=k+(j+1))];exact this]
def zij{a:K×TF}:∀{l:N (K×TF)} (z:JQ (a::l)),z=Iz (mV z).1 (mV z).2
 |[],_=>rfl
 |_::_,_=>rfl
def MV{we:jP}{Se:K->Prop}{A B:N MF}{G:N FF}{l:K}{m m':MF}{o:Obj}(h:u7 P ⟨we,Se,A++m::B,G⟩ cx σ H w)(a:∀k,m.blk k↔k=l)(b:∀k,m'.blk k->k=l)(hp:∀S w',w'.heap[l]? =Z o->m'.p S w'):u7 P ⟨we,Se,A++m'::B,G⟩ cx σ H (w.putObj l o):=by
 have⟨c,vs,hc⟩:=h;refine⟨c,vs,?_⟩;have h1:St we Se ((MS vs σ.ob++(MS vs cx.ob++A))++m::B) (GS P vs H ⟨we,Se,A++m::B,G⟩ cx σ) w:=by simp_all
 have d:=St.putObj (St.mid h1) a b hp;have e:=d.perm xce.symm;simp_all
theorem zgh{n:K}{S:K->Prop}:∀{ds:N (K×TF)}{i:K},du ds=qR->(∀(j t:K) (f:TF),ds[j]? =Z (t,f)->Ay f (H t) (vs<|n+(i+j)))->zD S (RS P vs H<|BM ds<|n+i) w
 |[],_,_,_=>trivial
 |(t,f)::r,i,a,h=>by
  have h0:=h 0 t f O;have b:du r=qR->zD S (RS P vs H<|BM r<|n+i+1) w:=λa=>zgh a λj t f c=>by
   have:=h (j+1) t f (by simpa using c);grind
  cases f<;>simp only[du,xam]at a
  exact⟨h0,b a⟩;exact⟨h0.1,b a⟩;exact⟨h0,b a⟩;exact⟨h0,b a⟩
theorem OZ:∀{ds:N (K×TF)}{n:K},∀e∈BM ds n,∀o,vC e.2.2=Z o->o<n+X ds
 |[],_,e,he=>kW he H1
 |(t,f)::r,n,e,he=>by
  intro o a;have b:e∈BM r (n+1)->o<n+X ((t,f)::r):=λhe=>by
   have:=OZ e he o a;grind
  cases f<;>obtain rfl|he:=xal.1 he<;>first|exact b he|(cases a;simp only[xaw];lia)
def EB:∀{ds:N (K×TF)}{n j t:K}{f:TF},ds[j]? =Z (t,f)->∃e∈BM ds n,e.1=t
 |[],_,_,_,_,h=>by simp at h
 |(a,f')::r,n,0,t,f,h=>by
  obtain⟨rfl,rfl⟩:=h;cases f'<;>exact⟨_,IR,O⟩
 |(a,f')::r,n,j+1,t,f,h=>by
  obtain⟨e,b,h1⟩:=EB (by simpa using h);cases f'<;>exact⟨e,FS _ b,h1⟩
def zls{a:K×TF}{ds:N (K×TF)}(h:zeL (a::ds)=qR){j t:K}{f:TF}(b:ds[j]? =Z (t,f)):t≠a.1:=by simp only[zeL,zgc,xae,xaV]at h;have:=h.1 (t,f)<|xbu b;intro e;simp_all
end
end
end Go.Proofs.YtoegnnjcmlghhaaGreat
