/- What a proof needs: rules of walking, mirrors of functions and their plain laws. No condition. -/
import Derived.Test.YtoegnnjcmlghhaaGreatZq2
import Derived.RangeFuncLeaves
set_option linter.all false
namespace Go.Proofs.YtoegnnjcmlghhaaGreat
open Bool renaming false->I,true->wT
open Go renaming Value->wW,World->qR,TypeId->kW,Operand->ul,execOp->uP,Program->uS,undef->Z9,Oper->Xs,FuncId->XS,Tmp->Wf,Code->Wn,resolve->WN,wpListIn->WW,invoke->V1,Act->V6,maxLen->QR,asIntOf->Us,builtin->UT,Addr->U8,Loop->iP,Exit->iT,madeCells->lm,goInt->mS,Deferred->oK
open Go.Proofs.YtoegnnjcmlghhaaGreat renaming bd->G,za->Y,Zr->U,nm->B,Qr->D,ze->F,iq->Q,zf->A,ir->S
open List renaming length->X,length->Ap
open Nat renaming beq->R
open Option renaming some->Z,none->wS
open _root_ renaming rfl->O,List->N,Int->J,Nat->K,Option->V,List->ww,Nat->wL,Option->wN,absurd->jp,trivial->jP,Bool->ut,funext->uT,Array->Z3,True->Wr,reduceCtorEq->WR,reduceIte->Ut,False->UP
open Deferred renaming ofValue->xcX
open Instr renaming slice->xfS,sliceAt->xcW,sliceBound->xeH,sliceBounds->xet
open List renaming drop->xdN,filterMap_cons->xaQ,filterMap_eq_nil_iff->xeq,getD->xeJ,getElem?_append_left->xaZ,length->xaK,map_congr_left->xcc,perm_append_comm->xef,set->xfX,take->xdB,take_of_length_le->xaW
open List.Perm renaming append_right->xeM,cons->xfA,refl->xdw,swap->xdS
open Nat renaming beq->xah,blt->xda,eq_of_beq_eq_true->xdy,lt_of_lt_of_le->xag
open Op renaming operands->xaB
open Oper renaming looksAt->xbm
open Region renaming binds->xcq
open Result renaming andThen_ok->xao
open Sem renaming run_bind->xay,run_pure->xaV
open Sum renaming elim->xfi
open Value renaming bool->xeK,cells->xeB
open _root_.Array renaming getElem?_eq_some_iff->xbi,mem_toList_iff->xdM
def WL:=@of_decide_eq_true
def xaO:=@List.map_append
def xbH:=@Nat.le_add_right
def xbR:=@List.take_length
def xbp:=@List.Perm.append_left
def xca:=@List.perm_middle
def xdL:=@Nat.lt_succ_self
def xdW:=@List.perm_append_comm_assoc
def xdj:=@Nat.zero_lt_one
def xeU:=@List.map_take
def xfD:=@List.getElem?_toArray
def xfI:=@List.filter_cons
section
section
variable{P:uS}{cf:Cf}{fr:Fr}{cx σ:Sg}{vs i9:wL->wW}{H:xj}{w:qR}{R:Type}{r:R}
 {d:wN Wf}{ty t yt:kW}{m7:String}{xS:Z3 Edge}{g:wN (wL×ut)}{x y:ul}
theorem Qn{ob:N (K×Od)}{o:K}{X Y:Od}(h:xB ob o=Z X):∀e∈kj ob o Y,∃a∈ob,a.1=e.1:=by grind [vi]
def Zl:∀{ob:N (K×Od)}{o:K},∀e∈yE ob o,e∈ob
 |(a,X)::r,o,e,he=>by
  unfold yE at he;cases b:xah a o<;>rw[b]at he
  obtain rfl|he:=xai.1 he
  simp_all;exact FS _<|Zl e he;simp_all
def mH{o:K}{X Y:Od}{v:wW}(b:Bd cx σ)(c:xB σ.ob o=Z X)(f:St fr.we fr.Se (OS vs fr cx<|kj σ.ob o Y) (GS P vs H fr cx σ) w):pj P fr cx σ.nx vs ⟨σ.nx,σ.rg,kj σ.ob o Y⟩ (put H wS v) w:=by refine KA (Γl:=[]) b O O (Nm _) (λ_ _=>O) (λ_ a=>jp a H1) (λe a=> ?_) (λS w _ e a=>jp a H1) f;have⟨h,h1,i⟩:=Qn c e a;rw[<-i];exact b.o1 h h1
def set_set{α:Type _}(l:N α)(i:K)(a b:α):(l.set i a).set i b=l.set i b:=rC
theorem vA{α:Type _}{l:N α}{i:K}{a b:α}(h:l[i]? =Z a):(l.set i b)[i]? =Z b:=by grind
def BA{α:Type _}:∀(l:N α) (i:K) (a:α),(l.set i a).eraseIdx i=l.eraseIdx i
 |[],_,_=>by simp
 |_::_,0,_=>rfl
 |b::l,i+1,a=>by simp[BA l i a]
def sI{α:Type}{e:zT α}{E:kW}{xs:N α}{v:wW}{S:K->Prop}{b n cap:K}(h:(mO e E v xs).p S w)(hv:v=.slice (Z ⟨b,0,wS⟩) n cap):n=X xs:=by
 have⟨cs,c,i⟩:=h;rcases c.2 with⟨h,j⟩|⟨k,a,f,h,_⟩
 simp_all;simp_all
def zlz(hT:yT P cf.tt){k:Sg->V R}{s:TI}(hC:Yo cf t=Z s)(h:zci σ s.ty (xA cx σ x) (xA cx σ y) k=Z r):nQ P cx ⟨wS,.store t x y,ty,m7,xS,g⟩ σ k r:=by
 have⟨Y,u,_⟩:=YX hT hC;unfold zci at h;split at h;rename_i o _ A;split at h;rename_i M E z l;have⟨hD,h1⟩:=yq h;subst hD;have⟨q,h,B⟩:=QM h1;refine⟨_,h,Nm _,λfr vs H w C=> ?_⟩;have⟨D,hd⟩:=C;have⟨S0,_,e⟩:=hd.ex;have⟨i,hi,F,ht⟩:=vi l;have a:(OS vs fr cx σ.ob)[i]? =Z (mP s.ty.rep.c E (vs o) z):=Km hi;have⟨b,hv,G⟩:=hd.openP i a;have⟨J,_⟩:=zj A<|zO e x;refine(uz (f:=s.ty.rep) (z':=z) (y':=q) (up:=id) i (vA a) (J.trans hv) O (Sub.self s.ty.rep z) u (λS w K=>B P vs H S w<|zO K y) w G).mono ?_;rintro v w' ⟨_,rfl,_,hl⟩;refine mH (vs:=vs) D l ?_;have m:=hl.toP i<|vA<|vA a;rw[set_set,set_set,<-hv]at m;rw[F];show St _ _ (MS vs (σ.ob.set i (o,.var s.ty E q))++_) _ _;rw[<-FH hi];exact m;cases h
 rename_i o p f A;split at h;rename_i M E z hc l _;have⟨N,h1⟩:=yq h;subst N;have⟨q,Q,B⟩:=QM h1;have⟨z2,T,h⟩:=wK Q;have⟨hc⟩:=hc;refine⟨_,h,Nm _,λfr vs H w C=> ?_⟩;have⟨D,hd⟩:=C;have⟨S0,_,e⟩:=hd.ex;have⟨i,hi,F,ht⟩:=vi l;have a:(OS vs fr cx σ.ob)[i]? =Z (mP M.rep.c E (vs o) z):=Km hi;have⟨b,hv,G⟩:=hd.openP i a;have⟨U,b',L,J⟩:=zj A<|zO e x;rw[hv]at L;cases L;rw[<-hc]at u;refine(uz (f:=f.f.rep) (z':=f.get z) (y':=q) (up:=λy=>f.set y z) i (vA a) J O (by rw[xaD];exact U z) u (λS w K=>B P vs H S w<|zO K y) w G).mono ?_;rintro v w' ⟨_,rfl,_,hl⟩;refine mH (vs:=vs) D l ?_;have m:=hl.toP i<|vA<|vA a;rw[set_set,set_set,<-hv,<-T]at m;rw[F];show St _ _ (MS vs (σ.ob.set i (o,.var M E z2))++_) _ _;rw[<-FH hi];exact m
 cases h
 rename_i o p j f A;split at h;rename_i M E xs hc l _;have⟨N,h1⟩:=yq h;cases N;have⟨q,Q,B⟩:=QM h1;have⟨z2,T,h⟩:=wK Q;have⟨hc⟩:=hc;refine⟨_,h,Nm _,λfr vs H w C=> ?_⟩;have⟨D,hd⟩:=C;have⟨S0,_,e⟩:=hd.ex;have⟨i,hi,F,ht⟩:=vi l;have a:(OS vs fr cx σ.ob)[i]? =Z (mO p.rep E (vs o) xs):=Km hi;have⟨U,b,n,cap,hv,hj,J⟩:=zj A<|zO e x;have hn:n=xaK xs:=wE hd a λS hp=>sI hp hv;subst hn;have⟨b',a0,L,hE,hF,G⟩:=hd.openO i a<|xaI (xaf _) hj;rw[hv]at L;cases L;rw[<-hc]at u;have hA:=(Sub.rowT0 p.rep cap xs j (xeJ xs j p.z)<|getD_some p.z hj).comp<|U<|xeJ xs j p.z;refine(uz (f:=f.f.rep) (y':=q) i (vA a) J O hA u (λS w K=>B P vs H S w<|zO K y) w G).mono ?_;rintro v w' ⟨_,rfl,_,hl⟩;refine mH (vs:=vs) D l ?_;have hu:X (xfX xs j<|f.set q<|xeJ xs j p.z)=xaK xs:=xbe ..;have m:=hl.closeF i (vA<|vA a) (by rw[hu];exact hE) hF;rw[set_set,set_set,hu,<-hv,<-T]at m;rw[F];show St _ _ (MS vs (σ.ob.set i (o,.own p E z2))++_) _ _;rw[<-FH hi];exact m
 cases h
 cases h
def zjj{b:kW}{ag:ut}{e bytes:K}{a:wW}{hi:ul}(f:ev H x=.slice wS 0 0)(ht:P.underlying t=Z (.slice b))(hc:J9 P b ag e bytes a)
 (h:ev H hi=.int .i64 ((0:K):J)) (w:qR):(uP (ev H) ⟨d,.slice t x wS (Z hi) wS,ty,m7,xS,g⟩).run P w=.ok (.value (.slice wS 0 0)) w:=by
 have c:(xcW t (.slice wS 0 0) wS (Z (.int .i64 0)) wS).run P w=.ok (.slice wS 0 0) w:=by unfold xcW;unfold xfS;simp only[xay,Z0 ht,xao];unfold xet;simp[xeH,Us,wv hc]
 simp[uP,f,h]at c⊢;simp[c]
def zoL{i o:K}{X:Od}{Y:MF}(hi:σ.ob[i]? =Z (o,X))(a:yE σ.ob o=σ.ob.eraseIdx i){Γ:N FF}(h:St fr.we fr.Se ((OS vs fr cx σ.ob).set i Y) Γ w):St fr.we fr.Se (Y::OS vs fr cx (yE σ.ob o)) Γ w:=by have:=St.front i h<|vA<|Km hi;rw[BA,gn hi,<-a]at this;lia
def zmV(l:yT P cf.tt)(Q:uf P cf.tt){o:K}{hi:ul}{k:Sg->V R}(hd:wM cx d=wT)(T:xA cx σ x=Z (.ow o))(h:zbk cf cx σ d t o hi k=Z r):
 nQ P cx ⟨d,.slice t x wS (Z hi) wS,ty,m7,xS,g⟩ σ k r:=by
 unfold zbk at h;split at h;rename_i n E1 B s E xs ht U;have⟨Y,h1⟩:=yq h;cases Y;rcases cJ h1 with⟨e,_⟩|⟨z,m,e,h2,hz⟩
 cases e
 cases e;have⟨p,h3⟩:=ZW h2;have⟨ys,D,h4⟩:=wK h3;have⟨bytes,F,q⟩:=UI l Q ht;refine⟨_,h4,xbB _,λfr vs H w hR=> ?_⟩;have⟨G,c⟩:=hR;have⟨S0,_,f⟩:=c.ex;have u:ev H x=vs o:=zj T<|zO f x;have A:=hz P vs H S0 w<|zO f hi;have⟨i,hl,hF,hn⟩:=vi U;have hc:(OS vs fr cx σ.ob)[i]? =Z (mO n.rep E (vs o) xs):=Km hl
 have a:∀v,(uP (ev H) ⟨d,.slice t x wS (Z hi) wS,ty,m7,xS,g⟩).run P w=.ok (.value v) w->St fr.we fr.Se ((OS vs fr cx σ.ob).set i<|mO n.rep E v ys) (GS P vs H fr cx σ) w->
  ux P ⟨d,.slice t x wS (Z hi) wS,ty,m7,xS,g⟩ H w (λv w'=>pj P fr cx σ.nx vs ⟨σ.nx+1,qI σ.rg d [(0,.ow σ.nx)],(σ.nx,.own n E ys)::yE σ.ob o⟩ (put H d v) w'):=by
  intro v hp C;refine ux.of_value hp<|UU (vs:=vs) (mk:=.ow) G hd (λe he=>G.o1 e<|Zl e he) (λ_=>O) (λS w=>Uk S w) ?_;rw[bh];exact zoL hl hn C
 rcases xct (xaK xs)with h0|h0
 have hy:m=0:=by have:m<=xaK xs:=p;lia
 subst hy;have hA:ys=xs:=by rw[D];exact(xbt.1 h0).symm▸O
 subst hA;have J:(OS vs fr cx σ.ob).set i (mO n.rep E (vs o) ys)=OS vs fr cx σ.ob:=by
  apply xcv;intro j;rw[List.getElem?_set];split;rename_i hC;subst hC;split;exact hc.symm
  next hD=>exact jp (xaz.1 hc).1 hD
  rfl
 have hv:vs o=.slice wS 0 0\/∃b cap,vs o=.slice (Z ⟨b,0,wS⟩) 0 cap:=wE c hc λS ⟨cs,h5,_⟩=>by
  rcases h5.2 with⟨h,_⟩|⟨b,cap,a0,h,_⟩
  exact .inl h;rw[h0]at h;exact .inr ⟨b,cap,h⟩
 obtain hv|⟨b,cap,hv⟩:=hv
 exact a _ (zjj (u.trans hv) (qB l ht) q A w)<|by rw[<-hv,J];exact c
 exact a _ (Tj (u.trans hv) (qB l ht) q A (xaf _) w)<|by rw[<-hv,J];exact c
 have⟨b,cap,hv,L,hE,C⟩:=c.openO i hc h0;have M:=C.closeO i m (vA hc) p (xal p L) hE;rw[set_set]at M;exact a _ (Tj (u.trans hv) (qB l ht) q A (xal p L) w)<|by rw[D];exact M
 cases h
def zg4(J:yT P cf.tt){L:kW}{f:ut}{a:TI}{E:kW}{ob:N (K×Od)}{xs:N a.ty.D}{k:Sg->V R}(ht:P.underlying t=Z (.slice E))(M:Yo cf E=Z a)(hd:wM cx d=wT)
 (he:f=wT->t=L) (h:zc9 cf cx σ d L f a.ty E a.B a.ty.z y ob xs k=Z r):
 ∃m6,k m6=Z r/\σ.nx<=m6.nx/\∀(fr:Fr) (vs:K->wW) (H:xj) (w:qR) (u:wW),Bd cx σ->(∀e∈ob,e.1<σ.nx)->ev H x=u->St fr.we fr.Se (mO a.ty.rep E u xs::OS vs fr cx ob) (GS P vs H fr cx σ) w->
  ux P ⟨d,.call ⟨.builtin .append,#[x,y],#[t,L]⟩,ty,m7,xS,g⟩ H w (λv w'=>pj P fr cx σ.nx vs m6 (put H d v) w'):=by
 have⟨a0,hl,Q,hu⟩:=YX J M;have hr:=(J _ _ M).2.1;have hn:=(J _ _ M).2.2.1;have Tq:∀m,m*a.B<=140737488355328->m<=9223372036854775807:=λm hm=>by
  have:=xcj m hr;lia
 unfold zc9 at h;split at h;rename_i n hw;split at h;rename_i q ik B' hz;have⟨j,hj,h⟩:=zcX h;have⟨i,h⟩:=ZW h;have⟨zs,o,h⟩:=wK h;refine⟨_,h,xbB _,λfr vs H w u s A C hc=> ?_⟩;have⟨S0,_,l⟩:=hc.ex;refine(zbb (e:=a.ty.rep) (z:=a.ty.z) (n:=j) 0 ht (KY J hz) hl Q hn O C (by rw[(va hw<|zO l y).1,hj]) hu (Tq _ i) i w hc).mono ?_;rintro v w' ⟨v',rfl,_,G⟩;refine UU (vs:=vs) (mk:=.ow) s hd A (λ_=>O) (λS w=>Uk S w) ?_;rw[bh,o];exact G;cases h
 split at h;rename_i o2 t2 lo n hy;split at h;rename_i s2 E2 T hA;have⟨hp,h⟩:=yf h;obtain rfl:=he hp;have⟨U,h⟩:=yq h;cases U;have⟨U,h⟩:=yq h;cases U;have⟨ys,hi,h⟩:=wK h;have⟨i,h⟩:=ZW h;have⟨zs,o,h⟩:=wK h;refine⟨_,h,xbB _,λfr vs H w u s A C hc=> ?_⟩;have⟨S0,_,l⟩:=hc.ex;have hv:=zj hy<|zO l y;refine(eC (e:=a.ty.rep) (ys:=ys) 0 ht hl Q hn O C O (λS w hM ha=> ?_) (Tq _ i) i w hc).mono ?_
 have hm:(mO a.ty.rep E2 (vs o2) T).p S w:=Yb (σ:=⟨σ.nx,σ.rg,ob⟩) (F:=fr.F) hM.2 hA;rcases hv with⟨b,m,cap,c,q1,q2,Y,q4,q5⟩|⟨q1,ao,c,q2,Y⟩
 rw[q5,hi];exact NQ hm q1 q2 Y q4;subst q1;rw[Y,hi];exact⟨ao,c,rC,rC,by unfold QR;lia,.inl rC⟩
 rintro v w' ⟨v',rfl,_,G⟩;refine UU (vs:=vs) (mk:=.ow) s hd A (λ_=>O) (λS w=>Uk S w) ?_;rw[bh,o];exact G;cases h
 have⟨hp,h⟩:=yf h;obtain rfl:=he hp;have⟨ys,h,hi⟩:=QM h;have⟨i,h⟩:=ZW h;have⟨zs,o,h⟩:=wK h;refine⟨_,h,xbB _,λfr vs H w u s A C hc=> ?_⟩;refine(zeJ (e:=a.ty.rep) (ys:=ys) 0 ht hl Q hn O C O (λS w ha=>hi P vs H S w<|zO ha y) (Tq _ i) i w hc).mono ?_;rintro v w' ⟨v',rfl,_,G⟩;refine UU (vs:=vs) (mk:=.ow) s hd A (λ_=>O) (λS w=>Uk S w) ?_;rw[bh,o];exact G
def zsh(j:yT P cf.tt){a:Z3 ul}{ts:Z3 kW}{k:Sg->V R}(hd:wM cx d=wT)(h:zpR cf cx σ d a.toList ts.toList k=Z r):
 nQ P cx ⟨d,.call ⟨.builtin .append,a,ts⟩,ty,m7,xS,g⟩ σ k r:=by
 unfold zpR at h;split at h;rename_i _ _ x y t A N hp;obtain rfl:a= #[x,y]:=by cases a;simp_all
 obtain rfl:ts= #[t,A]:=by cases ts;simp_all
 split at h;rename_i s E B ht;split at h;rename_i C v;have⟨D,h1⟩:=yq h;subst D;split at h1;rename_i l;have⟨m6,m,n,p⟩:=zg4 (ty:=ty) (m7:=m7) (xS:=xS) (g:=g) (x:=x) j (qB j ht) v hd (λh=>yb h) h1;refine⟨m6,m,n,λfr vs H w q=> ?_⟩;have⟨c,f⟩:=q;have⟨S0,_,b⟩:=f.ex;exact p fr vs H w _ c c.o1 (zj l<|zO b x) f.nilO;rename_i o l;split at h1;rename_i Q F xs G;have⟨u,J⟩:=yf h1;have u:=yb u;subst u;have⟨K,L⟩:=yq J;cases K;have⟨m6,m,n,p⟩:=zg4 (ty:=ty) (m7:=m7) (xS:=xS) (g:=g) (x:=x) j (qB j ht) v hd (λh=>yb h) L;refine⟨m6,m,n,λfr vs H w q=> ?_⟩;have⟨c,f⟩:=q;have⟨S0,_,b⟩:=f.ex;have⟨i,z,hn,hi⟩:=vi G;have hl:(OS vs fr cx σ.ob)[i]? =Z (mO C.ty.rep F (vs o) xs):=Km z;have hc:=f.front i hl;rw[gn z,<-hi]at hc;exact p fr vs H w _ c (λe M=>c.o1 e<|Zl e M) (zj l<|zO b x) hc
 cases h1
 cases h1
 cases h
 cases h
 cases h
theorem zmP{α:Type}(xs ys:N α):X (LH xs ys)=X xs:=by grind [LH]
theorem zmk{α:Type}{xs:N α}(ys:N α)(h:X xs=0):LH xs ys=xs:=by grind [LH]
def zp1{α:Type}(xs ys:N α):xdB 0 xs++xdB (min (X ys) (X xs)) ys++xdN (0+min (X ys) (X xs)) xs=LH xs ys:=by simp[LH]
def zbU{α:Type}(lo:K)(xs ys:N α):ou lo 0 xs ys=xs:=by simp[ou]
theorem ze6{α:Type}{lo n:K}{xs:N α}(ys:N α)(h:lo+n<=X xs):X (ou lo n xs ys)=X xs:=by grind [ou]
def zoz(L:yT P cf.tt)(hL:uf P cf.tt){z:Z3 ul}{ts:Z3 kW}{k:Sg->V R}(hd:wM cx d=wT)(h:zgY cf cx σ d z.toList ts.toList k=Z r):
 nQ P cx ⟨d,.call ⟨.builtin .copy,z,ts⟩,ty,m7,xS,g⟩ σ k r:=by
 unfold zgY at h;split at h;rename_i x y t t' hK hM;obtain rfl:z= #[x,y]:=by cases z;simp_all
 obtain rfl:ts= #[t,t']:=by cases ts;simp_all
 split at h;rename_i s E B o ht hx;split at h;rename_i s' a xs N
 have⟨hA,h⟩:=yq h;cases hA;have⟨ys,h,Q⟩:=QM h;have⟨zs,hc,h⟩:=wK h;have hc:zs=LH (α:=s.D) xs ys:=hc;have⟨bytes,T,hl⟩:=UI L hL ht;refine⟨_,h,Nm _,λfr vs H w hR=> ?_⟩;have⟨U,A⟩:=hR;have⟨S0,_,f⟩:=A.ex;have hn:ev H x=vs o:=zj hx<|zO f x;have⟨i,hi,hq,hH⟩:=vi N;have j:(OS vs fr cx σ.ob)[i]? =Z (mO s.rep a (vs o) xs):=Km hi;have p:∀v w',St fr.we fr.Se ((OS vs fr cx σ.ob).set i<|mO s.rep a (vs o) zs) (GS P vs H fr cx σ) w'->pj P fr cx σ.nx vs ⟨σ.nx,qI σ.rg d [],kj σ.ob o (.own s a zs)⟩ (put H d v) w':=λv w' F=>by
  refine KA (m6:=⟨σ.nx,qI σ.rg d [],kj σ.ob o (.own s a zs)⟩) (d:=d) (l:=[]) (vs:=vs) (i9:=vs) (Γl:=[]) U hd O (Nm _) (λ_ _=>O) (λ_ q=>jp q H1) (λe q=> ?_) (λS w _ e q=>jp q H1) ?_;have⟨e',h1,h2⟩:=Qn N e q;rw[<-h2];exact U.o1 e' h1;rw[hq];show St _ _ (MS vs (σ.ob.set i (o,.own s a zs))++_) _ _;rw[<-FH hi];exact F
 rcases xct (xaK xs)with h0|h0
 have hv:vs o=.slice wS 0 0\/∃b cap,vs o=.slice (Z ⟨b,0,wS⟩) 0 cap:=wE A j λS ⟨cs,h5,_⟩=>by
  rcases h5.2 with⟨h,_⟩|⟨b,cap,a0,h,_⟩
  exact .inl h;rw[h0]at h;exact .inr ⟨b,cap,h⟩
 have⟨G,cap,hv⟩:∃G cap,vs o=.slice G 0 cap:=by
  obtain hv|⟨b,cap,hv⟩:=hv
  exact⟨_,_,hv⟩;exact⟨_,_,hv⟩
 have⟨M,u,hu,_⟩:=wg.1<|Q P vs H S0 w<|zO f y;have⟨ti,hC,i1,i2,i3⟩:=hl.info;have hD:(P.info? E).map (·.size)=Z s.rep.n:=by rw[hC];simp[i1]
 have Y:=KK (P:=P) w t t' ty E G M 0 cap (xaK ys) u (qB L ht) hD<|Nat.min_zero _;rw[<-hu,<-hv,<-hn]at Y;have hz:zs=xs:=hc.trans<|zmk (α:=s.D) ys h0;refine ux.of_value (v:=mS 0) (w':=w) ?_<|p _ w ?_;simp only[uP,WN,V1,UT,xdZ,xbP,xdR,xay,Y,xaV,xao];have:(OS vs fr cx σ.ob).set i (mO s.rep a (vs o) xs)=OS vs fr cx σ.ob:=by have⟨hI,hE⟩:=xaz.1 j;rw[<-hE,xde]
 rw[hz,this];exact A;have⟨b,cap,hv,hF,hG,F⟩:=A.openO i j h0;refine(TS (e:=s.rep) (l:=0) (dLen:=xaK xs) (dCap:=cap) i (qB L ht) hl (vA j) (by rw[hn,hv];simp) O W (λS w ha=>Q P vs H S w<|zO ha y) w F).mono ?_;rintro v w' ⟨n,rfl,_,J⟩;refine p _ w' ?_;have hz:=(zp1 (α:=s.D) xs ys).trans hc.symm;rw[hz]at J;have hg:xaK zs=xaK xs:=by rw[hc];exact zmP (α:=s.D) xs ys
 have hw:=J.closeF i (vA<|vA j) (by rw[hg];exact hF) hG;rw[set_set,set_set,hg,<-hv]at hw;exact hw;cases h
 rename_i s E B o t2 lo n ht hx;split at h;rename_i s' a xs hk N _
 have⟨hA,h⟩:=yq h;cases hA;have⟨ys,h,Q⟩:=QM h;have⟨zs,hc,h⟩:=wK h;have hc:zs=ou (α:=s.D) lo n xs ys:=hc;have⟨hk⟩:=hk;subst hk;have⟨bytes,T,hl⟩:=UI L hL ht;refine⟨_,h,Nm _,λfr vs H w hR=> ?_⟩;have⟨U,A⟩:=hR;have⟨S0,_,f⟩:=A.ex;have hn:=zj hx<|zO f x;have⟨i,hi,hq,hH⟩:=vi N;have j:(OS vs fr cx σ.ob)[i]? =Z (mO t2.rep a (vs o) xs):=Km hi;have p:∀v w',St fr.we fr.Se ((OS vs fr cx σ.ob).set i<|mO t2.rep a (vs o) zs) (GS P vs H fr cx σ) w'->pj P fr cx σ.nx vs ⟨σ.nx,qI σ.rg d [],kj σ.ob o (.own t2 a zs)⟩ (put H d v) w':=λv w' F=>by
  refine KA (m6:=⟨σ.nx,qI σ.rg d [],kj σ.ob o (.own t2 a zs)⟩) (d:=d) (l:=[]) (vs:=vs) (i9:=vs) (Γl:=[]) U hd O (Nm _) (λ_ _=>O) (λ_ q=>jp q H1) (λe q=> ?_) (λS w _ e q=>jp q H1) ?_;have⟨e',h1,h2⟩:=Qn N e q;rw[<-h2];exact U.o1 e' h1;rw[hq];show St _ _ (MS vs (σ.ob.set i (o,.own t2 a zs))++_) _ _;rw[<-FH hi];exact F
 obtain h0|h0:=xct n
 have⟨G,c,hv⟩:∃G c,ev H x=.slice G 0 c:=by
  rcases hn with⟨b,m,cap,c,q1,q2,q3,q4,q5⟩|⟨q1,M,c,q2,q3⟩
  exact⟨_,c,by rw[q5,h0]⟩;exact⟨M,c,q3⟩
 have⟨M,u,hu,_⟩:=wg.1<|Q P vs H S0 w<|zO f y;have⟨ti,hC,i1,i2,i3⟩:=hl.info;have hD:(P.info? E).map (·.size)=Z t2.rep.n:=by rw[hC];simp[i1]
 have Y:=KK (P:=P) w t t' ty E G M 0 c (xaK ys) u (qB L ht) hD<|Nat.min_zero _;rw[<-hu,<-hv]at Y;have hz:zs=xs:=by rw[hc,h0];exact zbU (α:=t2.D) lo xs ys
 refine ux.of_value (v:=mS 0) (w':=w) ?_<|p _ w ?_;simp only[uP,WN,V1,UT,xdZ,xbP,xdR,xay,Y,xaV,xao];have:(OS vs fr cx σ.ob).set i (mO t2.rep a (vs o) xs)=OS vs fr cx σ.ob:=by have⟨hI,hE⟩:=xaz.1 j;rw[<-hE,xde]
 rw[hz,this];exact A;rcases hn with⟨b0,m,C,c,q1,q2,q3,q4,q5⟩|⟨q1,M,c,q2,q3⟩
 have hJ:m=xaK xs:=wE A j λS hp=>sI hp q1;subst hJ;have⟨b,cap,hv,hF,hG,F⟩:=A.openO i j W;rw[q1]at hv;cases hv;refine(TS (e:=t2.rep) (l:=lo) (dLen:=n) (dCap:=c) i (qB L ht) hl (vA j) q5 O q2 (λS w ha=>Q P vs H S w<|zO ha y) w F).mono ?_;rintro v w' ⟨nn,rfl,_,J⟩;refine p _ w' ?_;have J:St fr.we fr.Se (((OS vs fr cx σ.ob).set i<|mB (rowT t2.rep C) a b0 xs).set i<|mB (rowT t2.rep C) a b0<|ou (α:=t2.D) lo n xs ys) (GS P vs H fr cx σ) w':=J;rw[<-hc]at J;have hg:xaK zs=xaK xs:=by rw[hc];exact ze6 (α:=t2.D) ys q2
 have hw:=J.closeF i (vA<|vA j) (by rw[hg];exact hF) hG;rw[set_set,set_set,hg,<-q1]at hw;exact hw;lia;cases h
 cases h
 cases h
def zhj{a b:K}(h:a≠b):xah a b=I:=YM h
def cG:∀{ob:N (K×Od)}{o p:K},p≠o->xB (yE ob o) p=xB ob p
 |[],_,_,_=>rfl
 |(q,X)::r,o,p,h=>by
  unfold yE;cases a:xah q o
  simp only[Wt];unfold xB;rw[cG h];simp only[WF];have:=yb a;subst this;conv=>rhs;unfold xB
  rw[zhj<|λe=>h e.symm];rfl
def jx{ob:N (K×Od)}{p:K}:∀{os:N K},fc os p=I->xB (vb ob os) p=xB ob p
 |[],_=>rfl
 |o::r,h=>by
  simp only[fc,List.any_cons,Bool.or_eq_false_iff]at h;unfold vb;rw[cG (λe=>by subst e;simp at h),jx h.2]
def Kf{ob:N (K×Od)}:∀{os:N K},∀e∈vb ob os,e∈ob
 |[],_,h=>h
 |o::r,e,h=>Kf e<|Zl e h
def zcW{α:Type _}:∀{l:N α}{i:K}{a:α},l[i]? =Z a->l.Perm (a::l.eraseIdx i)
 |[],_,_,h=>by simp at h
 |b::l,0,a,h=>by simp at h;subst h;exact xdw _
 |b::l,i+1,a,h=>((zcW<|by simpa using h).cons b).trans<|xdS _ _ _
def jG{ob:N (K×Od)}{o:K}{X:Od}(h:xB ob o=Z X):(OS vs fr cx ob).Perm (Ug vs (o,X)::OS vs fr cx (yE ob o)):=by have⟨i,h1,_,a⟩:=vi h;show(MS vs ob++(MS vs cx.ob++fr.F)).Perm (Ug vs (o,X)::(MS vs (yE ob o)++(MS vs cx.ob++fr.F)));rw[a,<-gn h1];exact zcW<|Km h1
def UE(C:∀s∈cf.cs,yU P s):∀{dom:N AM}{xs:N ul}{cs:N PD}{k:cj dom->N K->V R},Ya cf cx σ dom xs cs k=Z r->
 ∃z os,k z os=Z r/\Ap xs+Ap cs=Ap dom/\(∀o∈os,∃X,(o,X)∈σ.ob)/\∀vs (fr:Fr) H S w,(∀x,Xj P vs H S w cx σ x)->∀a:N wW,Ap a=Ap cs->zC S (HP cs a) w->
  zC S (jC P dom z<|xs.map (ev H)++a) w/\(OS vs fr cx σ.ob).Perm (jW dom z (xs.map (ev H)++a)++OS vs fr cx (vb σ.ob os))/\KZ dom (xs.map (ev H)++a)=os.map vs
 |[],[],[],k,h=>⟨(),[],h,O,λ_ l=>jp l H1,λ_ _ _ _ _ _ _ _ _=>⟨jP,xdw _,O⟩⟩
 |.q t::dom,[],c::cs,k,h=>by
  simp only[Ya]at h;have⟨e,h⟩:=yq h;subst e;have⟨z,os,h1,n,l,u⟩:=UE C h;refine⟨_,os,h1,by simp at n⊢;lia,l,λvs fr H S w hl a m hc=> ?_⟩
  cases a with
  |nil=>cases m
  |cons v a=>have⟨j,A,B⟩:=u vs fr H S w hl a (by simpa using m) hc.2;exact⟨⟨hc.1,j⟩,A,B⟩
 |.d t::dom,x::xs,cs,k,h=>by
  simp only[Ya]at h;have⟨y,h,Q⟩:=QM h;have⟨z,os,h1,n,l,u⟩:=UE C h;exact⟨_,os,h1,by simp at n⊢;lia,l,λvs fr H S w hl a m hc=>by have⟨j,A,B⟩:=u vs fr H S w hl a m hc;exact⟨⟨Q P vs H S w<|hl x,j⟩,A,B⟩⟩
 |.q t::dom,x::xs,cs,k,h=>by
  simp only[Ya]at h;split at h;rename_i s y F;have⟨e,h⟩:=yq h;subst e;have⟨z,os,h1,n,l,u⟩:=UE C h;exact⟨_,os,h1,by simp at n⊢;lia,l,λvs fr H S w hl a m hc=>by have⟨j,A,B⟩:=u vs fr H S w hl a m hc;exact⟨⟨zj F<|hl x,j⟩,A,B⟩⟩;cases h
 |.own t E::dom,x::xs,cs,k,h=>by
  simp only[Ya]at h;split at h;rename_i o F;split at h;rename_i s T ys hd;have⟨D,G⟩:=yf h;have D:=yb D;subst D;have⟨e,J⟩:=yq G;cases e;have⟨z,os,L,n,l,u⟩:=UE C J;have⟨hn,h1⟩:=yf L;simp only[xcM]at hn;refine⟨_,o::os,h1,by simp at n⊢;lia,λp hp=> ?_,λvs fr H S w hl a m hc=> ?_⟩
  obtain rfl|hp:=xai.1 hp
  have⟨i,j,_⟩:=vi hd;exact⟨_,xbv j⟩;exact l p hp
  have⟨j,A,B⟩:=u vs fr H S w hl a m hc;have hv:ev H x=vs o:=zj F<|hl x;refine⟨⟨jP,j⟩,A.trans ?_,?_⟩;have hp:=jG (vs:=vs) (fr:=fr) (cx:=cx)<|(jx hn).trans hd;refine(xbp _ hp).trans ?_;refine xca.trans ?_;show List.Perm _ (mO t.rep E (ev H x) _::(jW dom z (xs.map (ev H)++a)++_));rw[hv];exact xdw _;show ev H x::KZ dom (xs.map (ev H)++a)=vs o::os.map vs;rw[hv,B];cases h
  cases h
 |.var t E::dom,x::xs,cs,k,h=>by
  simp only[Ya]at h;split at h;rename_i o s0 F;split at h;rename_i s T y hd;have⟨D,G⟩:=yf h;have D:=yb D;subst D;have⟨e,J⟩:=yq G;subst e;have⟨z,os,L,n,l,u⟩:=UE C J;have⟨hn,h1⟩:=yf L;simp only[xcM]at hn;refine⟨_,o::os,h1,by simp at n⊢;lia,λp hp=> ?_,λvs fr H S w hl a m hc=> ?_⟩;obtain rfl|hp:=xai.1 hp
  have⟨i,j,_⟩:=vi hd;exact⟨_,xbv j⟩;exact l p hp
  have⟨j,A,B⟩:=u vs fr H S w hl a m hc;have⟨hv,b,U⟩:=zj F<|hl x;refine⟨⟨⟨b,hv.trans U⟩,j⟩,A.trans ?_,?_⟩;have hp:=jG (vs:=vs) (fr:=fr) (cx:=cx)<|(jx hn).trans hd;refine(xbp _ hp).trans ?_;refine xca.trans ?_;show List.Perm _ (mP s.rep.c E (ev H x) _::(jW dom z (xs.map (ev H)++a)++_));rw[hv];exact xdw _;show ev H x::KZ dom (xs.map (ev H)++a)=vs o::os.map vs;rw[hv,B];cases h
  cases h
 |.fn M cod::dom,x::xs,cs,k,h=>by
  simp only[Ya]at h;have⟨f,h,Y⟩:=zh2 C h;have⟨z,os,h1,n,l,u⟩:=UE C h;refine⟨_,os,h1,by simp at n⊢;lia,l,λvs fr H S w hl a m hc=> ?_⟩;have⟨j,A,B⟩:=u vs fr H S w hl a m hc;refine⟨⟨?_,j⟩,A,B⟩
  cases hv:xA cx σ x with
  |none=>rename_i h0;rw[hv]at h0;simp[asF]at h0
  |some v=>exact Y vs S w v _ hv<|zj hv<|hl x
 |[],_::_,_,_,h=>by simp[Ya]at h
 |[],[],_::_,_,h=>by simp[Ya]at h
 |.d _::_,[],_,_,h=>by simp[Ya]at h
 |.own _ _::_,[],_,_,h=>by simp[Ya]at h
 |.var _ _::_,[],_,_,h=>by simp[Ya]at h
 |.fn _ _::_,[],_,_,h=>by simp[Ya]at h
 |.q _::_,[],[],_,h=>by simp[Ya]at h
def nW:N RM->N wW->K->(K->wW)->K->wW
 |[],_,_,vs=>vs
 |.d _::r,us,o,vs=>nW r us.tail o vs
 |.own _ _::r,us,o,vs=>Wu (nW r us.tail (o+1) vs) o<|us.headD Z9
 |.var _ _::r,us,o,vs=>Wu (nW r us.tail (o+1) vs) o<|us.headD Z9
def J3:∀{rs:N RM}{us:N wW}{o k:K},k<o->nW rs us o vs k=vs k
 |[],_,_,_,_=>rfl
 |.d _::r,us,o,k,h=>J3 (rs:=r) h
 |.own _ _::r,us,o,k,h=>by
  show Wu _ o _ k=_;rw[ua h,J3 W]
 |.var _ _::r,us,o,k,h=>by
  show Wu _ o _ k=_;rw[ua h,J3 W]
def BD{n o:K}{v:wW}(h:o≠n):Wu vs n v o=vs o:=by unfold Wu;rw[YM h];rfl
theorem Uw:∀{rs:N RM}{x:bZ rs}{i o:K},(∀e∈(ZK rs x i o).2,o<=e.1/\e.1<o+(ZK rs x i o).2.length)
 |[],_,_,_,e,he=>jp he H1
 |[.d _],_,_,_,e,he=>jp he H1
 |[.own _ _],_,_,o,e,he=>by
  obtain rfl:=xad.1 he;grind
 |[.var _ _],_,_,o,e,he=>by
  obtain rfl:=xad.1 he;grind
 |.d t::n::r,x,i,o,e,he=>Uw (rs:=n::r) (x:=x.2) (i:=i+1) e he
 |.own t E::n::r,x,i,o,e,he=>by
  have he:e∈(o,Od.own t E x.1)::(ZK (n::r) x.2 (i+1)<|o+1).2:=he;have a:(ZK (.own t E::n::r) x i o).2.length=(ZK (n::r) x.2 (i+1)<|o+1).2.length+1:=O;rw[a];obtain rfl|he:=xai.1 he
  lia;have:=Uw (rs:=n::r) (x:=x.2) (i:=i+1) (o:=o+1) e he;lia
 |.var t E::n::r,x,i,o,e,he=>by
  have he:e∈(o,Od.var t E x.1)::(ZK (n::r) x.2 (i+1)<|o+1).2:=he;have a:(ZK (.var t E::n::r) x i o).2.length=(ZK (n::r) x.2 (i+1)<|o+1).2.length+1:=O;rw[a];obtain rfl|he:=xai.1 he
  exact⟨Nm _,by show o<_;lia⟩;have:=Uw (rs:=n::r) (x:=x.2) (i:=i+1) (o:=o+1) e he;lia
def r7:∀{rs:N RM}{x:bZ rs}{us:N wW}{i o:K},MS (nW rs us o vs) (ZK rs x i o).2=kz rs x us
 |[],_,_,_,_=>rfl
 |[.d _],_,_,_,_=>rfl
 |[.own t E],x,us,i,o=>by exact Z2 (λm=>[m])<|bh
 |[.var t E],x,us,i,o=>by exact Z2 (λm=>[m])<|Ot
 |.var t E::n::r,x,us,i,o=>by
  refine List.cons_eq_cons.2 ⟨Ot,?_⟩;exact(wC λe a=>BD (by have:=Uw e a;lia)).trans r7
 |.d t::n::r,x,us,i,o=>by
  show MS (nW (n::r) us.tail o vs) (ZK (n::r) x.2 (i+1) o).2=kz (n::r) x.2 us.tail;exact r7
 |.own t E::n::r,x,us,i,o=>by
  refine List.cons_eq_cons.2 ⟨bh,?_⟩;exact(wC λe a=>BD (by have:=Uw e a;lia)).trans r7
def ie:∀{rs:N RM}{x:bZ rs}{i o:K},∀e∈(ZK rs x i o).1,∀p,vv e.2=Z p->p<o+(ZK rs x i o).2.length
 |[],_,_,_,e,he=>jp he H1
 |[.d _],_,_,_,e,he=>by
  obtain rfl:=xad.1 he;intro p hp;cases hp
 |[.own _ _],_,_,o,e,he=>by
  obtain rfl:=xad.1 he;intro p hp;cases hp;exact xdL _
 |[.var _ _],_,_,o,e,he=>by
  obtain rfl:=xad.1 he;intro p hp;cases hp;exact xdL _
 |.var t E::n::r,x,i,o,e,he=>by
  have a:(ZK (.var t E::n::r) x i o).2.length=(ZK (n::r) x.2 (i+1)<|o+1).2.length+1:=O;rw[a];obtain rfl|he:=xai.1 he
  intro p hp;cases hp;lia
  intro p hp;have:=ie (rs:=n::r) (x:=x.2) (i:=i+1) (o:=o+1) e he p hp;lia
 |.d t::n::r,x,i,o,e,he=>by
  obtain rfl|he:=xai.1 he
  intro p hp;cases hp
  exact ie (rs:=n::r) (x:=x.2) (i:=i+1) e he
 |.own t E::n::r,x,i,o,e,he=>by
  have a:(ZK (.own t E::n::r) x i o).2.length=(ZK (n::r) x.2 (i+1)<|o+1).2.length+1:=O;rw[a];obtain rfl|he:=xai.1 he
  intro p hp;cases hp;lia
  intro p hp;have:=ie (rs:=n::r) (x:=x.2) (i:=i+1) (o:=o+1) e he p hp;lia
def sn:∀{rs:N RM}{x:bZ rs}{i o:K},∀e∈(ZK rs x i o).1,∀p,vv e.2=Z p->o<=p
 |[],_,_,_,e,he=>jp he H1
 |[.d _],_,_,_,e,he=>by
  obtain rfl:=xad.1 he;intro p hp;cases hp
 |[.own _ _],_,_,o,e,he=>by
  obtain rfl:=xad.1 he;intro p hp;cases hp;exact Nm _
 |[.var _ _],_,_,o,e,he=>by
  obtain rfl:=xad.1 he;intro p hp;cases hp;exact Nm _
 |.var t E::n::r,x,i,o,e,he=>by
  obtain rfl|he:=xai.1 he
  intro p hp;cases hp;exact Nm _
  intro p hp;have:=sn e he p hp;lia
 |.d t::n::r,x,i,o,e,he=>by
  obtain rfl|he:=xai.1 he
  intro p hp;cases hp
  exact sn e he
 |.own t E::n::r,x,i,o,e,he=>by
  obtain rfl|he:=xai.1 he
  intro p hp;cases hp;exact Nm _
  intro p hp;have:=sn e he p hp;lia
def GJ:∀{rs:N RM}{x:bZ rs}{us:N wW}{i o:K}{S:K->Prop},zC S (ks rs x us) w->X us=X rs->∀e∈(ZK rs x i o).1,∃j u,e.1=i+j/\us[j]? =Z u/\(vC P (nW rs us o vs) e.2 u).p S w
 |[],_,_,_,_,_,_,_,e,he=>jp he H1
 |[m],_,[],_,_,_,_,hl,_,_=>by cases hl
 |[.d _],x,u::us,i,o,S,h,hl,e,he=>by
  obtain rfl:=xad.1 he;exact⟨0,u,O,O,h.1⟩
 |[.own _ _],x,u::us,i,o,S,h,hl,e,he=>by
  obtain rfl:=xad.1 he;exact⟨0,u,O,O,(wj (vs:=vs)).symm⟩
 |[.var _ _],x,u::us,i,o,S,h,hl,e,he=>by
  obtain rfl:=xad.1 he;have h1:=wj (vs:=vs) (n:=o) (v:=u);exact⟨0,u,O,O,h1.symm,by have⟨b,f⟩:=h.1;exact⟨b,h1.trans f⟩⟩
 |.var t E::n::r,x,u::us,i,o,S,h,hl,e,he=>by
  obtain rfl|he:=xai.1 he
  have h1:=wj (vs:=nW (n::r) us (o+1) vs) (n:=o) (v:=u);exact⟨0,u,O,O,h1.symm,by have⟨b,f⟩:=h.1;exact⟨b,h1.trans f⟩⟩;have⟨j,v,h1,a,c⟩:=GJ (rs:=n::r) (x:=x.2) (i:=i+1) (o:=o+1) h.2 (by simpa using hl) e he;refine⟨j+1,v,W,by simpa using a,?_⟩;have:vC P (nW (.var t E::n::r) (u::us) o vs) e.2 v=vC P (nW (n::r) us (o+1) vs) e.2 v:=mF (λp hp=>BD (by have:=sn (rs:=n::r) (x:=x.2) (i:=i+1) (o:=o+1) e he p hp;lia)) v;rw[this];exact c
 |_::n::r,x,[],_,_,_,_,hl,_,_=>by cases hl
 |.d t::n::r,x,u::us,i,o,S,h,hl,e,he=>by
  obtain rfl|he:=xai.1 he
  exact⟨0,u,O,O,h.1⟩;have⟨j,v,h1,a,c⟩:=GJ (rs:=n::r) (x:=x.2) (i:=i+1) (o:=o) h.2 (by simpa using hl) e he;exact⟨j+1,v,W,by simpa using a,c⟩
 |.own t E::n::r,x,u::us,i,o,S,h,hl,e,he=>by
  obtain rfl|he:=xai.1 he
  exact⟨0,u,O,O,(wj (vs:=nW (n::r) us (o+1) vs)).symm⟩;have⟨j,v,h1,a,c⟩:=GJ (rs:=n::r) (x:=x.2) (i:=i+1) (o:=o+1) h (by simpa using hl) e he;refine⟨j+1,v,W,by simpa using a,?_⟩;have:vC P (nW (.own t E::n::r) (u::us) o vs) e.2 v=vC P (nW (n::r) us (o+1) vs) e.2 v:=mF (λp hp=>BD (by have:=sn (rs:=n::r) (x:=x.2) (i:=i+1) (o:=o+1) e he p hp;lia)) v;rw[this];exact c
def zi1{f:XS}{a:N ul}:∀{cs:N Wq}{s:Wq},zb6 cx σ f a cs=Z s->s∈cs/\s.f=f
 |c::cs,s,h=>by
  unfold zb6 at h;split at h;simp_all;have⟨h1,b⟩:=zi1 h;exact⟨FS _ h1,b⟩
theorem zes{rs:N RM}{x:bZ rs}{us:N wW}{o:K}{S:K->Prop}(h:zC S (ks rs x us) w)(hl:X us=X rs):∀e∈(ZK rs x (bif du rs then 0 else 1) o).1,(vU P (nW rs us o vs) e.2 (Zg us) e.1).p S w:=by
 intro e c;have⟨j,u,h1,a,b⟩:=GJ (P:=P) (vs:=vs) h hl e c;have⟨i,dv⟩:=e
 match us,hl,a with
 |[],_,a=>simp at a
 |[v],hl,a=>
  obtain rfl:j=0:=by
   obtain _|j:=j
   rfl;grind
  obtain⟨m,rfl⟩:=xcS.1 hl.symm;simp only[du,WF]at h1;simp only[xbD,xav]at a;subst h1;subst a;exact b
 |v::f::us,hl,a=>
  have:du rs=I:=by
   match rs,hl with
   |[],_=>rfl
   |_::_::_,_=>rfl
  rw[this]at h1;simp only[Wt]at h1;obtain rfl:i=j+1:=W
  exact⟨(v::f::us).toArray,u,O,by simpa using a,b⟩
def tH:N RM->N wW->N wW
 |[],_=>[]
 |.d _::r,us=>tH r us.tail
 |.own _ _::r,us=>us.headD Z9::tH r us.tail
 |.var _ _::r,us=>us.headD Z9::tH r us.tail
def mI:∀{rs:N RM}{x:bZ rs}{us:N wW}{i o:K},(ZK rs x i o).2.map (λe=>nW rs us o vs e.1)=tH rs us
 |[],_,_,_,_=>rfl
 |[.d _],x,us,i,o=>rfl
 |[.own t E],x,us,i,o=>by
  show[Wu vs o (us.headD Z9) o]=[us.headD Z9];rw[wj]
 |[.var t E],x,us,i,o=>by
  show[Wu vs o (us.headD Z9) o]=[us.headD Z9];rw[wj]
 |.var t E::n::r,x,us,i,o=>by
  show Wu (nW (n::r) us.tail (o+1) vs) o (us.headD Z9) o::(ZK (n::r) x.2 (i+1)<|o+1).2.map (λe=>nW (.var t E::n::r) us o vs e.1)=us.headD Z9::tH (n::r) us.tail;rw[wj,<-mI];congr 1;refine xcc λe a=> ?_;exact BD (by have:=Uw e a;lia)
 |.d t::n::r,x,us,i,o=>mI (rs:=n::r)
 |.own t E::n::r,x,us,i,o=>by
  show Wu (nW (n::r) us.tail (o+1) vs) o (us.headD Z9) o::(ZK (n::r) x.2 (i+1)<|o+1).2.map (λe=>nW (.own t E::n::r) us o vs e.1)=us.headD Z9::tH (n::r) us.tail;rw[wj,<-mI];congr 1;refine xcc λe a=> ?_;exact BD (by have:=Uw e a;lia)
def Df:∀{m:K}{rs:N RM}{us:N wW},Ar m rs=wT->X us=X rs->tH rs us=us.drop m
 |0,[],us,_,hl=>by
  obtain rfl:=xbt.1 hl;rfl
 |0,.own _ _::r,[],_,hl=>by cases hl
 |0,.own _ _::r,u::us,h,hl=>by
  show u::tH r us=u::us;rw[Df (rs:=r) h<|by simpa using hl];rfl
 |0,.var _ _::r,[],_,hl=>by cases hl
 |0,.var _ _::r,u::us,h,hl=>by
  show u::tH r us=u::us;rw[Df (rs:=r) h<|by simpa using hl];rfl
 |m+1,.d _::r,[],_,hl=>by cases hl
 |m+1,.d _::r,u::us,h,hl=>Df (m:=m) h<|by simpa using hl
 |0,.d _::_,_,h,_=>by cases h
 |_+1,[],_,h,_=>by cases h
 |_+1,.own _ _::_,_,h,_=>by cases h
 |_+1,.var _ _::_,_,h,_=>by cases h
def zcP{i9:K->wW}:∀{os:N K}{ob:N (K×Od)},os.map i9=ob.map (λe=>i9 e.1)->MS i9 (ER os ob)=MS i9 ob
 |[],[],_=>rfl
 |[],_::_,h=>by cases h
 |_::_,[],h=>by cases h
 |o::os,(p,X)::ob,h=>by
  simp only[xbP,xdV]at h;show Ug i9 (o,X)::MS i9 (ER os ob)=Ug i9 (p,X)::MS i9 ob;rw[zcP h.2];cases X<;>simp only[Ug]<;>rw[h.1]
def RU:∀{os:N K}{ob:N (K×Od)},∀e∈ER os ob,e.1∈os
 |[],_,e,he=>jp he<|by simp[ER]
 |_::_,[],e,he=>jp he<|by simp[ER]
 |o::os,p::ob,e,he=>by
  rcases xai.1 (show e∈(o,p.2)::ER os ob from he)with rfl|he
  simp_all;exact FS _<|RU e he
def zcb{rs:N RM}{x:bZ rs}{us:N wW}{o m:K}{S:K->Prop}(h:zC S (ks rs x us) w)(hl:X us=X rs)(z:m<=X us):∀e∈(ZK rs x (C4 m) o).1.filter (λe=>xda e.1<|C4 m+m),(vU P (nW rs us o vs) e.2 (Zg<|us.take m) e.1).p S w:=by
 intro e c;have⟨c,f⟩:=xbW.1 c;have f:e.1<C4 m+m:=Nat.blt_eq.mp f;have⟨j,u,h1,n,l⟩:=GJ (P:=P) (vs:=vs) h hl e c;have⟨i,dv⟩:=e;simp only at h1 f;have q:j<m:=W
 have a:(us.take m)[j]? =Z u:=by rw[xbK,Q q];exact n
 have b:X (us.take m)=m:=by rw[xas];lia
 generalize us.take m=i9 at*
 match i9,b,a with
 |[],b,a=>simp at a
 |[v],b,a=>
  obtain rfl:m=1:=b.symm;obtain rfl:j=0:=W
  simp only[xbD,xav]at a;obtain rfl:i=0:=h1;subst a;exact l
 |v::s::k,b,a=>
  have:C4 m=1:=by unfold C4;rw[zhj<|by simp at b;lia];rfl
  rw[this]at h1;obtain rfl:i=j+1:=W
  exact⟨(v::s::k).toArray,u,O,by simpa using a,l⟩
def zdp{f:ul}{f':XS}{cs:N PD}{s:Wq}{c:Z3 ul}{ts:Z3 kW}{k:Sg->V R}{z:cj s.dom}{q:bZ s.cod}{os:N K}(hd:wM cx d=wT)(u:xA cx σ f=Z (.fn f' cs))
 (D:yU P s) (E:s.f=f') (Y:Ap c.toList+Ap cs=Ap s.dom) (hF:∀o∈os,∃X,(o,X)∈σ.ob) (C:∀vs (fr:Fr) H S w,(∀x,Xj P vs H S w cx σ x)->∀a:N wW,Ap a=Ap cs->zC S (HP cs a) w->
  zC S (jC P s.dom z<|c.toList.map (ev H)++a) w/\(OS vs fr cx σ.ob).Perm (jW s.dom z (c.toList.map (ev H)++a)++OS vs fr cx (vb σ.ob os))/\KZ s.dom (c.toList.map (ev H)++a)=os.map vs)
 (hq:s.M z=Z q) (h:zmf σ d s os q k=Z r):nQ P cx ⟨d,.call ⟨.value f,c,ts⟩,ty,m7,xS,g⟩ σ k r:=by
 unfold zmf at h;split at h
 ·next G=>
   refine⟨_,h,xbH _ _,λfr vs H w J=> ?_⟩
   have⟨n,hl⟩:=J
   have⟨S0,_,j⟩:=hl.ex
   have⟨a,hv,A,_⟩:=zj u<|zO j f
   have B:=D.plain G hq (vs:=c.toList.map (ev H)++a)<|by simp at Y⊢;lia
   have L:(uP (ev H) ⟨d,.call ⟨.value f,c,ts⟩,ty,m7,xS,g⟩).run P w=.ok (.enter f' (c.toList.map (ev H)++a).toArray) w:=by simp[uP,WN,hv,xcX,V1,qb<|E▸D.1]
   have hn:St fr.we fr.Se (jW s.dom z (c.toList.map (ev H)++a)++OS vs fr cx (vb σ.ob os)) (jC P s.dom z (c.toList.map (ev H)++a)++GS P vs H fr cx σ) w:=by
    refine St.perm (St.weak hl λS w m=>zC.append ?_ m) (C vs fr H S0 w (zO j) a A ?_).2.1
    ·have⟨i,hc,hi,p⟩:=zj u<|zO m f;rw[hv]at hc;have:a=i:=by simpa using hc
     subst this;exact(C vs fr H S w (zO m) a A p).1
    ·have⟨i,hc,hi,p⟩:=zj u<|zO j f;rw[hv]at hc;have:a=i:=by simpa using hc
     subst this;exact p
   unfold ux
   rw[L]
   rw[E]at B
   refine(B fr.we fr.Se _ _ w hn).mono ?_
   rintro e w' ⟨us,he,F,Q⟩
   refine⟨Zg us,he,?_⟩
   refine KA (vs:=vs) (i9:=nW s.cod us σ.nx vs) (l:=(ZK s.cod q (bif du s.cod then 0 else 1) σ.nx).1) (Γl:=ks s.cod q us) n hd O (xbH _ _) (λo v=>J3 v) ie ?_ (λS w m=>zes m F) ?_
   ·intro e he
    obtain he|he:=xab.1 he
    ·exact(Uw e he).2
    ·exact xag (n.o1 e<|Kf e he)<|xbH _ _
   ·have e1:OS (nW s.cod us σ.nx vs) fr cx ((ZK s.cod q (bif du s.cod then 0 else 1) σ.nx).2++vb σ.ob os)=kz s.cod q us++OS vs fr cx (vb σ.ob os):=by
     show MS _ (_++_)++(MS _ cx.ob++_)=_;have T:MS (nW s.cod us σ.nx vs) (vb σ.ob os)=MS vs (vb σ.ob os):=wC λe he=>J3<|n.o1 e<|Kf e he;have U:MS (nW s.cod us σ.nx vs) cx.ob=MS vs cx.ob:=wC λe he=>J3<|n.o2 e he;rw[U,show MS (nW s.cod us σ.nx vs) ((ZK s.cod q (bif du s.cod then 0 else 1) σ.nx).2++vb σ.ob os)=MS _ _++MS _ _ from xaO,T,r7,xar]
    rw[e1]
    exact Q
 ·next b G=>
   have⟨ht,h⟩:=yf h
   refine⟨_,h,xbH _ _,λfr vs H w J=> ?_⟩
   have⟨n,hl⟩:=J
   have⟨S0,_,j⟩:=hl.ex
   have⟨a,hv,A,_⟩:=zj u<|zO j f
   have B:=D.2 z q hq (c.toList.map (ev H)++a)<|by simp at Y⊢;lia
   rw[G]at B
   have L:(uP (ev H) ⟨d,.call ⟨.value f,c,ts⟩,ty,m7,xS,g⟩).run P w=.ok (.enter f' (c.toList.map (ev H)++a).toArray) w:=by simp[uP,WN,hv,xcX,V1,qb<|E▸D.1]
   have hD:KZ s.dom (c.toList.map (ev H)++a)=os.map vs:=by
    have⟨i,hc,hi,p⟩:=zj u<|zO j f;rw[hv]at hc;have:a=i:=by simpa using hc
    subst this;exact(C vs fr H S0 w (zO j) a A p).2.2
   have hn:St fr.we fr.Se (jW s.dom z (c.toList.map (ev H)++a)++OS vs fr cx (vb σ.ob os)) (jC P s.dom z (c.toList.map (ev H)++a)++GS P vs H fr cx σ) w:=by
    refine St.perm (St.weak hl λS w m=>zC.append ?_ m) (C vs fr H S0 w (zO j) a A ?_).2.1
    ·have⟨i,hc,hi,p⟩:=zj u<|zO m f;rw[hv]at hc;have:a=i:=by simpa using hc
     subst this;exact(C vs fr H S w (zO m) a A p).1
    ·have⟨i,hc,hi,p⟩:=zj u<|zO j f;rw[hv]at hc;have:a=i:=by simpa using hc
     subst this;exact p
   unfold ux
   rw[L]
   rw[E]at B
   refine(B fr.we fr.Se _ _ w hn).mono ?_
   rintro e w' ⟨us,he,⟨F,hC⟩,Q⟩
   refine⟨Zg<|us.take<|Ap s.cod-(b+1),he,?_⟩
   have hp:∀o,o<σ.nx->nW s.cod us σ.nx vs o=vs o:=λo v=>J3 v
   have hE:∀o∈os,o<σ.nx:=λo v=>by
    have⟨X,hX⟩:=hF o v;exact n.o1 _ hX
   have hG:MS (nW s.cod us σ.nx vs) (ER os (ZK s.cod q (C4<|Ap s.cod-(b+1)) σ.nx).2)=kz s.cod q us:=by
    rw[zcP,r7];rw[mI,Df ht F,hC,hD];exact xcc λo v=>hp o<|hE o v
   refine KA (vs:=vs) (i9:=nW s.cod us σ.nx vs) (l:=(ZK s.cod q (C4<|Ap s.cod-(b+1)) σ.nx).1.filter λe=>xda e.1<|C4 (Ap s.cod-(b+1))+(Ap s.cod-(b+1))) (Γl:=ks s.cod q us) n hd O (xbH _ _) hp (λe he=>ie e (xbW.1 he).1) ?_ (λS w m=>zcb m F W) ?_
   ·intro e he
    obtain he|he:=xab.1 he
    ·exact xag (hE _<|RU e he)<|xbH _ _
    ·exact xag (n.o1 e<|Kf e he)<|xbH _ _
   ·have e1:OS (nW s.cod us σ.nx vs) fr cx (ER os (ZK s.cod q (C4<|Ap s.cod-(b+1)) σ.nx).2++vb σ.ob os)=kz s.cod q us++OS vs fr cx (vb σ.ob os):=by
     show MS _ (_++_)++(MS _ cx.ob++_)=_;have T:MS (nW s.cod us σ.nx vs) (vb σ.ob os)=MS vs (vb σ.ob os):=wC λe he=>J3<|n.o1 e<|Kf e he;have U:MS (nW s.cod us σ.nx vs) cx.ob=MS vs cx.ob:=wC λe he=>J3<|n.o2 e he;rw[U,show MS (nW s.cod us σ.nx vs) (ER os (ZK s.cod q (C4<|Ap s.cod-(b+1)) σ.nx).2++vb σ.ob os)=MS _ _++MS _ _ from xaO,T,hG,xar]
    rw[e1]
    exact Q
def zn3(b:∀s∈cf.cs,yU P s){f:ul}{f':XS}{cs:N PD}{s:Wq}{a:Z3 ul}{ts:Z3 kW}{k:Sg->V R}(hd:wM cx d=wT)(c:xA cx σ f=Z (.fn f' cs))
 (e:zb6 cx σ f' a.toList cf.cs=Z s) (h:znL cf cx σ d s a.toList cs k=Z r):nQ P cx ⟨d,.call ⟨.value f,a,ts⟩,ty,m7,xS,g⟩ σ k r:=by
 have⟨h1,i⟩:=zi1 e;have⟨z,os,h,j,hc,l⟩:=UE b h;have⟨q,m,h⟩:=CA h;exact zdp hd c (b s h1) i j hc l m h
def zi0{f:XS}{a:N ul}:∀{l:N J2}{p:J2},zkc cx σ f a l=Z p->p∈l/\p.s.f=f
 |c::l,p,h=>by
  unfold zkc at h;split at h;simp_all;have⟨h1,b⟩:=zi0 h;exact⟨FS _ h1,b⟩
def zm5(P:uS)(cx:Sg)(o:Xs)(σ:Sg)(kp:PX->Sg->V R)(r:R):Prop:=∃q m6,kp q m6=Z r/\m6.nx=σ.nx/\∀(fr:Fr) (vs:K->wW) (H:xj) (w:qR),fT P fr cx σ vs H w->OpP P o H w (λa w'=>a=tF q/\fT P fr cx m6 vs H w')
def zqR(G:∀s∈cf.cs,yU P s){f:ul}{f':XS}{cs:N PD}{p:J2}{a:Z3 ul}{ts:Z3 kW}{kp:PX->Sg->V R}{k:Sg->V R}(hd:wM cx d=wT)(m:xA cx σ f=Z (.fn f' cs))
 (u:PN P p) (v:p.s.f=f') (h:zoo cf cx σ d p a.toList cs kp k=Z r):nQ P cx ⟨d,.call ⟨.value f,a,ts⟩,ty,m7,xS,g⟩ σ k r\/zm5 P cx ⟨d,.call ⟨.value f,a,ts⟩,ty,m7,xS,g⟩ σ kp r:=by
 unfold zoo at h;have⟨z,os,h,D,J,A⟩:=UE G h;have⟨y,E,h⟩:=CA h
 cases y with
 |inr q=>exact .inl<|zdp (s:=p.n) hd m u.n v D J A (by show(match p.M z with|some (.inr r)=>Z r|_=>wS)=Z q;rw[E]) h
 |inl q=>
  refine .inr ⟨q,_,h,O,λfr vs H w K=> ?_⟩;have⟨o,hl⟩:=K;have⟨S0,_,j⟩:=hl.ex;have⟨b,hv,F,_⟩:=zj m<|zO j f;have hn:=(u.2 z (a.toList.map (ev H)++b)<|by simp at D⊢;lia).2 q E;have L:(uP (ev H) ⟨d,.call ⟨.value f,a,ts⟩,ty,m7,xS,g⟩).run P w=.ok (.enter f' (a.toList.map (ev H)++b).toArray) w:=by simp[uP,WN,hv,xcX,V1,qb<|v▸u.1]
  have hp:St fr.we fr.Se (jW p.s.dom z (a.toList.map (ev H)++b)++OS vs fr cx (vb σ.ob os)) (jC P p.s.dom z (a.toList.map (ev H)++b)++GS P vs H fr cx σ) w:=by
   refine St.perm (St.weak hl λS w B=>zC.append ?_ B) (A vs fr H S0 w (zO j) b F ?_).2.1;have⟨i,l,Q,hi⟩:=zj m<|zO B f;rw[hv]at l;have:b=i:=by simpa using l
   subst this;exact(A vs fr H S w (zO B) b F hi).1;have⟨i,l,Q,hi⟩:=zj m<|zO j f;rw[hv]at l;have:b=i:=by simpa using l
   subst this;exact hi
  unfold OpP;rw[L];rw[v]at hn;refine⟨λc hc=>(by cases hc),(hn fr.we fr.Se _ _ w hp).mono ?_⟩;rintro e w' ⟨C,ht⟩;exact⟨_,C,O,⟨λe C=>o.o1 e<|Kf e C,o.o2,o.r1,o.r2⟩,ht⟩
theorem St.pr{we:qR}{Se:K->Prop}{ms:N MF}{Γ:N FF}{w:qR}{p:Prop}(hp:p)(h:St we Se ms Γ w):St we Se (mPr p::ms) Γ w:=by
 have⟨h1,b,c,S,e,f,l,i,j⟩:=h;refine⟨h1,b,⟨λk a=>a.elim,c⟩,S,e,f,λm hm k a=> ?_,⟨hp,i⟩,j⟩;obtain rfl|hm:=xai.1 hm
 exact a.elim;grind
def St.unpr{we:qR}{Se:K->Prop}{ms:N MF}{Γ:N FF}{w:qR}{p:Prop}(h:St we Se (mPr p::ms) Γ w):p/\St we Se ms Γ w:=
 ⟨wE h (i:=0) O λS hp=>hp,St.drop (i:=0) h⟩
def Kd{d a:Dv}{v:wW}{i:K}{S:K->Prop}(h:(vU P vs d v i).p S w)(b:∀u,(vC P vs d u).p S w->(vC P vs a u).p S w):(vU P vs a v i).p S w:=by
 cases i with
 |zero=>exact b _ h
 |succ i=>have⟨us,u,h1,c,e⟩:=h;exact⟨us,u,h1,c,b _ e⟩
theorem KD{v u:wW}{mk:K->Dv}{X:Od}{ob:N (K×Od)}(a:Bd cx σ)(hd:wM cx d=wT)(b:∀e∈ob,e.1<σ.nx)(i:∀o,vv (mk o)=Z o)(hc:∀S w,(vC P (Wu vs σ.nx u) (mk σ.nx) v).p S w)
 (c:St fr.we fr.Se (Ug (Wu vs σ.nx u) (σ.nx,X)::OS vs fr cx ob) (GS P vs H fr cx σ) w):pj P fr cx σ.nx vs ⟨σ.nx+1,qI σ.rg d [(0,mk σ.nx)],(σ.nx,X)::ob⟩ (put H d v) w:=by
 refine KA (i9:=Wu vs σ.nx u) (Γl:=[]) a hd O (xbB _) (λo f=>ua f) ?_ ?_ ?_ ?_;simp_all;grind;intro S w _ e h;obtain rfl:=xad.1 h;exact hc S w;show St _ _ (Ug (Wu vs σ.nx u) (σ.nx,X)::OS (Wu vs σ.nx u) fr cx ob) _ _;rw[NJ a b];exact c
def QA:∀{ob:N (K×Od)}{o:K}{X Y:Od},xB ob o=Z X->xB (kj ob o Y) o=Z Y/\yE (kj ob o Y) o=yE ob o
 |(b,e)::r,o,X,Y,h=>by
  unfold xB at h;unfold kj;cases a:xah b o<;>rw[a]at h
  ·obtain⟨h1,c⟩:=QA h;constructor
   ·simp only[Wt];unfold xB;rw[a];exact h1
   ·simp only[Wt];unfold yE;rw[a];simp only[Wt,c]
  ·constructor
   ·simp only[WF];unfold xB;rw[a];rfl
   ·simp only[WF];unfold yE;rw[a];rfl
def qT{o:K}{X:Od}{Γ:N FF}(a:xB σ.ob o=Z X)(h:St fr.we fr.Se (OS vs fr cx σ.ob) Γ w):St fr.we fr.Se (Ug vs (o,X)::OS vs fr cx (yE σ.ob o)) Γ w:=h.perm<|jG a
def sF{ob:N (K×Od)}{o:K}{X Y:Od}{Γ:N FF}(a:xB ob o=Z X)(h:St fr.we fr.Se (Ug vs (o,Y)::OS vs fr cx (yE ob o)) Γ w):St fr.we fr.Se (OS vs fr cx<|kj ob o Y) Γ w:=by
 obtain⟨h1,b⟩:=QA a;have:=jG (vs:=vs) (fr:=fr) (cx:=cx) h1;rw[b]at this;exact h.perm this.symm
def nK{o o2:K}{X Y:Od}{Γ:N FF}(a:xah o o2=I)(b:xB σ.ob o=Z X)(hc:xB σ.ob o2=Z Y)(h:St fr.we fr.Se (OS vs fr cx σ.ob) Γ w):
 St fr.we fr.Se (Ug vs (o,X)::Ug vs (o2,Y)::OS vs fr cx (yE (yE σ.ob o) o2)) Γ w:=by
 have h1:xB (yE σ.ob o) o2=Z Y:=by rw[cG<|λe=>by subst e;simp at a];exact hc
 exact(h.perm<|jG b).perm<|(jG h1).cons _
def moU{o:K}{u:wW}{X:Od}:Ug (Wu vs o u) (o,X)=Ug (λ_=>u) (0,X):=by cases X<;>simp only[Ug,wj]
def zr3{S:K->Prop}{w:qR}:(YT [.slice wS 0 0]).p S 0 (xeB (.slice wS 0 0)).toList w:=⟨_,O,O,O⟩
def zkE(a:yT P cf.tt){k:Sg->V R}(hd:wM cx d=wT)(h:zcq cf cx σ d t x y k=Z r):nQ P cx ⟨d,.makeSlice t x y,ty,m7,xS,g⟩ σ k r:=by
 unfold zcq at h;split at h;rename_i s E B ht;have⟨hi,h⟩:=yf h;split at h;rename_i M E1 Q n f hn;have⟨j,C,h⟩:=zcX h;have⟨i,h⟩:=ZW h;have⟨xs,l,h⟩:=wK h;have F:=zcg a f O;refine⟨_,h,xbB _,λfr vs H w G=> ?_⟩;have⟨m,o⟩:=G;have⟨S0,_,c⟩:=o.ex;have q:ev H x=.int .i64 (j:J):=by rw[(va hn<|zO c x).1,C]
 have A:=(a _ _ f).2.1;refine(zaz (e:=YT [.slice wS 0 0]) (z:=0) (xs:=xs) (n:=j) (qB a ht) F q ((zdH hi).symm.trans q) A i (λ_ _=>zr3) l w o).mono ?_;rintro v w' ⟨b,rfl,_,K⟩;have hc:X xs=j:=by rw[l];exact xaN
 have h1:=K.closeF 0 O (by rw[hc];exact Nm _)<|ziI A i;rw[hc]at h1;refine KD (vs:=vs) (mk:=.mw) (u:=cK (.slice (Z ⟨b,0,wS⟩) j j) [.slice wS 0 0]) m hd m.o1 (λ_=>O) (λS w=>by simp only[vC,wj];rfl) ?_;rw[moU];refine St.grp.2<|St.pr (p:=X ([.slice wS 0 0]:N wW)=X ([[]]:N (N s.D))) O ?_;have L:=St.nilO (e:=s.rep) (E:=E1) h1;exact L.perm<|xdS ..;cases h
 cases h
def zou{a:V U8}{n c:K}:(Value.slice a n c).oneCell'=wT/\(Value.slice a n c).cells= #[.slice a n c]:=⟨O,O⟩
def DS{α:Type}{e:zT α}{E:kW}{v:wW}{xs:N α}{S:K->Prop}(h:(mO e E v xs).p S w):v.oneCell'=wT/\v.cells= #[v]:=by rcases iR h with⟨rfl,_⟩|⟨b,cap,rfl,_⟩<;>exact zou
def zn2(b:yT P cf.tt)(l:uf P cf.tt){n:K}{ps:Z3 (K×ul)}{k:Sg->V R}(hd:wM cx d=wT)(h:zj6 cf cx σ d t n ps.toList k=Z r):nQ P cx ⟨d,.buildSlice t n ps,ty,m7,xS,g⟩ σ k r:=by
 unfold zj6 at h;split at h;rename_i s E B x ht o;have⟨hn,h⟩:=yf h;have hn:=yb hn;subst hn;split at h;rename_i o2 hi;split at h;rename_i L E1 ys c;have⟨q,h⟩:=yq h;cases q;have⟨bytes,f,z⟩:=UI b l ht;refine⟨_,h,xbB _,λfr vs H w A=> ?_⟩;have⟨j,hc⟩:=A;have⟨S0,_,a⟩:=hc.ex;have hl:ev H x=vs o2:=zj hi<|zO a x;have⟨q1,q2⟩:=wE (qT c hc) (i:=0) (m:=mO s.rep E1 (vs o2) ys) O λS hp=>DS hp;have C:jD [(0,vs o2)]=[vs o2]:=by rw[znN,q2]
 refine(zkh (e:=YT [vs o2]) (zs:=[0]) (len:=1) (parts:=ps.toList) (vs:=[(0,vs o2)]) (qB b ht) z (xdj) O (by show 1*1<=_;lia) (by rw[o];simp[hl]) (λS w F=>⟨by rw[q2];rfl,jP⟩) (λS w F=> ?_) w<|qT c hc).mono ?_;rw[C];exact⟨[vs o2],[],O,⟨_,O,q1,O⟩,O⟩
 rintro v w' ⟨M,rfl,_,G⟩;refine KD (vs:=vs) (mk:=.mw) (u:=cK v [vs o2]) j hd (λe J=>j.o1 e<|Zl e J) (λ_=>O) (λS w=>by simp only[vC,wj];rfl) ?_;rw[moU];exact St.grp.2<|St.pr (p:=X ([vs o2]:N wW)=X ([ys]:N (N s.D))) O G;cases h
 cases h
 cases h
def zgn(C:yT P cf.tt){m:kW}{k:Sg->V R}(hd:wM cx d=wT)(h:MU cf σ d m k=Z r):nQ P cx ⟨d,.alloc m,ty,m7,xS,g⟩ σ k r:=by
 unfold MU at h;split at h;rename_i s E B ht;have hi:=zcg C ht O;refine⟨_,h,xbB _,λfr vs H w o=> ?_⟩;have⟨f,q⟩:=o;refine(Bg (e:=(YT [.slice wS 0 0]).c) (z:=0) hi (λS w=>zr3 (S:=S) (w:=w)) w q).mono ?_;rintro v w' ⟨b,rfl,_,A⟩;refine KD (vs:=vs) (mk:=.mw) (u:=cK (.pointer<|some ⟨b,0,wS⟩) [.slice wS 0 0]) f hd f.o1 (λ_=>O) (λS w=>by simp only[vC,wj];rfl) ?_;rw[moU];refine St.grp.2<|St.pr (p:=X ([.slice wS 0 0]:N wW)=1) O ?_;exact(St.nilO (e:=s.rep) (E:=E)<|A.toP 0 O).perm<|xdS ..;rename_i a n B ht;split at h;rename_i i E1 M;split at h;rename_i off s K st j;have⟨F,hc,Q,G,_,J⟩:=(C _ _ ht).1;simp only at hc G J;refine⟨_,h,xbB _,λfr vs H w o=> ?_⟩;have⟨f,q⟩:=o;refine(Bg (e:=eH a.rep off (st ([]:N s.D)) [.slice wS 0 0]) (z:=(a.z,0)) hc (λS w=>znc j (G S w) (J _ _ _ _ _ _ j) O) w q).mono ?_;rintro v w' ⟨b,rfl,_,A⟩;refine KD (vs:=vs) (mk:=.mw) (u:=cK (.pointer<|some ⟨b,0,wS⟩) [.slice wS 0 0]) f hd f.o1 (λ_=>O) (λS w=>by simp only[vC,wj];rfl) ?_;rw[moU];refine St.grp.2<|St.pr (p:=X ([.slice wS 0 0]:N wW)=1/\vrP s (xl n a i)) ⟨O,_,_,_,j⟩ ?_;have L:=(St.nilO (e:=s.rep) (E:=E1)<|A.toP 0 O).perm<|xdS ..;show St _ _ (mP (eH a.rep (X2<|xl n a i) (Zj s (xl n a i) []) [.slice wS 0 0]) m _ (a.z,0)::mO s.rep E1 (.slice wS 0 0) []::_) _ _;rw[j];have hp:Zj s (Z ⟨off,.l s,K,st⟩) ([]:N s.D)=st ([]:N s.D):=uT λz=>rQ;rw[hp];exact L;cases h
 cases h
 cases h
theorem zmc{v:V Dv}{o:K}(h:R5 σ v=Z o):∃t n i E b E1 z xs,v=Z (.vf o t n i)/\xB σ.ob o=Z (.vr t E b E1 n i z xs):=by
 unfold R5 at h;split at h;rename_i e c n0 i;split at h;rename_i s E b E1 n j z xs f;cases a:xah i j && (xah n0 n && (Ty.same c s).isSome)<;>rw[a]at h
 cases h
 cases h;rw[xae,xae]at a;obtain rfl:=yb a.1;obtain rfl:=yb a.2.1;obtain rfl:=KR a.2.2;grind
 cases h
 cases h
def DW{hv:N wW}(h:X hv=1):hv=[hv.headD Z9]:=by
 match hv,h with
 |[a],_=>rfl
theorem zkY(C:yT P cf.tt){o:K}{k:Sg->V R}(hd:wM cx d=wT)(D:xA cx σ x=Z (.mw o))(h:zbj cf σ d t o k=Z r):nQ P cx ⟨d,.load t x,ty,m7,xS,g⟩ σ k r:=by
 unfold zbj at h;split at h;rename_i q E' B s E a xs ht i;have⟨l,F,_⟩:=YX C ht;refine⟨_,h,xbB _,λfr vs H w G=> ?_⟩;have⟨m,hc⟩:=G;have⟨S0,_,j⟩:=hc.ex;have hi:ev H x=yN (vs o):=zj D<|zO j x;have⟨n,h1⟩:=St.unpr<|St.grp.1<|qT i hc;have⟨b,v,J⟩:=h1.openP 0 O;refine(R0 (V7 (e:=(YT<|xX<|vs o).c) (f:=YT<|xX<|vs o) (z':=0) (up:=id) 0 O (hi.trans v) (Sub.self (YT<|xX<|vs o) 0) F) w J).mono ?_;rintro u w' ⟨_,rfl,_,z⟩;have⟨S1,_,L⟩:=z.ex;have hu:=zf1 L.1;have hl:=DW n;have M:u=(xX<|vs o).headD Z9:=by grind
 have A:=(z.weak (Δ:=GS P vs H fr cx σ) λS w h=>h.2).toP 0 O;rw[<-v]at A;refine KD (vs:=vs) (mk:=.ow) (u:=u) m hd (λe N=> ?_) (λ_=>O) (λS w=>Uk S w) ?_;have⟨Q,g1,T⟩:=Qn i e N;rw[<-T];exact m.o1 Q g1;rw[bh,M];have U:St fr.we fr.Se (mO s.rep E ((xX<|vs o).headD Z9) xs::(Ug vs (o,.ho a)::OS vs fr cx (yE σ.ob o))) (GS P vs H fr cx σ) w':=by have h5:St fr.we fr.Se (mP (YT<|xX<|vs o).c a (yN<|vs o) 0::mO s.rep E ((xX<|vs o).headD Z9) xs::OS vs fr cx (yE σ.ob o)) (GS P vs H fr cx σ) w':=A;have h6:=St.pr (p:=X (xX<|vs o)=1) n h5;have h7:St fr.we fr.Se ([mPr<|X (xX<|vs o)=1,mP (YT<|xX<|vs o).c a (yN<|vs o) 0]++mO s.rep E ((xX<|vs o).headD Z9) xs::OS vs fr cx (yE σ.ob o)) (GS P vs H fr cx σ) w':=h6;exact(St.grp.2 h7).perm<|xdS ..
 have hp:=jG (vs:=vs) (fr:=fr) (cx:=cx) (QA (Y:=.ho a) i).1;rw[(QA (Y:=.ho a) i).2]at hp;exact U.perm<|hp.symm.cons _;cases h
def zhP(c:yT P cf.tt){ps:Z3 (K×ul)}{k:Sg->V R}(hd:wM cx d=wT)(h:MB cf cx σ d t ps.toList k=Z r):nQ P cx ⟨d,.build t ps,ty,m7,xS,g⟩ σ k r:=by
 unfold MB at h;split at h;rename_i e n B i _ ht hv;have⟨f,j,o,l,_,hi⟩:=(c _ _ ht).1;have⟨a,_,⟨fs,v,pl,A,m⟩,_⟩:=(c _ _ ht).2.2.2;simp only at j o l hi a m;have⟨hn,h⟩:=yf h;split at h;rename_i off s U st b
 have⟨z,h,C⟩:=zbt h;have D:∀F,ES P ⟨d,.build t ps,ty,m7,xS,g⟩ cx σ F [(0,.dz e z n i)]:=λF=>uW λH w S vs Y hl=>by
  have E:=C P vs H S w λx G=>yK hl (by simpa[xaB]using G);refine⟨_,_,_,_,[hbF n e (ps.toList.map λq:K×ul=>(q.1,ev H q.2)) e.z z],[],LF (e:=e.rep) (z0:=e.z) (z:=z) (parts:=ps.toList) (a▸j) a l ⟨fs,v,A⟩ O (λout=>out[off]? =Z (.slice wS 0 0))<|λS w h cs J hc=> ?_,jP,⟨E,jP⟩,λu w' L M=>zu ⟨M.1,_,b,L⟩⟩;have⟨out,q1,q2,N⟩:=HB.fill m h.1 hc;refine⟨out,q1,q2,?_⟩;rw[N i _ b (λp hp=> ?_) O,J];exact hi _ _ _ _ _ _ b;obtain⟨q,Q,rfl⟩:=xat.1 hp;have:=xaT.1 hn q Q;intro e1;simp only at e1;rw[e1]at this;simp at this
 exact⟨_,h,Nm _,λfr vs H w T=>zno (D _).mono hd (by rfl) T⟩;cases h
 cases h
def zmu(Q:yT P cf.tt){o:K}{k:Sg->V R}(hd:wM cx d=wT)(hi:R5 σ (xA cx σ x)=Z o)(h:za3 cf σ d t o k=Z r):nQ P cx ⟨d,.load t x,ty,m7,xS,g⟩ σ k r:=by
 have⟨t0,n0,i,m,c,a,z',l,hn,s⟩:=zmc hi;unfold za3 at h;split at h;rename_i s0 q B s1 E s2 E1 n j z xs ht v;rw[s]at v;simp only[xav,Od.vr.injEq]at v;obtain⟨rfl,rfl,rfl,rfl,rfl,rfl,T,U⟩:=v;cases T;cases U;have⟨hg,h⟩:=yf h;have⟨C,hr,_⟩:=YX Q ht;refine⟨_,h,xbB _,λfr vs H w hR=> ?_⟩;have⟨D,F⟩:=hR;have⟨S0,_,A⟩:=F.ex;have⟨b',f,G,hf,hv⟩:=zj hn<|zO A x;have⟨⟨hc,hw⟩,h1⟩:=St.unpr<|St.grp.1<|qT s F;have⟨b,J,h2⟩:=h1.openP 0 O;rw[J]at G;cases G;have hl:X2 (xl n0 t0 i)=f.off:=by rw[hf];rfl
 have hm:ev H x=.pointer (Z ⟨b',X2<|xl n0 t0 i,wS⟩):=by rw[hl];exact hv.trans<|by rw[xaD]
 refine(R0 (V7 (e:=eH t0.rep (X2<|xl n0 t0 i) (Zj c (xl n0 t0 i) [])<|xX<|vs o) (f:=YT<|xX<|vs o) (z':=0) (up:=λr=>(z',r)) 0 O hm Sub.hole hr) w h2).mono ?_;rintro u w' ⟨_,rfl,_,L⟩;have⟨S1,_,hy⟩:=L.ex;have M:=zf1 hy.1;have hA:=DW hc;have hC:u=(xX<|vs o).headD Z9:=by rw[hA]at M;simpa using M.symm
 have N:=(L.weak (Δ:=GS P vs H fr cx σ) λS w h=>h.2).toP 0 O;rw[<-J]at N;refine KD (vs:=vs) (mk:=.ow) (u:=u) D hd (λe he=> ?_) (λ_=>O) (λS w=>Uk S w) ?_;have⟨e',g1,g2⟩:=Qn s e he;rw[<-g2];exact D.o1 e' g1;rw[bh,hC];have h4:St fr.we fr.Se (mO c.rep a ((xX<|vs o).headD Z9) l::(Ug vs (o,.vh t0 m c a n0 i z')::OS vs fr cx (yE σ.ob o))) (GS P vs H fr cx σ) w':=by have h5:St fr.we fr.Se (mP (eH t0.rep (X2<|xl n0 t0 i) (Zj c (xl n0 t0 i) [])<|xX<|vs o) m (yN<|vs o) (z',0)::mO c.rep a ((xX<|vs o).headD Z9) l::OS vs fr cx (yE σ.ob o)) (GS P vs H fr cx σ) w':=N;have h6:=St.pr (p:=X (xX<|vs o)=1/\vrP c (xl n0 t0 i)) ⟨hc,hw⟩ h5;have h7:St fr.we fr.Se ([mPr<|X (xX<|vs o)=1/\vrP c (xl n0 t0 i),mP (eH t0.rep (X2<|xl n0 t0 i) (Zj c (xl n0 t0 i) [])<|xX<|vs o) m (yN<|vs o) (z',0)]++mO c.rep a ((xX<|vs o).headD Z9) l::OS vs fr cx (yE σ.ob o)) (GS P vs H fr cx σ) w':=h6;exact(St.grp.2 h7).perm<|xdS ..
 have hp:=jG (vs:=vs) (fr:=fr) (cx:=cx) (QA (Y:=.vh t0 m c a n0 i z') s).1;rw[(QA (Y:=.vh t0 m c a n0 i z') s).2]at hp;exact h4.perm<|hp.symm.cons _;cases h
structure zgB(a b:wW):Prop where
 out:yN b=yN a
 hv:∀(r:K) (v:wW),(xX a)[r]? =Z v->(xX b)[r]? =Z v
def zhy{o n:K}(c:zgB (vs o) (vs n)){dv:Dv}{v:wW}{S:K->Prop}(h:(vC P vs dv v).p S w):(vC P vs (zmq o n dv) v).p S w:=by
 cases dv with
 |mw p=>
  show(vC P vs (bif xah p o then .mw n else .mw p) v).p S w;cases a:xah p o
  exact h;obtain rfl:=yb a;exact(show v=yN (vs p)from h).trans c.out.symm
 |mv p l m=>
  show(vC P vs (bif xah p o then .mv n l m else .mv p l m) v).p S w;cases a:xah p o
  exact h;obtain rfl:=yb a;simp only[vC,WF]at h⊢;rw[c.out];exact h
 |hp p j=>
  show(vC P vs (bif xah p o then .hp n j else .hp p j) v).p S w;cases a:xah p o
  exact h;obtain rfl:=yb a;simp only[vC,WF]at h⊢;rw[c.out];exact h
 |rw p r=>
  show(vC P vs (bif xah p o then .rw n r else .rw p r) v).p S w;cases a:xah p o
  exact h;obtain rfl:=yb a;exact c.hv _ _ h
 |rp p t r j f=>
  show(vC P vs (bif xah p o then .rp n t r j f else .rp p t r j f) v).p S w;cases a:xah p o
  exact h;obtain rfl:=yb a;have⟨h1,b,m,cap,e,i,k⟩:=h;exact⟨h1,b,m,cap,c.hv _ _ e,i,k⟩
 |_=>exact h
theorem zhW{o n p:K}{v:Dv}(h:vv (zmq o n v)=Z p):vv v=Z p\/p=n:=by
 cases v with
 |mw q=>
  have h:vv (bif xah q o then Dv.mw n else .mw q)=Z p:=h;cases a:xah q o<;>rw[a]at h
  grind;cases h;exact .inr O
 |mv q l m=>
  have h:vv (bif xah q o then Dv.mv n l m else .mv q l m)=Z p:=h;cases a:xah q o<;>rw[a]at h
  grind;cases h;exact .inr O
 |hp q j=>
  have h:vv (bif xah q o then Dv.hp n j else .hp q j)=Z p:=h;cases a:xah q o<;>rw[a]at h
  grind;cases h;exact .inr O
 |rw q r=>
  have h:vv (bif xah q o then Dv.rw n r else .rw q r)=Z p:=h;cases a:xah q o<;>rw[a]at h
  grind;cases h;exact .inr O
 |rp q t r j f=>
  have h:vv (bif xah q o then Dv.rp n t r j f else .rp q t r j f)=Z p:=h;cases a:xah q o<;>rw[a]at h
  exact .inl h;cases h;exact .inr O
 |_=>exact .inl h
theorem zab{o n:K}:∀{rg:N (K×K×Dv)},∀e∈zkF o n rg,∃a∈rg,e=(a.1,a.2.1,zmq o n a.2.2)
 |[],e,he=>jp he H1
 |(t,i,v)::rg,e,he=>by
  obtain rfl|he:=xai.1 he
  simp_all;have⟨a,h1,b⟩:=zab e he;grind
theorem Sq{o n:K}:∀{rg:N (K×K×Dv)},∀e∈If o n rg,e∈rg\/∃a∈rg,∃p,a.2.2=.mw p/\e=(a.1,a.2.1,bif xah p o then .mw n else .mw p)
 |[],e,he=>jp he H1
 |(t,i,v)::rg,e,he=>by
  have b:∀e∈If o n rg,e∈(t,i,v)::rg\/∃a∈(t,i,v)::rg,∃p,a.2.2=.mw p/\e=(a.1,a.2.1,bif xah p o then .mw n else .mw p):=λe he=>by
   obtain h|⟨a,h1,p,c,f⟩:=Sq e he
   simp_all;grind
  cases v with
  |mw p=>
   rcases xai.1 (show e∈(t,i,bif xah p o then Dv.mw n else .mw p)::If o n rg from he)with rfl|he
   simp_all;grind
  |_=>
   obtain rfl|he:=xai.1 he
   exact .inl<|IR;exact b e he
theorem sY{u v:wW}{o:K}{X:Od}{ob:N (K×Od)}{rg:N (K×K×Dv)}(m:Bd cx σ)(hd:wM cx d=wT)(n:∀e∈ob,e.1<σ.nx)
 (hc:∀e∈rg,∃a∈qI σ.rg d [],e.1=a.1/\e.2.1=a.2.1/\(∀p,vv e.2.2=Z p->vv a.2.2=Z p\/p=σ.nx)/\∀v S w,(vC P (Wu vs σ.nx u) a.2.2 v).p S w->(vC P (Wu vs σ.nx u) e.2.2 v).p S w)
 (hi:St fr.we fr.Se (Ug (Wu vs σ.nx u) (σ.nx,X)::OS vs fr cx ob) (GS P vs H fr cx σ) w):pj P fr cx σ.nx vs ⟨σ.nx+1,rg,(σ.nx,X)::ob⟩ (put H d v) w:=by
 have⟨c,q⟩:fT P fr cx ⟨σ.nx+1,qI σ.rg d [],(σ.nx,X)::ob⟩ (Wu vs σ.nx u) (put H d v) w:=by refine Nh (m6:=⟨σ.nx+1,qI σ.rg d [],(σ.nx,X)::ob⟩) (l:=[]) (vs:=vs) (i9:=Wu vs σ.nx u) (Γl:=[]) m hd O (xbB _) (λo j=>ua j) (λ_ b=>jp b H1) ?_ (λS w _ e b=>jp b H1) ?_;grind;show St _ _ (Ug (Wu vs σ.nx u) (σ.nx,X)::OS (Wu vs σ.nx u) fr cx ob) _ _;rw[NJ m n];exact hi
 refine⟨Wu vs σ.nx u,λo j=>ua j,⟨c.o1,c.o2,λe b p hp=> ?_,c.r2⟩,q.weak λS w h=>zC.append (ud.2 λf s=> ?_)<|zC.right h⟩;have⟨a,h1,_,_,k,_⟩:=hc e b;obtain h|rfl:=k p hp
 exact c.r1 a h1 p h;simp_all;obtain⟨e,b,rfl⟩:=xat.1 s;have⟨a,h1,k,z,_,A⟩:=hc e b;have B:=Kv (zC.left h) (t:=a.1) (i:=a.2.1) (d:=a.2.2) h1;rw[k,z];exact Kd B λu C=>A u S w C
def zlR{u:wW}{o:K}(b:zgB (Wu vs σ.nx u o) (Wu vs σ.nx u σ.nx)):∀e∈zkF o σ.nx σ.rg,∃a∈qI σ.rg wS [],e.1=a.1/\e.2.1=a.2.1/\(∀p,vv e.2.2=Z p->vv a.2.2=Z p\/p=σ.nx)/\∀v S w,(vC P (Wu vs σ.nx u) a.2.2 v).p S w->(vC P (Wu vs σ.nx u) e.2.2 v).p S w:=by intro e c;obtain⟨a,h1,rfl⟩:=zab e c;exact⟨a,h1,O,O,λp hp=>zhW hp,λv S w h=>zhy b h⟩
def tK{u:wW}{o:K}{rg:N (K×K×Dv)}(f:yN (Wu vs σ.nx u σ.nx)=yN (Wu vs σ.nx u o)):∀e∈If o σ.nx rg,∃a∈rg,e.1=a.1/\e.2.1=a.2.1/\(∀p,vv e.2.2=Z p->vv a.2.2=Z p\/p=σ.nx)/\∀v S w,(vC P (Wu vs σ.nx u) a.2.2 v).p S w->(vC P (Wu vs σ.nx u) e.2.2 v).p S w:=by
 intro e i;obtain h|⟨a,h1,p,j,rfl⟩:=Sq e i
 exact⟨e,h,O,O,λp hp=> .inl hp,λv S w h=>h⟩;refine⟨a,h1,O,O,λq c=> ?_,λv S w h=> ?_⟩;skip;cases b:xah p o
 simp_all;simp only[b]at c;cases c;exact .inr O
 rw[j]at h;cases b:xah p o
 exact h;have hp:=yb b;subst hp;exact h.trans f.symm
def zbV{α:Type}{a:N (N α)}{r:K}(h:r<X a):a[r]? =Z (uO a r):=by simp_all [uO]
def ga{o:K}{s:Ty}{E E1:kW}{a:N (N s.D)}{ix:N K}{ms:N MF}{Γ:N FF}(h:St fr.we fr.Se (Ug vs (o,.mat s E E1 a ix)::ms) Γ w):
 X (xX<|vs o)=X a/\St fr.we fr.Se ((mO (YT<|xX<|vs o) E (yN<|vs o) ix::vF s.rep E1 (xX<|vs o) a)++ms) Γ w:=St.unpr<|St.grp.1 h
def SA{u:wW}{s:Ty}{E E1:kW}{a:N (N s.D)}{ix:N K}{ms:N MF}{Γ:N FF}(hl:X (xX u)=X a)(h:St fr.we fr.Se ((mO (YT<|xX u) E (yN u) ix::vF s.rep E1 (xX u) a)++ms) Γ w):
 St fr.we fr.Se (B5 s.rep E E1 u a ix::ms) Γ w:=St.grp.2<|St.pr hl h
def zsM{k:Sg->V R}{n:TI}(J:yT P cf.tt)(ht:Yo cf t=Z n){o p j:K}{e:Ty}{f:Fl e.D}(s:xA cx σ x=Z (.rp o e p j f))(h:kK σ n.ty (xA cx σ x) (xA cx σ y) k=Z r):
 nQ P cx ⟨wS,.store t x y,ty,m7,xS,g⟩ σ k r:=by
 have⟨u,A,_⟩:=YX J ht;rw[s]at h;simp only[kK]at h;split at h;rename_i s' E E1 a ix hc c _;have⟨L,h1⟩:=yq h;cases L;have⟨q,M,N⟩:=QM h1;have⟨Q,T,h⟩:=wK M;have⟨hc⟩:=hc;refine⟨_,h,Nm _,λfr vs H w U=> ?_⟩;have⟨Y,B⟩:=U;have⟨S0,_,l⟩:=B.ex;have⟨hw,b,m,cap,hv,hj,hy⟩:=zj s<|zO l x;have C:=qT c B;have⟨hn,hp⟩:m=X (uO (α:=e.D) a p)/\p<X a:=wE C (i:=0) O λS hp=>⟨sI (BQ (show(B5 e.rep E E1 (vs o) a ix).p S w from hp) hv).1 O,(BQ (show(B5 e.rep E E1 (vs o) a ix).p S w from hp) hv).2⟩;have⟨hl,hg⟩:=ga C;have hi:=zmH (e:=e.rep) (E:=E) (E1:=E1) (v:=yN<|vs o) (ix:=ix) hv (zbV (α:=e.D) hp)<|OS vs fr cx<|yE σ.ob o;have⟨b',F,hA,hC,hD,hs⟩:=hg.openO (p+1) hi W;cases hA;rw[<-hc]at A;have hm:=(Sub.rowT0 e.rep cap (uO (α:=e.D) a p) j ((uO (α:=e.D) a p).getD j e.z)<|getD_some e.z W).comp<|hw<|(uO (α:=e.D) a p).getD j e.z;refine(uz (f:=f.f.rep) (y':=q) (p+1) (vA hi) hy O hm A (λS w ha=>N P vs H S w<|zO ha y) w hs).mono ?_;rintro v w' ⟨_,rfl,_,hE⟩;refine mH (vs:=vs) Y c<|sF c ?_;have hd:X (xfX (uO (α:=e.D) a p) j<|f.set q<|(uO (α:=e.D) a p).getD j e.z)=X (uO (α:=e.D) a p):=xbe ..;have G:=hE.closeF (p+1) (vA<|vA hi) (by rw[hd];exact hC) hD;rw[set_set,set_set,hd,Su hv hp hl]at G;rw[T];exact SA (by rw[show(zrA (α:=e.D) a p _).length=X a from xbe ..];exact hl) G
 cases h
def zsn{k:Sg->V R}{n:TI}(J:yT P cf.tt)(L:Yo cf t=Z n){o j a p:K}(s:xA cx σ x=Z (.hp o j))(e:xA cx σ y=Z (.rw a p))(h:kK σ n.ty (xA cx σ x) (xA cx σ y) k=Z r):
 nQ P cx ⟨wS,.store t x y,ty,m7,xS,g⟩ σ k r:=by
 have⟨u,hd,_⟩:=YX J L;rw[s,e]at h;simp only[kK]at h;have⟨ht,h⟩:=yf h;obtain rfl:=yb ht;split at h;rename_i z E E1 A ix q l M;have⟨iz,N,h⟩:=wK h;refine⟨_,h,Nm _,λfr vs H w Q=> ?_⟩;have⟨T,B⟩:=Q;have⟨S0,_,c⟩:=B.ex;have⟨b,m,cap,hv,hj,U⟩:=zj s<|zO c x;have Y:(xX<|vs a)[p]? =Z (ev H y):=zj e<|zO c y;have C:=qT l B;have⟨hn,hi⟩:m=X ix/\(ev H y).oneCell'=true:=wE C (i:=0) O λS hp=>⟨sI (N2 (show(B5 z.rep E E1 (vs a) A ix).p S w from hp)).2.1 hv,(DS (BQ (show(B5 z.rep E E1 (vs a) A ix).p S w from hp) Y).1).1⟩;have⟨hl,hg⟩:=ga C;have⟨b',D,F,hC,hD,hs⟩:=hg.openO 0 O W;rw[hv]at F;cases F;have hm:=Sub.rowT0 (YT<|xX<|vs a) cap ix j (ix.getD j 0) (getD_some 0 W);rw[M]at hd;refine(uz (f:=YT<|xX<|vs a) (y':=p) 0 O U O hm hd (λS w ha=> ?_) w hs).mono ?_
 exact zcx (zj e<|zO ha y) hi
 rintro v w' ⟨_,rfl,_,hE⟩;refine mH (vs:=vs) T l<|sF l ?_;have hc:X (ix.set j p)=X ix:=xbe ..;have G:=hE.closeF 0 O (by rw[hc];exact hC) hD;rw[hc,<-hv]at G;rw[N];exact SA hl G;cases h
theorem zmN{u:wW}{o:K}{hv:N wW}(c:xX u=xX (vs o)++hv)(a:yN u=yN (vs o))(b:o<σ.nx):zgB (Wu vs σ.nx u o) (Wu vs σ.nx u σ.nx):=by rw[ua b,wj];refine⟨a,λr v h=> ?_⟩;grind
def AV{o:K}{X:Od}(a:Bd cx σ)(h:xB σ.ob o=Z X):o<σ.nx:=by have⟨i,h1,_⟩:=vi h;exact a.o1 _<|xbv h1
def r8(a:Bd cx σ){o p:K}:∀e∈yE (yE σ.ob o) p,e.1<σ.nx:=λe b=>a.o1 e<|Zl e<|Zl e b
def zqY{k:Sg->V R}{n:TI}(L:yT P cf.tt)(M:Yo cf t=Z n){o j o2:K}(s:xA cx σ x=Z (.hp o j))(z:xA cx σ y=Z (.ow o2))(h:kK σ n.ty (xA cx σ x) (xA cx σ y) k=Z r):
 nQ P cx ⟨wS,.store t x y,ty,m7,xS,g⟩ σ k r:=by
 have⟨A,B,_⟩:=YX L M;rw[s,z]at h;simp only[kK]at h;have⟨C,h⟩:=yf h;rw[xcM]at C;split at h;rename_i e E E1 a ix s2 E2 ys q D N Q;have⟨T,h0⟩:=yf h;obtain rfl:=yb T;have⟨U,h1⟩:=yq h0;cases U;have⟨Y,hz,h2⟩:=wK h1;have⟨iz,hi,h3⟩:=wK h2;refine⟨_,h3,xbB _,λfr vs H w hR=> ?_⟩;have⟨l,F⟩:=hR;have⟨S0,_,c⟩:=F.ex;have⟨b,m,cap,hv,hj,hD⟩:=zj s<|zO c x;have hF:ev H y=vs o2:=zj z<|zO c y;have hc:=nK C D N F;have hn:m=X ix:=wE hc (i:=0) O λS hp=>sI (N2 (show(B5 e.rep E E1 (vs o) a ix).p S w from hp)).2.1 hv;have⟨hm,_⟩:(vs o2).oneCell'=true/\_:=wE hc (i:=1) (m:=mO e.rep E1 (vs o2) ys) O λS hp=>DS hp;have hl:=(ga hc).1
 have hg:St fr.we fr.Se ((mO (YT<|xX (vs o)++[vs o2]) E (yN<|vs o) ix::vF e.rep E1 (xX (vs o)++[vs o2]) (a++[ys]))++OS vs fr cx (yE (yE σ.ob o) o2)) (GS P vs H fr cx σ) w:=
  St.grp.1 (St.adopt hl<|St.grp.2 (ga hc).2)
 have⟨b',G,J,hG,hH,hs⟩:=hg.openO 0 O W;rw[hv]at J;cases J;have hr:=Sub.rowT0 (YT<|xX (vs o)++[vs o2]) cap ix j (ix.getD j 0) (getD_some 0 W);rw[Q]at B;refine(uz (f:=YT<|xX (vs o)++[vs o2]) (y':=X a) 0 O hD hF hr B (λS w ha=>zcx (by rw[<-hl];simp) hm) w hs).mono ?_;rintro v w' ⟨_,rfl,_,hI⟩;have hd:X (ix.set j (X a))=X ix:=xbe ..;have ht:=hI.closeF 0 O (by rw[hd];exact hG) hH;rw[hd,<-hv]at ht;refine sY (o:=o) (u:=cK (yN<|vs o)<|xX (vs o)++[vs o2]) l O (r8 l) (zlR<|zmN O O<|AV l D) ?_;rw[moU,hi,hz];refine SA (u:=cK (yN<|vs o)<|xX (vs o)++[vs o2]) (by show(xX (vs o)++[vs o2]).length=X (a++[ys]);simp[hl]) ht
 cases h
def zsm{k:Sg->V R}{C:TI}(T:yT P cf.tt)(U:Yo cf t=Z C){o o2:K}(D:xA cx σ x=Z (.mw o))(E:xA cx σ y=Z (.ow o2))(h:kK σ C.ty (xA cx σ x) (xA cx σ y) k=Z r):
 nQ P cx ⟨wS,.store t x y,ty,m7,xS,g⟩ σ k r:=by
 have⟨F,hc,_⟩:=YX T U;rw[D,E]at h;simp only[kK]at h;have⟨hd,h⟩:=yf h;rw[xcM]at hd;split at h;rename_i a n s ys q G Y hm
 refine⟨_,h,xbB _,λfr vs H w hR=> ?_⟩;have⟨z,J⟩:=hR;have⟨S0,_,j⟩:=J.ex;have hn:ev H x=yN (vs o):=zj D<|zO j x;have hq:ev H y=vs o2:=zj E<|zO j y;have L:=nK hd G Y J;have⟨hg,_⟩:(vs o2).oneCell'=true/\_:=wE L (i:=1) (m:=mO n.rep s (vs o2) ys) O λS hp=>DS hp;have⟨hl,h1⟩:=St.unpr<|St.grp.1 L;have h1:St fr.we fr.Se (mP (YT<|xX<|vs o).c a (yN<|vs o) 0::mO n.rep s (vs o2) ys::OS vs fr cx (yE (yE σ.ob o) o2)) (GS P vs H fr cx σ) w:=h1;have⟨b,M,h2⟩:=h1.openP 0 O;have hi:=DW hl;have h3:=h2.conv (i:=0) (m:=mB (YT<|xX<|vs o).c a b 0) (m':=mB (YT<|xX (vs o)++[vs o2]).c a b 0) O O λS hp=>by
  have⟨cs,g1,u,l,A,B⟩:=hp;exact⟨cs,g1,u,by rw[xaZ (xaz.1 l).1];exact l,A,B⟩
 rw[hm]at hc;refine(uz (e:=(YT<|xX (vs o)++[vs o2]).c) (f:=YT<|xX (vs o)++[vs o2]) (z':=0) (y':=1) (up:=id) 0 O (hn.trans M) hq (Sub.self (YT<|xX (vs o)++[vs o2]) 0) hc (λS w ha=>zcx (by rw[hi];rfl) hg) w h3).mono ?_;rintro v w' ⟨_,rfl,_,hr⟩;have h4:St fr.we fr.Se (mB (YT<|xX (vs o)++[vs o2]).c a b 1::mO n.rep s (vs o2) ys::OS vs fr cx (yE (yE σ.ob o) o2)) (GS P vs H fr cx σ) w':=hr;have h5:=h4.conv (i:=0) (m:=mB (YT<|xX (vs o)++[vs o2]).c a b 1) (m':=mB (YT [vs o2]).c a b 0) O O λS hp=>by
  have⟨cs,g1,u,l,A,B⟩:=hp;refine⟨cs,g1,u,?_,A,B⟩;rw[hi]at l;exact l
 have Q:=h5.toP 0 O;rw[<-M]at Q;have h7:St fr.we fr.Se (mP (YT [vs o2]).c a (yN<|vs o) 0::mO n.rep s (vs o2) ys::OS vs fr cx (yE (yE σ.ob o) o2)) (GS P vs H fr cx σ) w':=Q;refine sY (o:=o) (u:=cK (yN<|vs o) [vs o2]) z O (r8 z) (tK<|by rw[wj,ua<|AV z G];rfl) ?_;rw[moU];exact St.grp.2<|St.pr (p:=X ([vs o2]:N wW)=1) O h7;cases h
def zrt{k:Sg->V R}{B:TI}(U:yT P cf.tt)(Y:Yo cf t=Z B){o o2 a n0 i}(C:xA cx σ x=Z (.vf o a n0 i))(D:xA cx σ y=Z (.ow o2))(h:kK σ B.ty (xA cx σ x) (xA cx σ y) k=Z r):
 nQ P cx ⟨wS,.store t x y,ty,m7,xS,g⟩ σ k r:=by
 have⟨F,hc,_⟩:=YX U Y;rw[C,D]at h;simp only[kK]at h;have⟨hd,h⟩:=yf h;rw[xcM]at hd;split at h;rename_i s1 E c E1 n j z s3 E3 ys G ht;have⟨J,h0⟩:=yf h;rw[xae,xae,xae,xae]at J;have⟨⟨⟨g1,q⟩,g3⟩,g4,g5⟩:=J;obtain rfl:=yb g1;obtain rfl:=yb q;obtain rfl:=yb g4;obtain rfl:=KR g5;have hu:=KR g3;have⟨hv,hw⟩:=yq h0;cases hv;refine⟨_,hw,xbB _,λfr vs H w hR=> ?_⟩;have⟨A,K⟩:=hR;have⟨S0,_,s⟩:=K.ex;have⟨l,f,hi,hf,hz⟩:=zj C<|zO s x;have hA:ev H y=vs o2:=zj D<|zO s y;have L:=nK hd G ht K;have⟨hk,_⟩:(vs o2).oneCell'=true/\_:=wE L (i:=1) (m:=mO c.rep E1 (vs o2) ys) O λS hp=>DS hp;have⟨⟨hl,hC⟩,h1⟩:=St.unpr<|St.grp.1 L;have h1:St fr.we fr.Se (mP (eH a.rep (X2<|xl n0 a i) (Zj c (xl n0 a i) [])<|xX<|vs o) E (yN<|vs o) (z,0)::mO c.rep E1 (vs o2) ys::OS vs fr cx (yE (yE σ.ob o) o2)) (GS P vs H fr cx σ) w:=h1;have⟨b,M,h2⟩:=h1.openP 0 O;have Q:=DW hl;obtain rfl:l=b:=by rw[M]at hi;cases hi;rfl
 have hn:X2 (xl n0 a i)=f.off:=by rw[hf];rfl
 have hq:ev H x=.pointer (Z ⟨l,X2<|xl n0 a i,wS⟩):=by rw[hn];exact hz.trans<|by rw[xaD]
 have h3:=h2.conv (i:=0) (m:=mB (eH a.rep (X2<|xl n0 a i) (Zj c (xl n0 a i) [])<|xX<|vs o) E l (z,0)) (m':=mB (eH a.rep (X2<|xl n0 a i) (Zj c (xl n0 a i) [])<|xX (vs o)++[vs o2]) E l (z,0)) O O λS hp=>by
  have⟨cs,g1,q⟩:=hp;exact⟨cs,g1,zlb q⟩
 rw[hu]at hc;refine(uz (e:=eH a.rep (X2<|xl n0 a i) (Zj c (xl n0 a i) [])<|xX (vs o)++[vs o2]) (f:=YT<|xX (vs o)++[vs o2]) (z':=0) (y':=1) (up:=λr=>(z,r)) 0 O hq hA Sub.hole hc (λS w ha=>zcx (by rw[Q];rfl) hk) w h3).mono ?_;rintro v w' ⟨_,rfl,_,hD⟩;have h4:St fr.we fr.Se (mB (eH a.rep (X2<|xl n0 a i) (Zj c (xl n0 a i) [])<|xX (vs o)++[vs o2]) E l (z,1)::mO c.rep E1 (vs o2) ys::OS vs fr cx (yE (yE σ.ob o) o2)) (GS P vs H fr cx σ) w':=hD;have h5:=h4.conv (i:=0) (m:=mB (eH a.rep (X2<|xl n0 a i) (Zj c (xl n0 a i) [])<|xX (vs o)++[vs o2]) E l (z,1)) (m':=mB (eH a.rep (X2<|xl n0 a i) (Zj c (xl n0 a i) []) [vs o2]) E l (z,0)) O O λS hp=>by
  have⟨cs,g1,q⟩:=hp;exact⟨cs,g1,zq3 (by rw[Q];rfl) q⟩
 have T:=h5.toP 0 O;rw[<-M]at T;have h7:St fr.we fr.Se (mP (eH a.rep (X2<|xl n0 a i) (Zj c (xl n0 a i) []) [vs o2]) E (yN<|vs o) (z,0)::mO c.rep E1 (vs o2) ys::OS vs fr cx (yE (yE σ.ob o) o2)) (GS P vs H fr cx σ) w':=T;refine sY (o:=o) (u:=cK (yN<|vs o) [vs o2]) A O (r8 A) (tK<|by rw[wj,ua<|AV A G];rfl) ?_;rw[moU];exact St.grp.2<|St.pr (p:=X ([vs o2]:N wW)=1/\vrP c (xl n0 a i)) ⟨O,hC⟩ h7;cases h
def zjs{k:Sg->V R}{u:TI}(Q:yT P cf.tt)(T:Yo cf t=Z u){o n i j E:K}{s a:Ty}{z:s.D}{f:Fl s.D}{X:s.D->Od}{rest:wW->N MF}
 (A:∀vs z,Ug vs (o,X z)=Fo (mPr (Ap (xX<|vs o)=1/\vrP a (xl n s j))::mP (eH s.rep (X2<|xl n s j) (Zj a (xl n s j) [])<|xX<|vs o) E (yN<|vs o) (z,0)::rest (vs o)))
 (U:xA cx σ x=Z (.vf o s n i)) (c:xB σ.ob o=Z (X z)) (hn:i≠j) (C:xl n s i=Z f) (h:ju (Ty.same f.f u.ty).isSome (Dj (xA cx σ y) f.f λy=>B (f.set y z) λz=>k ⟨σ.nx,σ.rg,kj σ.ob o<|X z⟩)=Z r):
 nQ P cx ⟨wS,.store t x y,ty,m7,xS,g⟩ σ k r:=by
 have⟨F,hc,_⟩:=YX Q T;have⟨Y,h⟩:=yf h;have hp:=KR Y;have⟨q,l,hq⟩:=QM h;have⟨z2,hr,h⟩:=wK l;refine⟨_,h,Nm _,λfr vs H w hR=> ?_⟩;have⟨hB,hd⟩:=hR;have⟨S0,_,m⟩:=hd.ex;have h0:=qT c hd;rw[A]at h0;have⟨⟨hl,G⟩,h1⟩:=St.unpr<|St.grp.1 h0;have⟨b,J,l⟩:=h1.openP 0 O;have⟨b',f',hi,L,ht⟩:=zj U<|zO m x;obtain rfl:b'=b:=by rw[J]at hi;cases hi;rfl
 rw[C]at L;cases L;rw[<-hp]at hc;refine(uz (e:=eH s.rep (X2<|xl n s j) (Zj a (xl n s j) [])<|xX<|vs o) (f:=f.f.rep) (z':=f.get z) (y':=q) (up:=λy=>(f.set y z,0)) 0 O (ht.trans<|by rw[xaD]) O (zd3 G C hn) hc (λS w ha=>hq P vs H S w<|zO ha y) w l).mono ?_;rintro v w' ⟨_,rfl,_,hu⟩;refine mH (vs:=vs) hB c<|sF c ?_;have M:=hu.toP 0 O;rw[<-J]at M;rw[A,hr];exact St.grp.2<|St.pr (p:=Ap (xX<|vs o)=1/\vrP a (xl n s j)) ⟨hl,G⟩ M
def zsq{k:Sg->V R}{J:TI}(hT:yT P cf.tt)(hm:Yo cf t=Z J){o n2 i2:K}{t2:Ty}{s:t2.D}(L:xA cx σ x=Z (.mw o))(A:xA cx σ y=Z (.dz t2 s n2 i2))(h:kK σ J.ty (xA cx σ x) (xA cx σ y) k=Z r):
 nQ P cx ⟨wS,.store t x y,ty,m7,xS,g⟩ σ k r:=by
 have⟨M,hd,_⟩:=YX hT hm;rw[L,A]at h;simp only[kK]at h;split at h;rename_i s1 E a E1 n j z xs Q
 have⟨B,h0⟩:=yf h;rw[xae,xae]at B;obtain rfl:=yb B.1;obtain rfl:=yb B.2.1;have hn:=KR B.2.2;have⟨hq,hr⟩:=yq h0;subst hq;refine⟨_,hr,xbB _,λfr vs H w hR=> ?_⟩;have⟨C,hi⟩:=hR;have⟨S0,_,q⟩:=hi.ex;have ht:ev H x=yN (vs o):=zj L<|zO q x;have⟨_,f,T,hj⟩:=zj A<|zO q y;have⟨⟨hl,hu⟩,h1⟩:=St.unpr<|St.grp.1<|qT Q hi;have h1:St fr.we fr.Se (mP (eH t2.rep (X2<|xl n2 t2 i2) (Zj a (xl n2 t2 i2) [])<|xX<|vs o) E (yN<|vs o) (z,0)::mO a.rep E1 ((xX<|vs o).headD Z9) xs::OS vs fr cx (yE σ.ob o)) (GS P vs H fr cx σ) w:=h1;have h1:St fr.we fr.Se (mP (eH t2.rep (X2<|xl n2 t2 i2) (Zj a (xl n2 t2 i2) [])<|xX<|vs o) E (yN<|vs o) (z,0)::OS vs fr cx (yE σ.ob o)) (GS P vs H fr cx σ) w:=St.drop (i:=1) h1;have⟨b,U,h2⟩:=h1.openP 0 O;have h3:=h2.conv (i:=0) (m:=mB (eH t2.rep (X2<|xl n2 t2 i2) (Zj a (xl n2 t2 i2) [])<|xX<|vs o) E b (z,0)) (m':=mB (eRw t2.rep.n t2.rep.agg t2.rep.n1).c E b wS) O O λS hp=>by
  have⟨cs,g1,F⟩:=hp;exact⟨cs,g1,znZ F⟩
 rw[hn]at hd;refine(uz (e:=(eRw t2.rep.n t2.rep.agg t2.rep.n1).c) (f:=eRw t2.rep.n t2.rep.agg t2.rep.n1) (z':=wS) (y':=Z (ev H y).cells.toList) (up:=id) 0 O (ht.trans U) O (Sub.self _ _) hd (λS w G=>zpV (zj A<|zO G y).1) w h3).mono ?_;rintro v w' ⟨_,rfl,_,hv⟩;have h4:St fr.we fr.Se (mB (eRw t2.rep.n t2.rep.agg t2.rep.n1).c E b (Z (ev H y).cells.toList)::OS vs fr cx (yE σ.ob o)) (GS P vs H fr cx σ) w':=hv;have⟨off,gt,st,hc⟩:=hu;rw[hc]at T;cases T;have h5:=h4.grow (i:=0) (m:=mB (eRw t2.rep.n t2.rep.agg t2.rep.n1).c E b<|some (ev H y).cells.toList) (m':=mB (eH t2.rep off (st ([]:N a.D)) [.slice wS 0 0]) E b (s,0)) O (yJ.refl _ _) (λk hk=> .inl hk) λS _ hp G=>by
  have⟨cs,g1,_,_,F⟩:=hp;refine⟨cs,g1,?_⟩;rw[F _ O];exact znc hc (Yp (zj A<|zO G y).1) hj O
 have Y:=h5.toP 0 O;rw[<-U]at Y;have h7:St fr.we fr.Se (mP (eH t2.rep off (st ([]:N a.D)) [.slice wS 0 0]) E (yN<|vs o) (s,0)::mO a.rep E1 (.slice wS 0 0) []::OS vs fr cx (yE σ.ob o)) (GS P vs H fr cx σ) w':=(St.nilO (e:=a.rep) (E:=E1) Y).perm<|xdS ..;refine sY (o:=o) (u:=cK (yN<|vs o) [.slice wS 0 0]) C O (λe he=>C.o1 e<|Zl e he) (tK<|by rw[wj,ua<|AV C Q];rfl) ?_;rw[moU];refine St.grp.2<|St.pr (p:=X ([.slice wS 0 0]:N wW)=1/\vrP a (xl n2 t2 i2)) ⟨O,_,_,_,hc⟩ ?_;show St _ _ (mP (eH t2.rep (X2<|xl n2 t2 i2) (Zj a (xl n2 t2 i2) []) [.slice wS 0 0]) E (yN<|vs o) (s,0)::mO a.rep E1 (.slice wS 0 0) []::_) _ _;rw[hc,show Zj a (Z ⟨off,.l a,gt,st⟩) ([]:N a.D)=st ([]:N a.D)from uT λz=>rQ];exact h7;cases h
def zg8(c:yT P cf.tt){k:Sg->V R}{B:TI}(l:Yo cf t=Z B)(h:kK σ B.ty (xA cx σ x) (xA cx σ y) k=Z r):nQ P cx ⟨wS,.store t x y,ty,m7,xS,g⟩ σ k r:=by
 have h0:=h;unfold kK at h;split at h
 next o e r j f a=>exact zsM c l a h0
 next o q n0 i o2 a b=>exact zrt c l a b h0
 rename_i o q n0 i a _;split at h;rename_i C E p E1 n j z ys s;have⟨m,h1⟩:=yf h;rw[xae]at m;obtain rfl:=yb m.1;obtain rfl:=KR m.2;have⟨hc,f,v,A⟩:=zdx h1;exact zjs c l (X:=λz=> .vr q E p E1 n0 j z ys) (rest:=λu=>[mO p.rep E1 ((xX u).headD Z9) ys]) (λ_ _=>O) a s hc v A;rename_i C E p E1 n j z s;have⟨m,h1⟩:=yf h;rw[xae]at m;obtain rfl:=yb m.1;obtain rfl:=KR m.2;have⟨hc,f,v,A⟩:=zdx h1;exact zjs c l (X:=λz=> .vh q E p E1 n0 j z) (rest:=λ_=>[]) (λ_ _=>O) a s hc v A;cases h
 next o j D r a b=>exact zsn c l a b h0
 next o j o2 a b=>exact zqY c l a b h0
 next o t2 F n2 i2 a b=>exact zsq c l a b h0
 next o o2 a b=>exact zsm c l a b h0
 cases h
def Bk:∀{ob:N (K×Od)}{o p:K},o≠p->yE (yE ob o) p=yE (yE ob p) o
 |[],_,_,_=>rfl
 |(q,X)::r,o,p,h=>by
  have b:=Bk (ob:=r) h;cases h1:xah q o
  cases a:xah q p
  simp only[yE,h1,a,Wt];rw[b];simp only[yE,h1,a,Wt,WF];cases a:xah q p
  simp only[yE,h1,a,Wt,WF];simp_all
def Lh{S:K->Prop}{w:qR}{hv a:N wW}:∀{ix:N K}{cs:N wW},yQ (YT a) S ix cs w->yQ (YT<|hv++a) S (ix.map (X hv+ ·)) cs w
 |[],_,h=>h
 |r::ix,cs,⟨c,q,h1,⟨u,b,e,f⟩,i⟩=>⟨c,q,h1,⟨u,by show(hv++a)[X hv+r]? =Z u;rw[xbl<|xbH _ _,Nat.add_sub_cancel_left];exact b,e,f⟩,Lh i⟩
def Lg{α:Type}{e:zT α}{E:kW}:∀{hv c:N wW}{b a:N (N α)},X hv=X b->vF e E (hv++c) (b++a)=vF e E hv b++vF e E c a
 |[],_,[],_,_=>rfl
 |u::hv,c,xs::b,a,h=>by
  show mO e E u xs::vF e E (hv++c) (b++a)=mO e E u xs::(vF e E hv b++vF e E c a);rw[Lg<|by simpa using h]
 |[],_,_::_,_,h=>by cases h
 |_::_,_,[],_,h=>by cases h
def zpW(J:yT P cf.tt){z:Z3 ul}{ts:Z3 kW}{k:Sg->V R}(hd:wM cx d=wT)(h:zgE cf cx σ d z.toList ts.toList k=Z r):
 nQ P cx ⟨d,.call ⟨.builtin .append,z,ts⟩,ty,m7,xS,g⟩ σ k r:=by
 unfold zgE at h;split at h;rename_i _ _ x y t t' hS hU;obtain rfl:z= #[x,y]:=by cases z;simp_all
 obtain rfl:ts= #[t,t']:=by cases ts;simp_all
 split at h;rename_i s E B o p ht hx hy;have⟨F,D⟩:=yf h;rw[xae]at F;have⟨hC,hl⟩:=F;obtain rfl:=yb hC;rw[xcM]at hl;clear h;split at D;rename_i q1 q2 U A E1 C j ix s2 a F2 f q hn ho hp;have⟨F,h1⟩:=yf D;simp only[xae]at F;have⟨K,L,M⟩:=F;have K:=yb K;have L:=yb L;have M:=yb M;subst K;subst L;subst M;have⟨hD,h2⟩:=yq h1;cases hD;have⟨Y,h3⟩:=ZW h2;have⟨a0,hz,h4⟩:=wK h3;have⟨iz,hi,h5⟩:=wK h4;have hE:=zcg J hn O;have hc:=(J _ _ hn).2.1;refine⟨_,h5,xbB _,λfr vs H w hR=> ?_⟩;have⟨hB,hr⟩:=hR;have⟨S0,_,G⟩:=hr.ex;have hG:ev H x=yN (vs o):=zj hx<|zO G x;have hH:ev H y=yN (vs p):=zj hy<|zO G y;have hI:=nK hl ho hp hr;have⟨Q,hJ⟩:=ga hI;have hu:St fr.we fr.Se (Ug vs (p,.mat A a C f q)::((mO (YT<|xX<|vs o) a (yN<|vs o) ix::vF A.rep C (xX<|vs o) j)++OS vs fr cx (yE (yE σ.ob o) p))) (GS P vs H fr cx σ) w:=hJ.perm xca;have⟨hK,hL⟩:=ga hu;have hN:St fr.we fr.Se (mO (YT<|xX<|vs o) a (yN<|vs o) ix::mO (YT<|xX<|vs p) a (yN<|vs p) q::(vF A.rep C (xX<|vs o) j++vF A.rep C (xX<|vs p) f++OS vs fr cx (yE (yE σ.ob o) p))) (GS P vs H fr cx σ) w:=by refine hL.perm ?_;simp only[xbL,xar];refine(xfA _ xca).trans<|(xdS ..).trans ?_;refine xfA _<|xfA _ ?_;exact(xdW ..)
 have hO:=hN.conv (i:=0) (m:=mO (YT<|xX<|vs o) a (yN<|vs o) ix) (m':=mO (YT<|xX (vs o)++xX (vs p)) a (yN<|vs o) ix) O O λS hq=>zcZ hq;have Tq:∀m,m*U<=140737488355328->m<=9223372036854775807:=λm hm=>by
  have hc:0<U:=hc;have:=xcj m hc;lia
 have T:X (q.map (xaK j+ ·))=X q:=xan _;refine(eC (e:=YT<|xX (vs o)++xX (vs p)) (ys:=q.map (xaK j+ ·)) 0 (qB J ht) hE O xdj O hG hH (λS w hM ha=> ?_) (Tq _<|by rw[T];exact Y) (by rw[T];exact Y) w hO).mono ?_;have hm:(mO (YT<|xX<|vs p) a (yN<|vs p) q).p S w:=hM.2.1;have hw:(mO (YT<|xX (vs o)++xX (vs p)) a (yN<|vs p) (q.map (xaK j+ ·))).p S w:=by have⟨cs,a1,a2⟩:=hm;refine⟨cs,by rw[T];exact a1,?_⟩;rw[<-Q];exact Lh a2
 rcases iR hw with⟨hv,hA⟩|⟨b,cap,hv,hP,hQ⟩
 rw[hv,hA];exact⟨wS,0,O,Nm _,xaf _,.inl O⟩;have D:=NQ hw hv (l:=0) (n:=X (q.map (xaK j+ ·))) (c:=cap) W hP hQ;rw[List.drop_zero,xbR]at D;rw[hv];simpa using D
 rintro v w' ⟨v',rfl,_,hs⟩;refine KD (vs:=vs) (mk:=.mw) (u:=cK v<|xX (vs o)++xX (vs p)) hB hd (r8 hB) (λ_=>O) (λS w=>by simp only[vC,wj];rfl) ?_;rw[moU,hz,hi];have h7:St fr.we fr.Se (mO (YT<|xX (vs o)++xX (vs p)) a v (ix++q.map (xaK j+ ·))::mO (YT<|xX<|vs p) a (yN<|vs p) q::(vF A.rep C (xX<|vs o) j++vF A.rep C (xX<|vs p) f++OS vs fr cx (yE (yE σ.ob o) p))) (GS P vs H fr cx σ) w':=hs;have h8:=St.drop (i:=1) h7;refine SA (u:=cK v<|xX (vs o)++xX (vs p)) (by show(xX (vs o)++xX (vs p)).length=X (j++f);simp[Q,hK]) ?_;show St _ _ ((mO (YT<|xX (vs o)++xX (vs p)) a v _::vF A.rep C (xX (vs o)++xX (vs p)) (j++f))++_) _ _;rw[Lg Q];exact h8;cases D
 cases h
 cases h
def zeo(G:BZ P cf){s:E8}{f:ul}{c:Z3 ul}{ts:Z3 kW}{k:Sg->V R}(hd:wM cx d=wT)(J:xA cx σ f=Z (.fn s.f []))(K:s∈cf.ms)(h:Gi cx σ d s c.toList k=Z r):
 nQ P cx ⟨d,.call ⟨.value f,c,ts⟩,ty,m7,xS,g⟩ σ k r:=by
 have⟨L,M⟩:=G.ms s K;unfold Gi at h;split at h;rename_i _ x a p y hF;obtain rfl:c= #[x,a,p,y]:=by cases c;simp_all
 split at h;rename_i o r0 av pv o' lo n N Q hp S;have⟨T,j⟩:=yf h;obtain rfl:=yb T;clear h;split at j;rename_i s1 E E1 U ix z;have⟨l,h1⟩:=yf j;rw[xae]at l;have A:=yb l.1;have hi:=yb l.2;have⟨ht,Y⟩:=yq h1;cases ht;have⟨i,hz,h3⟩:=CA Y;refine⟨_,h3,xbB _,λfr vs H w hR=> ?_⟩;have⟨m,B⟩:=hR;have⟨S0,_,b⟩:=B.ex;have hw:(xX<|vs o)[r0]? =Z (ev H x):=zj N<|zO b x;have C:=va Q<|zO b a;have hl:=va hp<|zO b p;have hA:RK (yN<|vs o) lo n (ev H y):=zj S<|zO b y;have⟨q,hv,hC,hG⟩:=zj J<|zO b f;obtain rfl:q=[]:=xbt.1 hC;have D:=qT z B;rw[A,hi]at D;have hc:=M U ix r0 av pv lo n i hz (vs o) (ev H x) (ev H y) hw hA C.2 hl.2 fr.we fr.Se _ _ w D;have hn:(uP (ev H) ⟨d,.call ⟨.value f,#[x,a,p,y],ts⟩,ty,m7,xS,g⟩).run P w=.ok (.enter s.f #[ev H x,.int .i64 av,.int .i64 pv,ev H y]) w:=by simp[uP,WN,hv,xcX,V1,qb L,C.1,hl.1]
 unfold ux;rw[hn];refine hc.mono ?_;rintro e w' ⟨v,F,rfl,hu,hD⟩;refine⟨v,O,sY (o:=o) (u:=F) m hd (λe he=>m.o1 e<|Zl e he) (tK<|by rw[wj,ua<|AV m z];exact hu) ?_⟩;rw[moU];show St _ _ (B5 s.t.rep E E1 F i ix::_) _ _;rw[A,hi];exact hD;cases j
 cases h
 cases h
theorem DV{o n:K}:∀{rg:N (K×K×Dv)},∀e∈SK o n rg,e∈rg\/∃a∈rg,∃p,a.2.2=.yd p/\e=(a.1,a.2.1,bif xah p o then .yd n else .yd p)
 |[],e,he=>jp he H1
 |(t,i,v)::rg,e,he=>by
  have b:∀e∈SK o n rg,e∈(t,i,v)::rg\/∃a∈(t,i,v)::rg,∃p,a.2.2=.yd p/\e=(a.1,a.2.1,bif xah p o then .yd n else .yd p):=λe he=>by
   obtain h|⟨a,h1,p,c,f⟩:=DV e he
   simp_all;grind
  cases v with
  |yd p=>
   rcases xai.1 (show e∈(t,i,bif xah p o then Dv.yd n else .yd p)::SK o n rg from he)with rfl|he
   simp_all;exact b e he
  |_=>
   obtain rfl|he:=xai.1 he
   exact .inl<|IR;exact b e he
def zjr(hX:BZ P cf){o:K}{f:ul}{m:Z3 ul}{ts:Z3 kW}{k:Sg->V R}(hd:wM cx d=wT)(hf:xA cx σ f=Z (.yd o))(h:N9 cx σ d o m.toList k=Z r):
 nQ P cx ⟨d,.call ⟨.value f,m,ts⟩,ty,m7,xS,g⟩ σ k r:=by
 unfold N9 at h;split at h;rename_i _ x hC;obtain rfl:m= #[x]:=by cases m;simp_all
 split at h;rename_i p hx;have⟨hi,h⟩:=yf h;rw[xcM]at hi;split at h;rename_i t E X Y mX mY gg z s a ys D hp;have⟨hE,h1⟩:=yf h;have hE:=yb hE;subst hE;have⟨hm,G⟩:=yq h1;cases hm;have⟨q,hq,T⟩:=CA G
 have n:∀(fr:Fr) (vs:K->wW) (H:xj) (w:qR),fT P fr cx σ vs H w->ux P ⟨d,.call ⟨.value f,#[x],ts⟩,ty,m7,xS,g⟩ H w λv w'=>v=.bool q.2.isLeft/\Bd cx σ/\P6 P (lOf<|yN<|vs o) t.rep a mX mY gg/\
  ∃c,St fr.we fr.Se (xfi (λx=>mX x c) (λy=>mY y c) q.2::mO t.rep a (vs p) q.1::OS vs fr cx (yE (yE σ.ob o) p)) (GS P vs H fr cx σ) w':=by
  intro fr vs H w A;have⟨j,hj⟩:=A;have⟨S0,_,J⟩:=hj.ex;have hn:ev H x=vs p:=zj hx<|zO J x;have ht:ev H f=.func (.yield<|lOf<|yN<|vs o) #[] #[]:=zj hf<|zO J f;have hv:=nK hi D hp hj;have⟨F,h4⟩:=St.unpr<|St.grp.1 hv;rw[<-hX.pp]at F;have h4:St fr.we fr.Se (mX z ((xX<|vs o).headD Z9)::mO t.rep a (vs p) ys::OS vs fr cx (yE (yE σ.ob o) p)) (GS P vs H fr cx σ) w:=h4;have⟨fn,tmps,a0,a1,hy,A⟩:=F ys z q.1 q.2 hq (vs p) _ _ _ _ _ w h4;have hk:(uP (ev H) ⟨d,.call ⟨.value f,#[x],ts⟩,ty,m7,xS,g⟩).run P w=.ok (.round (lOf<|yN<|vs o) fn tmps a0 a1) w:=by rw[<-hn]at hy;simp[uP,WN,ht,xcX,V1,hy]
  unfold ux;rw[hk];exact A.mono λe w' ⟨U,h6⟩=>⟨_,U,O,j,F,h6⟩
 have L:∀(B:Od) (b:ut) (c:wW) (vs:K->wW) (fr:Fr) (H:xj) (w':qR),Bd cx σ->St fr.we fr.Se (Ug (Wu vs σ.nx<|cK (yN<|vs o) [c]) (σ.nx,B)::mO t.rep a (vs p) q.1::OS vs fr cx (yE (yE σ.ob o) p)) (GS P vs H fr cx σ) w'->
  pj P fr cx σ.nx vs ⟨σ.nx+1,SK o σ.nx<|qI σ.rg d [(0,.kb b)],(σ.nx,B)::yE (kj σ.ob p (.own t a q.1)) o⟩ (put H d (.bool b)) w':=by
  intro B b c vs fr H w' j C;have hc:p≠o:=λe=>by subst e;simp at hi
  have hw:=AV j D;have hD:xB (yE σ.ob o) p=Z (.own t a ys):=by rw[cG hc];exact hp
  have hz:St fr.we fr.Se (Ug (Wu vs σ.nx<|cK (yN<|vs o) [c]) (σ.nx,B)::OS vs fr cx (yE (kj σ.ob p (.own t a q.1)) o)) (GS P vs H fr cx σ) w':=by
   have h7:=jG (vs:=vs) (fr:=fr) (cx:=cx) (ob:=yE (kj σ.ob p (.own t a q.1)) o) (o:=p) (X:=.own t a q.1) (by rw[cG hc];exact(QA hp).1);have h8:yE (yE (kj σ.ob p (.own t a q.1)) o) p=yE (yE σ.ob o) p:=by rw[Bk<|λe=>hc e.symm,(QA hp).2,Bk<|λe=>hc e]
   rw[h8]at h7;exact C.perm<|h7.symm.cons _
  have⟨M,hA⟩:fT P fr cx ⟨σ.nx+1,qI σ.rg d [(0,.kb b)],(σ.nx,B)::yE (kj σ.ob p (.own t a q.1)) o⟩ (Wu vs σ.nx<|cK (yN<|vs o) [c]) (put H d (.bool b)) w':=by
   have hl:∀e∈yE (kj σ.ob p (.own t a q.1)) o,e.1<σ.nx:=λe he=>by
    have⟨e1,g1,g2⟩:=Qn hp e<|Zl e he;rw[<-g2];exact j.o1 e1 g1
   refine Nh (m6:=⟨σ.nx+1,qI σ.rg d [(0,.kb b)],(σ.nx,B)::yE (kj σ.ob p (.own t a q.1)) o⟩) (l:=[(0,.kb b)]) (vs:=vs) (Γl:=[]) j hd O (xbB _) (λo D=>ua D) (λe he p hp=> ?_) (λe he=> ?_) (λS w _ e he=> ?_) ?_;obtain rfl:=xad.1 he;cases hp
   obtain rfl|he:=xai.1 he
   exact xdL _;exact Nat.lt_succ_of_lt<|hl e he;obtain rfl:=xad.1 he;exact O;show St _ _ (Ug (Wu vs σ.nx _) (σ.nx,B)::OS (Wu vs σ.nx _) fr cx (yE (kj σ.ob p (.own t a q.1)) o)) _ _;rw[NJ j hl];exact hz
  refine⟨_,λo D=>ua D,⟨M.o1,M.o2,λe he r hr=> ?_,M.r2⟩,hA.weak λS w h=>zC.append (ud.2 λf hf=> ?_)<|zC.right h⟩;obtain h|⟨N,h1,r',G,rfl⟩:=DV e he
  exact M.r1 e h r hr;cases hb:xah r' o<;>simp only[hb,WF,Wt]at hr
  exact M.r1 N h1 r<|by rw[G];exact hr
  cases hr;exact xdL _
  obtain⟨e,he,rfl⟩:=xat.1 hf;obtain h'|⟨N,h1,r',G,rfl⟩:=DV e he
  exact Kv (zC.left h) h';have U:=Kv (zC.left h) (t:=N.1) (i:=N.2.1) (d:=N.2.2) h1;rw[G]at U;refine Kd U λu Q=> ?_;cases hb:xah r' o
  exact Q;have Q:u=.func (.yield<|lOf<|yN<|Wu vs σ.nx (cK (yN<|vs o) [c]) r') #[] #[]:=Q;rw[yb hb,ua hw]at Q;show u=.func (.yield<|lOf<|yN<|Wu vs σ.nx (cK (yN<|vs o) [c]) σ.nx) #[] #[];rw[wj];exact Q
 cases hg:q.2 with
 |inl z'=>
  rw[hg]at T;refine⟨_,T,xbB _,λfr vs H w A=>(n fr vs H w A).mono ?_⟩;rintro v w' ⟨rfl,j,F,c,C⟩;rw[hg]at C⊢;refine L _ wT c vs fr H w' j ?_;rw[moU];refine St.grp.2 ?_;rw[<-hX.pp];exact St.pr F C
 |inr y'=>
  rw[hg]at T;refine⟨_,T,xbB _,λfr vs H w A=>(n fr vs H w A).mono ?_⟩;rintro v w' ⟨rfl,j,F,c,C⟩;rw[hg]at C⊢;refine L _ I c vs fr H w' j ?_;rw[moU];exact C
 cases h
 cases h
 cases h
def zas{o:K}{s:Ty}{E:kW}{xs:N s.D}{S:K->Prop}(a:(fV (eS s.rep) xs<|vs o).p S w):∀{rg:N (K×K×Dv)},zC S (RS P vs H rg) w->zC S (RS P vs H<|Iq o (.own s E xs) rg) w
 |[],_=>trivial
 |(t,i,v)::rg,h=>by
  refine⟨?_,zas a h.2⟩;have h1:=h.1;cases v<;>try exact h1
  rename_i b;unfold Ni;cases c:xah b o<;>simp only[c]
  exact h1;have:=yb c;subst this;refine Kd h1 λu e=> ?_;rw[show u=vs b from e];exact a
def Ry{o:K}{s:Ty}{E:kW}{z:s.D}{S:K->Prop}(a:(fP s.rep z<|vs o).p S w):∀{rg:N (K×K×Dv)},zC S (RS P vs H rg) w->zC S (RS P vs H<|Iq o (.var s E z) rg) w
 |[],_=>trivial
 |(t,i,v)::rg,h=>by
  refine⟨?_,Ry a h.2⟩;have h1:=h.1;cases v<;>try exact h1
  rename_i b f;unfold Ni;cases c:xah b o<;>simp only[c]
  exact h1;have:=yb c;subst this;refine Kd h1 λu e=> ?_;rw[show u=vs b from e.1];exact a
def zal{o:K}{s:Ty}{E E1:kW}{a:N (N s.D)}{ix:N K}{S:K->Prop}(b:(fV (eS<|eS s.rep) (zet a ix)<|yN<|vs o).p S w):∀{rg:N (K×K×Dv)},zC S (RS P vs H rg) w->zC S (RS P vs H<|Iq o (.mat s E E1 a ix) rg) w
 |[],_=>trivial
 |(t,i,v)::rg,h=>by
  refine⟨?_,zal b h.2⟩;have h1:=h.1;cases v<;>try exact h1
  rename_i c;unfold Ni;cases e:xah c o<;>simp only[e]
  exact h1;have:=yb e;subst this;refine Kd h1 λu f=> ?_;rw[show u=yN (vs c)from f];exact b
def zcB{o:K}{t s:Ty}{E E1 n i:K}{z:t.D}{xs:N s.D}{S:K->Prop}(a:(fP t.rep (Zj s (xl n t i) xs z)<|yN<|vs o).p S w):∀{rg:N (K×K×Dv)},zC S (RS P vs H rg) w->zC S (RS P vs H<|Iq o (.vr t E s E1 n i z xs) rg) w
 |[],_=>trivial
 |(u,j,v)::rg,h=>by
  refine⟨?_,zcB a h.2⟩;have h1:=h.1;cases v<;>try exact h1
  rename_i b;unfold Ni;cases c:xah b o<;>simp only[c]
  exact h1;have:=yb c;subst this;refine Kd h1 λu e=> ?_;rw[show u=yN (vs b)from e];exact a
def cU{o:K}{X:Od}(a:∀v,Ni o X v=v):∀{rg:N (K×K×Dv)},Iq o X rg=rg
 |[]=>rfl
 |(t,i,v)::rg=>by
  show(t,i,Ni o X v)::Iq o X rg=_;rw[a,cU a]
def zfP{o p:K}{X:Od}{v:Dv}(h:vv (Ni o X v)=Z p):vv v=Z p:=by
 unfold Ni at h;split at h;rename_i a s E xs;cases b:xah a o<;>rw[b]at h
 exact h;cases h
 rename_i a c s E z;cases b:xah a o<;>rw[b]at h
 exact h;cases h
 rename_i a s E E1 e ix;cases b:xah a o<;>rw[b]at h
 exact h;cases h
 rename_i a t E s E1 n i z xs;cases b:xah a o<;>rw[b]at h
 exact h;cases h
 exact h
theorem Sl{o:K}{X:Od}:∀{rg:N (K×K×Dv)},∀e∈Iq o X rg,∀p,vv e.2.2=Z p->∃a∈rg,vv a.2.2=Z p
 |[],e,he=>jp he H1
 |(t,i,v)::rg,e,he=>by
  intro p hp;obtain rfl|he:=xai.1 he
  refine⟨(t,i,v),IR,?_⟩;exact zfP hp;have⟨a,h1,b⟩:=Sl e he p hp;grind
theorem Ml{o:K}(h:fT P fr cx σ vs H w):fT P fr cx (Tr σ o) vs H w:=by
 unfold Tr;split;rename_i X ho;have⟨m,hc⟩:=h;have⟨i,hi,_,hd⟩:=vi ho;have G:Bd cx ⟨σ.nx,Iq o X σ.rg,yE σ.ob o⟩:=⟨λe A=>m.o1 e<|Zl e A,m.o2,λe A p hp=>by have⟨J,h1,f⟩:=Sl e A p hp;exact m.r1 J h1 p f,m.r2⟩;refine⟨G,?_⟩
 cases X with
 |own s E xs=>
  have q:(OS vs fr cx σ.ob)[i]? =Z (mO s.rep E (vs o) xs):=Km hi;have:=Ou i hc q;rw[gn hi,<-hd]at this;exact this.weak λS w a=>zC.append (zas a.1<|zC.left a.2)<|zC.right a.2
 |var s E z=>
  have q:(OS vs fr cx σ.ob)[i]? =Z (mP s.rep.c E (vs o) z):=Km hi;have⟨b,hv,u⟩:=hc.openP i q;have:=zpq (e:=s.rep) i u<|vA q;rw[BA,gn hi,<-hd,<-hv]at this;exact this.weak λS w a=>zC.append (Ry a.1<|zC.left a.2)<|zC.right a.2
 |mat s E E1 L ix=>
  have h1:=qT ho hc;have f:St fr.we fr.Se (zmb s.rep E E1 (yN<|vs o) (xX<|vs o) L ix::OS vs fr cx (yE σ.ob o)) (GS P vs H fr cx σ) w:=St.grp.2 (ga h1).2;exact(f.mat_frz (ga h1).1).weak λS w a=>zC.append (zal a.1<|zC.left a.2)<|zC.right a.2
 |vr t E s E1 n i z xs=>
  have h1:=qT ho hc;have f:=h1.freeze (i:=0) (F:=fP t.rep (Zj s (xl n t i) xs z)<|yN<|vs o) O λS S' u B hp=>by
   have⟨⟨⟨hl,M⟩,⟨b,hv,cs,g1,j⟩,hn,_⟩,_⟩:=hp;have j:(eH t.rep (X2<|xl n t i) (Zj s (xl n t i) [])<|xX<|vs o).p S (z,0) cs.toList w:=j;refine⟨b,0,cs.toList,hv,B b ⟨_,FS _<|IR,by show zil (yN<|vs o)=Z b;rw[hv];rfl⟩,At.row g1,?_⟩;have⟨off,Q,st,C⟩:=M;rw[C]at j⊢;rw[show Zj s (Z ⟨off,.l s,Q,st⟩) ([]:N s.D)=st ([]:N s.D)from uT λz=>rQ]at j;rw[rQ];exact zqq C j (by rw[DW hl];rfl) u<|rP u (λk T=>B k ⟨_,FS _<|FS _<|IR,T⟩) hn
  exact f.weak λS w a=>zC.append (zcB a.1<|zC.left a.2)<|zC.right a.2
 |vh t E s E1 n i z=>
  rw[cU<|λv=>by cases v<;>rfl];exact St.drop (i:=0)<|qT ho hc
 |bo s E U xs=>
  rw[cU<|λv=>by cases v<;>rfl];exact St.drop (i:=0)<|qT ho hc
 |ho U=>
  rw[cU<|λv=>by cases v<;>rfl];exact St.drop (i:=0)<|qT ho hc
 |hid t E X Y mX V g x=>
  rw[cU<|λv=>by cases v<;>rfl];exact St.drop (i:=0)<|qT ho hc
 |hiy Y V y=>
  rw[cU<|λv=>by cases v<;>rfl];exact St.drop (i:=0)<|qT ho hc
 exact h
theorem zif(x:ul)(h:fT P fr cx σ vs H w):fT P fr cx (frz cx σ x) vs H w:=by grind [frz,Ml]
def ND(x:ul)(h:uK P fr cx σ H w):uK P fr cx (frz cx σ x) H w:=by have⟨a,vs,b⟩:=h;have⟨h1,c⟩:=zif x ⟨a,b⟩;exact⟨h1,vs,c⟩
def EJ:∀(l:N ul) {σ:Sg},uK P fr cx σ H w->uK P fr cx (zld cx σ l) H w
 |[],_,h=>h
 |x::r,_,h=>EJ r<|ND x h
def zbW{f:XS}:∀{cs:N Wq}{s:Wq},zfp f cs=Z s->s∈cs/\s.f=f/\s.bk=1
 |c::cs,s,h=>by
  unfold zfp at h;split at h;rename_i h1 i j k;cases e:xah c.f f<;>rw[e]at h
  have⟨a,b⟩:=zbW h;exact⟨FS _ a,b⟩;simp_all;have⟨a,b⟩:=zbW h;exact⟨FS _ a,b⟩
def ztW(B:∀s∈cf.cs,yU P s){f:ul}{f':XS}{o:K}{C:Ty}{s:Wq}{a:Z3 ul}{ts:Z3 kW}{k:Sg->V R}(hd:wM cx d=wT)(D:xA cx σ f=Z (.bm f' o C))(ht:a.toList=[])
 (F:zfp f' cf.cs=Z s) (h:mBm σ d s o k=Z r):nQ P cx ⟨d,.call ⟨.value f,a,ts⟩,ty,m7,xS,g⟩ σ k r:=by
 have⟨h1,j,G⟩:=zbW F;have hc:=B s h1;unfold mBm at h;split at h;rename_i f0 t E t2 q M bk J E' y m;have⟨u,L⟩:=yf h;have⟨hn,N⟩:=yq L;subst hn;have⟨z,Q,T⟩:=CA N;rw[xae,xae]at u;obtain rfl:=yb u.1;obtain rfl:bk=1:=G;obtain rfl:a= #[]:=by cases a;simp_all
 refine⟨_,T,Nm _,λfr vs H w U=> ?_⟩;have⟨v,hi⟩:=U;have⟨S0,_,n⟩:=hi.ex;have⟨hv,b,Y⟩:=zj D<|zO n f;have A:=hc.2 (y,()) z Q [vs o] O;have hk:(uP (ev H) ⟨d,.call ⟨.value f,#[],ts⟩,ty,m7,xS,g⟩).run P w=.ok (.enter f' #[vs o]) w:=by simp[uP,WN,hv,xcX,V1,qb<|j▸hc.1]
 have hl:St fr.we fr.Se (mP J.rep.c E (vs o) y::OS vs fr cx (yE σ.ob o)) (nJ (∃b,vs o=.pointer (Z ⟨b,0,wS⟩))::GS P vs H fr cx σ) w:=(qT m hi).weak λS w p=>⟨⟨b,Y⟩,p⟩;unfold ux;rw[hk];rw[show f0=f' from j]at A;refine(A fr.we fr.Se _ _ w hl).mono ?_;rintro e w' ⟨us,i,⟨hu,hp⟩,hq⟩;obtain rfl:us=[vs o]:=hp;refine⟨_,i,?_⟩;refine KA (m6:=⟨σ.nx,qI σ.rg d [],kj σ.ob o (.var t2 q z)⟩) (d:=d) (l:=[]) (vs:=vs) (i9:=vs) (Γl:=[]) v hd O (Nm _) (λ_ _=>O) (λ_ i=>jp i H1) (λe i=> ?_) (λS w _ e i=>jp i H1) ?_;have⟨e',h1,j⟩:=Qn m e i;rw[<-j];exact v.o1 e' h1;refine sF m ?_;have hr:St fr.we fr.Se (mP t2.rep.c q (vs o) z::OS vs fr cx (yE σ.ob o)) (nJ (∃b,vs o=.pointer (Z ⟨b,0,wS⟩))::GS P vs H fr cx σ) w':=hq;exact hr.weak λS w p=>p.2;cases h
def zpn(a:yT P cf.tt)(b:uf P cf.tt)(c:∀s∈cf.cs,yU P s)(e:BZ P cf){l:Op}{k:Sg->V R}(hd:wM cx d=wT)(h:zqs cf cx σ d l k=Z r):
 nQ P cx ⟨d,l,ty,m7,xS,g⟩ σ k r:=by
 unfold zqs at h;split at h;exact zml a hd h;rename_i E x;cases m:zog cf d<;>rw[m]at h
 exact m_E a b c e hd h;exact zqZ hd h;rename_i t x y;have⟨hn,h⟩:=yf h;have hn:d=wS:=by simpa using hn
 subst hn;split at h
 next u hc=>exact zlz a hc h
 cases h
 exact zo1 a hd h;exact zrq a b hd h;rename_i t x hi;split at h
 next o n=>exact zmV a b hd n h
 exact m_E a b c e hd h;exact zsh a hd h;exact zoz a b hd h;rename_i f p ts;split at h;rename_i f' cs i;split at h
 next s j=>exact zn3 c hd i j h
 exact m_E a b c e hd h;rename_i f' o t i;split at h
 next s q j=>exact ztW c hd i q j h
 cases h
 exact m_E a b c e hd h;exact m_E a b c e hd h
def zro(b:yT P cf.tt)(l:uf P cf.tt)(m:∀s∈cf.cs,yU P s)(e:BZ P cf){i:Op}{k:Sg->V R}(hd:wM cx d=wT)(h:mOp cf cx σ d i k=Z r):
 nQ P cx ⟨d,i,ty,m7,xS,g⟩ σ k r:=by
 unfold mOp at h
 cases hc:coM cf cx σ d i with
 |no=>rw[hc]at h;exact zpn b l m e hd h
 |_=>
  rw[hc]at h;simp only[mCo]at h;unfold coM at hc;split at hc
  ·next t x y=>
   cases a:zcm (xA cx σ x)<;>rw[a]at hc<;>cases hc
   all_goals
    have⟨hn,h⟩:=yf h
    have hn:d=wS:=by simpa using hn
    subst hn
    split at h
    ·next A p=>exact zg8 b p h
    ·cases h
  ·next t x y=>
   cases a:zbO cf d<;>rw[a]at hc<;>cases hc;all_goals exact zkE b hd h
  ·next t n ps=>
   cases a:zbO cf d<;>rw[a]at hc<;>cases hc;all_goals exact zn2 b l hd h
  ·next E=>
   cases a:zbO cf d||(zbX cf d).isSome<;>rw[a]at hc<;>cases hc
   all_goals exact zgn b hd h
  ·next t ps=>
   cases a:(zbX cf d).isSome<;>rw[a]at hc<;>cases hc;all_goals exact zhP b hd h
  ·next t x=>
   split at hc
   ·next o q=>cases hc<;>exact zkY b hd q h
   ·split at hc
    ·next o u=>cases hc<;>exact zmu b hd u h
    ·cases hc
  ·next c ts=>
   cases a:c.toList.any (λx=>zh0<|xA cx σ x)<;>rw[a]at hc<;>cases hc;all_goals exact zpW b hd h
  ·next f c ts=>
   split at hc
   ·next o j=>cases hc<;>exact zjr e hd j h
   ·next f' j=>
    split at hc
    ·next s v=>
     have⟨h1,z⟩:=ziD v;subst z;cases hc<;>exact zeo e hd j h1 h
    ·cases hc
   ·cases hc
  ·cases hc
def ziy(n:yT P cf.tt)(o:uf P cf.tt)(i:∀s∈cf.cs,yU P s)(j:BZ P cf){b:Op}{kp:PX->Sg->V R}{k:Sg->V R}(hd:wM cx d=wT)(h:zlE cf cx σ d b kp k=Z r):
 nQ P cx ⟨d,b,ty,m7,xS,g⟩ σ k r\/zm5 P cx ⟨d,b,ty,m7,xS,g⟩ σ kp r:=by
 unfold zlE at h;split at h;rename_i p u cs hp;unfold zmd at hp;split at hp;rename_i f l ts;split at hp;rename_i f' v z;split at hp;rename_i G A;cases hp;have⟨h1,B⟩:=zi0 A;exact zqR i hd z (j.ps _ h1) B h
 cases hp
 cases hp
 cases hp
 split at h;rename_i x a;unfold zrH at a;split at a;rename_i J;cases a;split at h
 rename_i q C;refine .inr ⟨q,σ,h,O,λfr vs H w D=> ?_⟩;have⟨E,m⟩:=D;have⟨S0,_,e⟩:=m.ex;have hv:ev H x=.iface q.1 (.agg #[.int .i64 q.2]):=zj C<|zO e x;refine⟨λc hc=>(by cases hc),?_⟩;have F:(uP (ev H) ⟨d,.panic x,ty,m7,xS,g⟩).run P w=.halt (.panic (.iface q.1 (.agg #[.int .i64 q.2]))) w:=by simp[uP,Instr.panic,hv,goPanic]
 rw[F];exact⟨O,E,m⟩;cases h
 cases a
 exact .inl<|zro n o i j hd h
theorem zhr{t:Wf}:put H (Z t) (H t)=H:=by grind [ED,oZ]
def rU{t:Wf}{b:ut}(hn:Wx cx.rg t=wT)(hv:H t=.bool b)(h:uK P fr cx σ H w):uK P fr cx (Pq σ t b) H w:=by
 have⟨c,vs,f⟩:=h
 have:=pj.rel<|KA (d:=Z t) (m6:=Pq σ t b) (Γl:=[]) c hn O (Nm _) (λ_ _=>O)
  (λe a o i=>by obtain rfl:=xad.1 a;cases i) c.o1 (λS w _ e a=>by obtain rfl:=xad.1 a;exact hv) f
 rwa[zhr]at this
def sC{t:Wf}{x:ut}{S:K->Prop}(h:get cx σ t 0=Z (.d .b x))(hl:Lk P vs H S w cx σ t):H t=.bool x:=sO<|hl 0 _ h
def Sa{b:ut}{a c:V R}(h:ifB b a c=Z r):(b=wT/\a=Z r)\/(b=I/\c=Z r):=by
 cases b
 exact .inr ⟨O,h⟩;exact .inl ⟨O,h⟩
theorem zl3{c:N Xs}{o:Xs}{k:Sg->ut->V R}(h:BK cx c o σ k=Z r)(p:uK P fr cx σ H w):∃m6 b,k m6 b=Z r/\uK P fr cx m6 H w/\yX c.toArray H o=b:=by
 have f:=p;have⟨q,vs,hd⟩:=p;have⟨S,_,e⟩:=hd.ex;unfold BK at h;split at h
 next n=>exact⟨σ,wT,h,f,by unfold yX;rw[n]⟩
 rename_i j a n;split at h;rename_i s u;split at h;rename_i t ht;have hc:∀{v},H t=v->gd c.toArray H j=(match v with|.bool b=>Z b|_=>wS):=by rintro v rfl;unfold gd;grind
 have m:yX c.toArray H o=(gd c.toArray H j==Z a):=by unfold yX;rw[n]
 split at h;rename_i b i;have hv:H t=.bool b:=Y9 e t 0 _ i;refine⟨σ,_,h,f,?_⟩;rw[m,hc hv];cases b<;>cases a<;>rfl
 rename_i i;have hv:H t=Z9:=Y9 e t 0 _ i;refine⟨σ,_,h,f,?_⟩;rw[m,hc hv];rfl;rename_i x i;have⟨hn,h⟩:=yf h;have hv:H t=.bool x:=sC i<|Y9 e t;rcases Sa h with⟨l,h⟩|⟨l,h⟩
 exact⟨_,_,h,rU hn (hv.trans<|Z2 xeK l) f,by rw[m,hc<|hv.trans<|Z2 xeK l];cases a<;>rfl⟩;exact⟨_,_,h,rU hn (hv.trans<|Z2 xeK l) f,by rw[m,hc<|hv.trans<|Z2 xeK l];cases a<;>rfl⟩;cases h
 cases h
 cases h
theorem zoq{o:Xs}{k:Sg->V R}(h:L7 cx o σ k=Z r)(c:uK P fr cx σ H w):∃m6,k m6=Z r/\uK P fr cx m6 H w:=by
 have e:=c;have⟨i,vs,hc⟩:=c;have⟨S,_,a⟩:=hc.ex;unfold L7 at h;split at h;rename_i t _ _ _;split at h;rename_i x f;have⟨hn,h⟩:=yf h;have hv:=sC f<|Y9 a t;rcases Sa h with⟨b,h⟩|⟨b,h⟩
 exact⟨_,h,rU hn (hv.trans<|Z2 xeK b) e⟩;exact⟨_,h,rU hn (hv.trans<|Z2 xeK b) e⟩;grind;grind
def zo0{N:Nd}{b:Z3 Xs}{o:Xs}{rest:ww Xs}{Q:Qs}(c:yX b H o=wT)(hd:jM N.n o.dst=wT)(h:ux P o H w (λv w'=>WpL P N b rest Q (put H o.dst v) w')):WpL P N b (o::rest) Q H w:=by intro a h1 e f;subst f;unfold WW;rw[iq<|by rw[W0];exact c];refine h.wp λv w' i=> ?_;exact i _ (by rw[cn];exact h1) (by rw[Va];exact e)<|WH<|by rw[h1];exact cr hd
def zlq{N:Nd}{b:Z3 Xs}{o:Xs}{rest:ww Xs}{Q:Qs}(c:yX b H o=I)(hd:jM N.n o.dst=wT)(h:WpL P N b rest Q (put H o.dst Z9) w):WpL P N b (o::rest) Q H w:=by intro a h1 e f;subst f;unfold WW;rw[S<|by rw[W0,c];exact Bool.false_ne_true];exact⟨λ_ _=>jP,h _ (by rw[cn];exact h1) (by rw[Va];exact e)<|WH<|by rw[h1];exact cr hd⟩
def zo5(hd:wM cx d=wT)(h:uK P fr cx σ H w):uK P fr cx (σ.put d [(0,.un)]) (put H d Z9) w:=by have⟨b,vs,c⟩:=h;exact(KA (m6:=σ.put d [(0,.un)]) (Γl:=[]) b hd O (Nm _) (λ_ _=>O) (λe a o f=>by obtain rfl:=xad.1 a;cases f) b.o1 (λS w _ e a=>by obtain rfl:=xad.1 a;exact O) c).rel
def oH(cx:Sg)(a b:xj):Prop:=∀e∈cx.rg,b e.1=a e.1
def oH.refl{a:xj}:oH cx a a:=λ_ _=>O
def oH.trans{a b c:xj}(h:oH cx a b)(k:oH cx b c):oH cx a c:=λe f=>(k e f).trans<|h e f
def oH.put{a b:xj}{v:wW}(hd:wM cx d=wT)(h:oH cx a b):oH cx a (put b d v):=λe c=>by
 rw[oZ λht=> ?_];exact h e c;subst ht;simp only[wM,Wx,xaT]at hd;have:=hd e c;simp at this
def Pk(j:yT P cf.tt)(m:uf P cf.tt)(p:∀s∈cf.cs,yU P s)(u:BZ P cf){N:Nd}{e:ww Xs}{Q:Qs}{kp:PX->Sg->V R}{k:Sg->V R}{i7:xj}
 (z:∀m6,k m6=Z r->∀H w,oH cx i7 H->uK P fr cx m6 H w->Q .normal H w) (A:∀q m6,kp q m6=Z r->∀H w,oH cx i7 H->uK P fr cx m6 H w->Q (.panic<|tF q) H w):
 ∀{l:ww Xs}{σ:Sg}{H:xj}{w:qR},oH cx i7 H->(l.all λo=>jM N.n o.dst)=wT->zhB cf cx e kp l σ k=Z r->uK P fr cx σ H w->WpL P N e.toArray l Q H w
 |[],σ,H,w,f,_,h,c=>λa h1 J K=>ii ⟨h1,J,K▸z σ h H w f c⟩
 |o::l,σ,H,w,f,i,h,c=>by
  simp only[List.all_cons,xae]at i;have⟨hd,h⟩:=yf h;have⟨L,b,h,c,B⟩:=zl3 h c;cases b
  exact zlq B i.1<|Pk j m p u z A (f.put hd) i.2 h<|zo5 hd c;have⟨C,h,c⟩:=zoq h c;have c:=EJ (zqf cf cx C o.dst o.op) c;have⟨F,vs,G⟩:=c;rcases ziy j m p u hd h with⟨m6,D,_,E⟩|⟨q,m6,D,_,E⟩
  exact zo0 B i.1<|(E fr vs H w ⟨F,G⟩).mono λv w' M=>Pk j m p u z A (f.put hd) i.2 D M.rel;refine zmv B<|(E fr vs H w ⟨F,G⟩).mono ?_;rintro T w' ⟨rfl,S,hc⟩;exact A q m6 D H w' f ⟨S,vs,hc⟩
end
end
section
section
variable{P:uS}{cf:Cf}{fr:Fr}{cx σ σ0:Sg}{vs i9:wL->wW}{H i7:xj}{w:qR}{R:Type}{r:R}
 {d:wN Wf}{ty t yt:kW}{m7:String}{xS:Z3 Edge}{g:wN (wL×ut)}{x y:ul}
theorem Tu:∀{a b:N (K×K×Dv)}{t i:K},(∀e∈a,e.1≠t)->oi (a++b) t i=oi b t i
 |[],_,_,_,_=>rfl
 |(c,f,d)::a,b,t,i,h=>by
  show(bif xah c t && xah f i then Z d else oi (a++b) t i)=_;rw[YM<|h (c,f,d)<|IR];exact Tu λe j=>h e<|FS _ j
theorem zi9{rg:N (K×K×Dv)}{t a i:K}(h:a≠t):oi (zqh rg t) a i=oi rg a i:=by
 induction rg with
 |nil=>rfl
 |cons e rg b=>
  have⟨s,j,d⟩:=e;unfold zqh at b⊢;rw[xfI];cases c:xah s t
  simp only[Bool.not_false,Z4];unfold oi;rw[b];simp only[xeS,xaj,Z5];rw[b];have:=yb c;subst this;conv=>rhs;unfold oi
  rw[YM<|λe=>h e.symm];rfl
theorem za8{rg:N (K×K×Dv)}{t a i:K}{l:N (K×Dv)}(h:a≠t):oi (qI rg (Z t) l) a i=oi rg a i:=by grind [qI,Tu,zi9]
def zmD{t a i:K}{l:N (K×Dv)}{n:K}{ob:N (K×Od)}{dv:Dv}(hn:Wx cx.rg t=wT)(h:get cx ⟨n,qI σ.rg (Z t) l,ob⟩ a i=Z dv):(a=t/\(i,dv)∈l)\/(a≠t/\get cx σ a i=Z dv):=by
 by_cases ht:a=t;subst ht;obtain hm|hm:=DB h
 have hm:=hm;obtain hm|hm:=xab.1 hm
 simp_all;have:=(xbW.1 hm).2;simp at this;simp only[Wx,xaT]at hn;have:=hn _ hm;simp at this;right;refine⟨ht,?_⟩;unfold get at h⊢;rw[show oi (qI σ.rg (Z t) l) a i=oi σ.rg a i from za8 ht]at h;exact h
def zjI{t:K}{l:N (K×Dv)}{n:K}{ob:N (K×Od)}{S:K->Prop}(hn:Wx cx.rg t=wT){a:K}(h1:a=t->∀e∈l,(vU P vs e.2 (H t) e.1).p S w)(b:a≠t->Lk P vs H S w cx σ a):Lk P vs H S w cx ⟨n,qI σ.rg (Z t) l,ob⟩ a:=by
 intro i dv hd;rcases zmD hn hd with⟨rfl,h⟩|⟨c,f⟩
 simp_all;exact b c i dv f
def AZ{l:N (K×Dv)}(a:Bd cx σ)(hl:∀e∈l,∀o,vv e.2=Z o->o<σ.nx):Bd cx (σ.put d l):=by
 refine⟨a.o1,a.o2,λe he o b=> ?_,a.r2⟩
 cases d with
 |none=>exact a.r1 e he o b
 |some t=>
  obtain he|he:=xab.1 he
  obtain⟨c,f,rfl⟩:=xat.1 he;exact hl c f o b;exact a.r1 e (xbW.1 he).1 o b
def Dy{t a:K}{x b:ut}{S:K->Prop}(hn:Wx cx.rg t=wT)(c:get cx σ t 0=Z (.d .b x))(f:x=b)(h:Lk P vs H S w cx σ a):Lk P vs H S w cx (Pq σ t b) a:=by refine zjI hn (λe j i=> ?_)<|λ_=>h;subst e;obtain rfl:=xad.1 i;exact(sC c h).trans<|Z2 xeK f
def zhh{a:N Xs}{o:Xs}{k:Sg->ut->V R}(h:BK cx a o σ k=Z r)(l:Bd cx σ):∃m6 b,k m6 b=Z r/\m6.ob=σ.ob/\m6.nx=σ.nx/\Bd cx m6/\
 (∀(P:uS) vs H S w t,Lk P vs H S w cx σ t->Lk P vs H S w cx m6 t)/\(∀(P:uS) vs H S w,(∀t∈xbm a.toArray o,Lk P vs H S w cx σ t)->yX a.toArray H o=b):=by
 unfold BK at h;split at h
 next p=>exact⟨σ,wT,h,O,O,l,λ_ _ _ _ _ _ h=>h,λP vs H S w _=>by unfold yX;rw[p]⟩
 rename_i j c p;split at h;rename_i A q;split at h;rename_i t ht;have m:t∈xbm a.toArray o:=by unfold xbm;simp_all
 have hc:∀{H:xj}{v},H t=v->gd a.toArray H j=(match v with|.bool b=>Z b|_=>wS):=by rintro H v rfl;unfold gd;simp only[xfD,q,Option.bind_some,ht];rfl
 have n:∀H,yX a.toArray H o=(gd a.toArray H j==Z c):=λH=>by unfold yX;rw[p]
 split at h;rename_i b f;refine⟨σ,_,h,O,O,l,λ_ _ _ _ _ _ h=>h,λP vs H S w hl=> ?_⟩;have hv:H t=.bool b:=hl t m 0 _ f;rw[n,hc hv];cases b<;>cases c<;>rfl
 rename_i f;refine⟨σ,_,h,O,O,l,λ_ _ _ _ _ _ h=>h,λP vs H S w hl=> ?_⟩;have hv:H t=Z9:=hl t m 0 _ f;rw[n,hc hv];rfl;rename_i x f;have⟨hn,h⟩:=yf h;have hd:∀b,Bd cx (Pq σ t b):=λb=>AZ (d:=Z t) l λe s o u=>by obtain rfl:=xad.1 s;cases u
 rcases Sa h with⟨i,h⟩|⟨i,h⟩
 refine⟨_,_,h,O,O,hd _,λP vs H S w z hl=>Dy hn f i hl,λP vs H S w hl=> ?_⟩;have hv:=(sC f<|hl t m).trans<|Z2 xeK i;rw[n,hc hv];cases c<;>rfl
 refine⟨_,_,h,O,O,hd _,λP vs H S w z hl=>Dy hn f i hl,λP vs H S w hl=> ?_⟩;have hv:=(sC f<|hl t m).trans<|Z2 xeK i;rw[n,hc hv];cases c<;>rfl
 cases h
 cases h
 cases h
theorem zkW{o:Xs}{k:Sg->V R}(h:L7 cx o σ k=Z r)(i:Bd cx σ):∃m6,k m6=Z r/\m6.ob=σ.ob/\m6.nx=σ.nx/\Bd cx m6/\(∀(P:uS) vs H S w t,Lk P vs H S w cx σ t->Lk P vs H S w cx m6 t):=by
 unfold L7 at h;split at h;rename_i t _ _ _;split at h;rename_i x c;have⟨hn,h⟩:=yf h;have f:∀b,Bd cx (Pq σ t b):=λb=>AZ i λe j o l=>by obtain rfl:=xad.1 j;cases l
 rcases Sa h with⟨a,h⟩|⟨a,h⟩
 exact⟨_,h,O,O,f _,λP vs H S w m hl=>Dy hn c a hl⟩;exact⟨_,h,O,O,f _,λP vs H S w m hl=>Dy hn c a hl⟩;grind;grind
def prL(P:uS)(vs:K->wW)(l:N (K×Dv)):Pr where
 p S v w:=∀e∈l,(vU P vs e.2 v e.1).p S w
 keepS h k:=λe a=>(vU P vs e.2 _ e.1).keep (h e a) k
 sub h k:=λe a=>(vU P vs e.2 _ e.1).sub (h e a) k
def zpo(P:uS)(vs:wL->wW)(Γ:N FF)(i7:xj)(cx σ:Sg)(K:N (Wf×Pr)):Prop:=∀(H:xj) (S:wL->Prop) (w:qR),zC S Γ w->∀t,Xu K i7 H S w t->Lk P vs H S w cx σ t
def nB{K:N (Wf×Pr)}{S:wL->Prop}:∀{ts:N Wf},Jl K i7 H S w ts->∀t∈ts,Xu K i7 H S w t
 |[],_,_,h=>jp h H1
 |_::_,h,t,ht=>by
  obtain rfl|ht:=xai.1 ht
  exact h.1;exact nB h.2 t ht
def zjO{Γ:N FF}{K:N (Wf×Pr)}{b:Pr}{l:N (wL×Dv)}{o:Xs}(hd:wM cx o.dst=wT)(h:zpo P vs Γ i7 cx σ K)(f:∀S v w,b.p S v w->∀e∈l,(vU P vs e.2 v e.1).p S w):zpo P vs Γ i7 cx (σ.put o.dst l) (BU o.dst b K):=by
 intro H S w a t ht
 cases c:o.dst with
 |none=>
  rw[c]at ht;exact h H S w a t ht
 |some s=>
  rw[c]at ht hd;refine zjI hd (λe=> ?_)<|λhc=> ?_;subst e;unfold Xu BU at ht;simp_all;refine h H S w a t ?_;unfold Xu BU at ht;rw[List.find?_cons,YM<|λe=>hc e.symm]at ht;exact ht
end
end
def NH{l:N Xs}{D:K->ut}(hd:∀j,D j=wT->∀e∈(zU l j).after,xcq .any e=wT->D e.on=wT):∀(f j i:K),D j=wT->vQ l f j i=wT->D i=wT
 |0,j,i,c,h=>by
  obtain⟨e,b,a,rfl⟩:=uV h;grind
 |f+1,j,i,c,h=>by
  unfold vQ at h;rw[xdU]at h;obtain h|h:=h
  obtain⟨e,b,a,rfl⟩:=uV h;grind;rw[xfH]at h;have⟨e,b,a⟩:=h;rw[xae]at a;exact NH hd f e.on i (hd j c e (xdM.1 b) a.1) a.2
section
def Jo(al:Rb->ut)(rs:N Rb):N (K×Od):=rs.filterMap λr=>if al r=wT then Z (r.o,r.x)else wS
def AA(i:K)(rs:N Rb):N (K×Od):=rs.filterMap λr=>if r.c=Z i then Z (r.o,r.x)else wS
def GM(i:K)(rs:N Rb):N (K×Od):=rs.filterMap λr=>if r.a=Z i then Z (r.o,r.x)else wS
def nH(i:K)(rs:N Rb):N (K×Od):=rs.filterMap λr=>if i∈r.rd then Z (r.o,r.x)else wS
def P1{al b:Rb->ut}{i:K}:∀{rs:N Rb},(∀r∈rs,(r.c=Z i/\i∉r.rd/\r.a≠Z i/\al r=wT/\b r=I)\/(r.a=Z i/\r.c≠Z i/\i∉r.rd/\al r=I/\b r=wT)\/
 (i∈r.rd/\r.c≠Z i/\r.a≠Z i/\al r=wT/\b r=wT)\/(r.c≠Z i/\r.a≠Z i/\i∉r.rd/\al r=b r))->
 ∃rest,(∀e∈rest,∃r∈rs,e=(r.o,r.x)/\al r=wT/\b r=wT)/\(Jo al rs).Perm (AA i rs++(nH i rs++rest))/\(Jo b rs).Perm (GM i rs++(nH i rs++rest))
 |[],_=>⟨[],λe he=>jp he H1,xdw _,xdw _⟩
 |r::rs,h=>by
  have⟨rest,h1,f,d⟩:=P1 (rs:=rs) λq m=>h q<|FS _ m;have k:∀e∈rest,∃q∈r::rs,e=(q.o,q.x)/\al q=wT/\b q=wT:=λe he=>by grind
  rcases h r (IR)with⟨g,j,a3,a4,a5⟩|⟨g,j,a3,a4,a5⟩|⟨g,j,a3,a4,a5⟩|⟨g,j,a3,a4⟩
  refine⟨rest,k,?_,?_⟩;simp only[Jo,AA,nH,xaQ,g,j,a4,Z4,Z5,Ut]at f⊢;simp_all;simp only[Jo,GM,nH,xaQ,a3,j,a5,Z5,Ut,xaj]at d⊢;exact d;refine⟨rest,k,?_,?_⟩;simp only[Jo,AA,nH,xaQ,j,a3,a4,Z5,Ut,xaj]at f⊢;exact f;simp only[Jo,GM,nH,xaQ,g,a3,a5,Z4,Z5,Ut]at d⊢;exact d.cons _;refine⟨rest,k,?_,?_⟩;simp only[Jo,AA,nH,xaQ,g,j,a4,Z4,Z5,Ut]at f⊢;exact(f.cons _).trans xca.symm;simp only[Jo,GM,nH,xaQ,g,a3,a5,Z4,Z5,Ut]at d⊢;exact(d.cons _).trans xca.symm
  cases l:al r with
  |false=>
   rw[l]at a4;refine⟨rest,k,?_,?_⟩;simp only[Jo,AA,nH,xaQ,g,a3,l,Z5,Ut,xaj]at f⊢;exact f;simp only[Jo,GM,nH,xaQ,j,a3,<-a4,Z5,Ut,xaj]at d⊢;exact d
  |true=>
   rw[l]at a4;refine⟨(r.o,r.x)::rest,λe he=> ?_,?_,?_⟩;obtain rfl|he:=xai.1 he
   exact⟨r,IR,O,l,a4.symm⟩;exact k e he;simp only[Jo,AA,nH,xaQ,g,a3,l,Z4,Z5,Ut]at f⊢;rw[<-xar]at f⊢;exact(f.cons _).trans xca.symm;simp only[Jo,GM,nH,xaQ,j,a3,<-a4,Z4,Z5,Ut]at d⊢;rw[<-xar]at d⊢;exact(d.cons _).trans xca.symm
def KV(P:uS)(vs:K->wW)(KL:N (Wf×N (K×Dv))):N (Wf×Pr):=KL.map λe=>(e.1,prL P vs e.2)
def HH(d:V Wf)(l:N (K×Dv))(KL:N (Wf×N (K×Dv))):N (Wf×N (K×Dv)):=match d with
 |some t=>(t,l)::KL
 |none=>KL
def bS:N (Xs×N (wL×Dv))->N (Wf×N (wL×Dv))->N (Wf×N (wL×Dv))
 |[],K=>K
 |(o,l)::r,K=>bS r<|HH o.dst l K
def OL(P:uS)(vs:K->wW)(L:N (Xs×N (K×Dv))):N (Xs×Pr):=L.map λe=>(e.1,prL P vs e.2)
section
variable{P:uS}{vs:wL->wW}
def zhM{d:V Wf}{l:N (K×Dv)}{KL:N (Wf×N (K×Dv))}:KV P vs (HH d l KL)=BU d (prL P vs l) (KV P vs KL):=by cases d<;>rfl
def zhL:∀(L:N (Xs×N (K×Dv))) (KL:N (Wf×N (K×Dv))),KV P vs (bS L KL)=Kof (OL P vs L) (KV P vs KL)
 |[],KL=>rfl
 |(o,l)::r,KL=>by
  show KV P vs (bS r<|HH o.dst l KL)=Kof (OL P vs r) (BU o.dst (prL P vs l)<|KV P vs KL);rw[zhL r,zhM]
end
def ObB(P:uS)(b:Z3 Xs)(we:qR)(Se:K->Prop)(mE:N MF)(Γ:N FF)(i7:xj)(vs:K->wW)(n0:K)(rs:N Rb)(KL:N (Wf×N (K×Dv)))(i:K)(o:Xs)(L:N (K×Dv))(a:Oi):Prop:=
 n0<=a.lo/\a.lo<=a.hi/\(∀e∈L,∀p,vv e.2=Z p->p<a.hi/\p∈a.refs)/\(∀e∈GM i rs,e.1<a.hi)/\
 ∀i9,(∀p,p<n0->i9 p=vs p)->∀(H:xj) (F:N MF) (G:N FF) (w:qR),St we Se (MS i9 (AA i rs++nH i rs)++(mE++F)) (Lo (KV P i9 KL) i7 H (o.looksAt b)::(Γ++G)) w->
  (yX b H o=wT->ux P o H w (λv w'=>∃vs2,(∀p,p<a.lo->vs2 p=i9 p)/\St we Se (MS vs2 (GM i rs)++(MS i9 (nH i rs)++(mE++F))) (zkL P vs2 v L++(Γ++G)) w'))/\
  (yX b H o=I->AA i rs=[]/\GM i rs=[]/\∀S w,zC S (zkL P i9 Z9 L) w)
structure ztJ(l:N Xs)(m:K)(rs:N Rb)(is:N Oi):Prop where
 a:∀r∈rs,∀j,r.a=Z j->j<m/\∀i∈r.rd,vQ l 16 i j=wT
 c:∀r∈rs,∀k,r.c=Z k->k<m/\(∀j,r.a=Z j->vQ l 16 k j=wT)/\∀i∈r.rd,vQ l 16 k i=wT
 n:∀i b,is[i]? =Z b->∀r∈rs,b.lo<=r.o->r.o<b.hi->∃j,r.a=Z j/\(j=i\/vQ l 16 j i=wT)
 f:∀i b j J,is[i]? =Z b->is[j]? =Z J->∀p∈J.refs,b.lo<=p->p<b.hi->j=i\/vQ l 16 j i=wT
 uniq:∀i j t,i<m->j<m->i≠j->(zU l i).dst=Z t->(zU l j).dst≠Z t
def zfx{l:N Xs}{m:K}{rs:N Rb}{is:N Oi}(h:zmg l m rs is=wT):ztJ l m rs is:=by
 unfold zmg at h;rw[xae,xae]at h;have⟨⟨e,hn⟩,f⟩:=h;have hc:∀i q,is[i]? =Z q->zlH l i q rs is.zipIdx=wT:=λi q hi=>xaT.1 hn (q,i)<|List.mem_zipIdx_iff_getElem?.2 hi;have b:∀(q:Oi) (p:K),q.lo<=p->p<q.hi->inB q p=wT:=λq p h1 d=>by
  unfold inB;simp_all
 refine⟨λr c j a=> ?_,λr c k g=> ?_,λi q hi r c h1 d=> ?_,λi q j J hi a p hp h1 d=> ?_,λi j t hi a hd n o=> ?_⟩;have:=xaT.1 e r c;simp_all;have:=xaT.1 e r c;rw[xae]at this;have:=this.2;rw[g]at this;simp only[xae,xaT]at this;refine⟨by have:=xbF this.1.1;lia,λj a=> ?_,this.2⟩;have:=this.1.2;rw[a]at this;exact this;have:=hc i q hi;unfold zlH at this;rw[xae]at this;have:=xaT.1 this.1 r c;rw[b q _ h1 d,xeS,xeD]at this;split at this;rename_i j a;rw[xdU]at this;exact⟨j,a,this.imp yb id⟩;cases this
 have:=hc i q hi;unfold zlH at this;rw[xae]at this;have:=xaT.1 this.2 (J,j)<|List.mem_zipIdx_iff_getElem?.2 a;have:=xaT.1 this p hp;rw[b q _ h1 d,xeS,xeD,xdU]at this;exact this.imp yb id;have:=xaT.1 (xaT.1 f i<|xbd.2 hi) j<|xbd.2 a;rw[YM hd,xeD,n]at this;simp[o]at this
end
section
section
variable{P:uS}{N:Nd}{we:qR}{Se:wL->Prop}{ms:ww MF}{Γ:ww FF}{Q:Qs}{i7:xj}{l:ww Xs}{m:wL}
def zcG{Lp:ww (Xs×Pr)}(hd:∀i,i<m->∃b,Lp[i]? =Z (zU l i,b))(f:∀(i:K) (x:Xs×Pr),Lp[i]? =Z x->i<m/\x.1=zU l i){D:K->ut}{H:xj}{S:K->Prop}{w:qR}{i:K}{t:Wf}
 (g:∀t,(∀i,i<m->D i=wT->(zU l i).dst≠Z t)->H t=i7 t) (h:(Cz Lp D H).p S w) (hl:i<=m) (ht:∀j,j<m->(zU l j).dst=Z t->(D j=wT↔j<i)):Xu (Kof (Lp.take i) []) i7 H S w t:=by
 unfold Xu;rcases Aa t (Lp.take i) []with⟨j,y,g1,a,q,k⟩|⟨g1,a⟩
 rw[k];rw[xbK]at g1;split at g1;rename_i hc;have⟨hi,n⟩:=f j y g1;exact h j y t ((ht j hi<|n▸a).2 hc) g1 a;cases g1
 rw[a];refine g t λj d o e=> ?_;have hc:=(ht j d e).1 o;have⟨b,c⟩:=hd j d;exact g1 j (zU l j,b) (by rw[xbK,iq hc];exact c) e
def zhn(hc:Vu l m=wT){Lp:ww (Xs×Pr)}(n:∀i,i<m->∃o,Lp[i]? =Z (zU l i,o))(hd:∀(i:K) (x:Xs×Pr),Lp[i]? =Z x->i<m/\x.1=zU l i){D:K->ut}{H:xj}{S:K->Prop}{w:qR}{i:K}
 (hp:i<m) (hn:D i=I) (q:∀e∈(zU l i).after,xcq .any e=wT->D e.on=wT) (r:∀j,D j=wT->∀e∈(zU l j).after,xcq .any e=wT->D e.on=wT)
 (s:∀t,(∀i,i<m->D i=wT->(zU l i).dst≠Z t)->H t=i7 t) (u:(Cz Lp D H).p S w):Jl (Kof (Lp.take i) []) i7 H S w (xbm l.toArray<|zU l i):=by
 have⟨h0,h1,v,A,hv⟩:=Y2 hc;have B:i<X l:=W
 have hi:∀t,t∈xbm l.toArray (zU l i)->∀j,j<m->(zU l j).dst=Z t->j≠i->(D j=wT↔j<i):=by
  intro t ht j c d y;have k:=v i j t hp c y d (.inl ht);constructor;intro z;obtain h|h:=xbU j i
  exact h;exfalso;have⟨e,f,g,hl⟩:=uV (k.2 W);have a:=r j z e f g;rw[hl,hn]at a;cases a
  intro b;have⟨e,f,g,hl⟩:=uV<|k.1 b;have a:=q e f g;rwa[hl]at a
 exact cB _ λt ht=>zcG n hd s u W λj c d=>by
  by_cases b:j=i;subst b;rw[hn];simp;exact hi t ht j c d b
def bL(D:K->ut)(r:Rb):ut:=(match r.a with
 |none=>wT
 |some j=>D j) && !(match r.c with
 |none=>I
 |some k=>D k)
def zca{D:K->ut}{i:K}(c:∀e∈(zU l i).after,xcq .any e=wT->D e.on=wT)(hc:∀j,D j=wT->∀e∈(zU l j).after,xcq .any e=wT->D e.on=wT):∀(f j:K),vQ l f i j=wT->D j=wT
 |0,j,h=>by
  obtain⟨e,b,a,rfl⟩:=uV h;simp_all
 |f+1,j,h=>by
  unfold vQ at h;rw[xdU]at h;obtain h|h:=h
  obtain⟨e,b,a,rfl⟩:=uV h;simp_all;rw[xfH]at h;have⟨e,b,a⟩:=h;rw[xae]at a;exact NH hc f e.on j (c e (xdM.1 b) a.1) a.2
theorem Mf{al a:Rb->ut}:∀{rs:ww Rb},(∀r∈rs,al r=a r)->Jo al rs=Jo a rs
 |[],_=>rfl
 |r::rs,h=>by
  have b:=Mf λq c=>h q<|FS _ c;unfold Jo at b⊢;grind
def St.mid{we:qR}{Se:K->Prop}{A B:ww MF}{m:MF}{Γ:ww FF}{w:qR}(h:St we Se (A++m::B) Γ w):St we Se (m::(A++B)) Γ w:=St.perm h xca
def St.dropM{we:qR}{Se:K->Prop}{Γ:ww FF}{w:qR}:∀{A B C:ww MF},St we Se (A++(B++C)) Γ w->St we Se (A++C) Γ w
 |A,[],C,h=>h
 |A,b::B,C,h=>St.dropM<|St.drop (i:=0)<|St.mid h
def isD(l:ww Xs)(a:V K)(j:K):ut:=match a with
 |some i0=>R j i0||vQ l 16 j i0
 |none=>I
def Ux(r:Rb):ut:=r.a.isNone && r.c.isNone
def ObP(P:uS)(a:Z3 Xs)(we:qR)(Se:K->Prop)(mE:ww MF)(Γ:ww FF)(i7:xj)(vs:K->wW)(n0:K)(q:PX)(rs:ww Rb)(KL:ww (Wf×ww (K×Dv)))(i:K)(o:Xs):Prop:=
 ∀i9,(∀p,p<n0->i9 p=vs p)->∀(H:xj) (F:ww MF) (G:ww FF) (w:qR),St we Se (MS i9 (AA i rs)++(mE++F)) (Lo (KV P i9 KL) i7 H (o.looksAt a)::(Γ++G)) w->
  yX a H o=wT/\OpP P o H w (λb w'=>b=tF q/\St we Se (mE++F) (Γ++G) w')
theorem rM{p:Rb->ut}{r:Rb}{rs:ww Rb}:Jo p (r::rs)=bif p r then(r.o,r.x)::Jo p rs else Jo p rs:=by unfold Jo;grind
def FV{p q:Rb->ut}:∀{rs:ww Rb},(∀r∈rs,p r=wT->q r=wT)->(Jo q rs).Perm (Jo p rs++Jo (λr=>q r && !p r) rs)
 |[],_=>xdw _
 |r::rs,h=>by
  have a:=FV λq b=>h q<|FS _ b;rw[rM,rM,rM]
  cases hp:p r with
  |false=>
   cases b:q r with
   |false=>exact a
   |true=>exact(xfA _ a).trans xca.symm
  |true=>
   simp_all
def zqk{i:K}:∀{rs:ww Rb},AA i rs=Jo (λr=>decide<|r.c=Z i) rs
 |rs=>by unfold AA Jo;simp only[UL]
theorem zem{D:K->ut}{i:K}{rs:ww Rb}(d:D i=I)(hc:∀r∈rs,r.c=Z i->bL D r=wT)(b:∀r∈rs,Ux r=wT->bL D r=wT/\r.c≠Z i):
 (Jo (bL D) rs).Perm (AA i rs++(Jo Ux rs++Jo (λr=> !decide (r.c=Z i) && bL D r && !Ux r) rs)):=by
 rw[zqk];refine(FV λr a h=>hc r a<|WL h).trans<|xbp _ ?_;have:=FV (p:=Ux) (q:=λr=> !decide (r.c=Z i) && bL D r) (rs:=rs) λr a h=>by simp[(b r a h).1,(b r a h).2]
 grind
def zmB{id:K}{mE:ww MF}(B:V K)(q:PX)(m:K)(Ls:ww (ww<|K×Dv))(is:ww Oi)(rs:ww Rb)(ts:ww Wf)(vs:K->wW)(n0:K)(hm:P.follows .mixedOrders=wT)(hc:Vu l m=wT)(hl:X Ls=m)(b1:X is=m)(E:zmg l m rs is=wT)
 (b7:MS vs (Jo (λr=>r.a.isNone) rs)++mE=ms) (hd:(l.all λo=>jM N.n o.dst)=wT) (hP:∀i0,B=Z i0->i0<m)
 (hQ:∀i x b,((l.take m).zip Ls)[i]? =Z x->is[i]? =Z b->isD l B i=I->ObB P l.toArray we Se mE Γ i7 vs n0 rs (bS (((l.take m).zip Ls).take i) []) i x.1 x.2 b)
 (h5:∀i0 x,B=Z i0->((l.take m).zip Ls)[i0]? =Z x->nH i0 rs=[]/\ObP P l.toArray we Se mE Γ i7 vs n0 q rs (bS (((l.take m).zip Ls).take i0) []) i0 x.1)
 (b2:B.isSome=wT->∀(H:xj) (w:qR) (i9:K->wW),(∀p,p<n0->i9 p=vs p)->(∀t,(∀i,i<m->(zU l i).dst≠Z t)->H t=i7 t)->St we Se (MS i9 (Jo Ux rs)++mE) Γ w->Q (.panic<|tF q) H w)
 (b3:B=wS->∀(H:xj) (w:qR) (i9:K->wW),(∀p,p<n0->i9 p=vs p)->St we Se (MS i9 (Jo (λr=>r.c.isNone) rs)++mE) (Lo (KV P i9<|bS ((l.take m).zip Ls) []) i7 H ts::Γ) w->WpL P N l.toArray (l.drop m) Q H w):
 T P N we Se ms Γ (.region id l.toArray wT) Q i7:=by
 have⟨h0,h1,h2,h3,g0⟩:=Y2 hc;have hp:=zfx E;have⟨L,hL⟩:∃L,L=(l.take m).zip Ls:=⟨_,O⟩;rw[<-hL]at hQ h5 b3;have g4:X L=m:=by rw[hL];simp;lia
 have hR:∀i,i<m->∃x,L[i]? =Z (zU l i,x):=λi hi=>by
  have b1:i<X l:=xag hi h0;have b4:i<X Ls:=hl.symm▸hi;refine⟨Ls[i]'(b4),?_⟩;rw[hL,xeX];refine⟨?_,rC⟩;rw[xbK,iq hi];simp[zU,b1]
 have hS:∀i x,L[i]? =Z x->i<m/\x.1=zU l i:=λi x E=>by
  have hi:i<m:=by have:=(xaz.1 E).1;lia
  have⟨Φ,h⟩:=hR i hi;rw[h]at E;cases E;exact⟨hi,O⟩
 have a0:∀i9 i,i<m->∃Φ,(OL P i9 L)[i]? =Z (zU l i,Φ):=λi9 i hi=>by
  have⟨x,h⟩:=hR i hi;exact⟨_,by rw[OL,xci,h];rfl⟩
 have F:∀i9 (i:K) (x:Xs×Pr),(OL P i9 L)[i]? =Z x->i<m/\x.1=zU l i:=λi9 i x E=>by
  rw[OL,xci]at E
  cases Y:L[i]? with
  |none=>rw[Y]at E;cases E
  |some y=>rw[Y]at E;cases E;exact hS i y Y
 refine zpu m (λD H w=>(∀j,D j=wT->isD l B j=I)/\(∀t,(∀i,i<m->D i=wT->(zU l i).dst≠Z t)->H t=i7 t)/\∃i9,(∀p,p<n0->i9 p=vs p)/\St we Se (MS i9 (Jo (bL D) rs)++mE) (Γ++[Cz (OL P i9 L) D H]) w) hm hc hd ?_ ?_ ?_;intro w hw;refine⟨λ_ s=>(by cases s),λt _=>O,vs,λ_ _=>O,?_⟩;have:bL (λ_=>I)=λr=>r.a.isNone:=by funext r;unfold bL;cases r.a<;>cases r.c<;>rfl
 rw[this,b7];exact hw.weak λS w h=>zC.append h ⟨λi x t hi=>(by cases hi),jP⟩;rintro D i H w hZ hu b5 hT hD ⟨hU,hv,i9,hN,hV⟩;have e8:i<X l:=W
 have⟨x,h8⟩:=hR i hZ;have⟨b,hI⟩:∃b,is[i]? =some b:=⟨_,xaa W⟩;have hf:∀j,vQ l 16 i j=wT->D j=wT:=λj s=>zca hT hD 16 j s;have h4:∀k,D k=wT->vQ l 16 k i≠wT:=λk hk u=>by
  have:=NH hD 16 k i hk u;rw[hu]at this;cases this
 have hK:∀S:K->Prop,∀w:qR,(Cz (OL P i9 L) D H).p S w->Jl (KV P i9<|bS (L.take i) []) i7 H S w (xbm l.toArray<|zU l i):=λS w h9=>by
  rw[zhL];have:=zhn hc (a0 i9) (F i9) hZ hu hT hD hv h9;rw[show OL P i9 (L.take i)=(OL P i9 L).take i by unfold OL;rw[xeU]];exact this
 by_cases hE:isD l B i=wT
 obtain⟨i0,rfl⟩:∃i0,B=some i0:=by cases B with
  |none=>cases hE
  |some i0=>exact⟨i0,O⟩
 have b9:isD l (Z i0) i0=wT:=by simp[isD]
 have c0:i=i0:=by simp only[isD,xdU]at hE;obtain h|h:=hE;exact yb h;exact jp (hU i0<|hf i0 h)<|by rw[b9];exact Bool.noConfusion
 subst c0;have⟨g5,hO⟩:=h5 i _ O h8;have c4:∀r∈rs,r.c=Z i->bL D r=wT:=λr u C=>by
  unfold bL;rw[C];simp only[hu,Bool.not_false,Bool.and_true]
  cases R:r.a with
  |none=>rfl
  |some j=>exact hf j<|(hp.c r u i C).2.1 j R
 have hP:=zem (D:=D) (i:=i) hu c4 (λr u h=>by
  simp only[Ux,xae,Option.isNone_iff_eq_none]at h;refine⟨?_,by rw[h.2];exact λe=>by cases e⟩;unfold bL;rw[h.1,h.2];rfl)
 have hA:St we Se (MS i9 (AA i rs)++(mE++(MS i9 (Jo Ux rs)++MS i9 (Jo (λr=> !decide (r.c=Z i) && bL D r && !Ux r) rs)))) (Lo (KV P i9<|bS (L.take i) []) i7 H (xbm l.toArray<|zU l i)::(Γ++[Cz (OL P i9 L) D H])) w:=by
  refine St.weak (hV.perm ?_) λS w h=>⟨hK S w (zC.right (Γ:=Γ) h).1,h⟩;have e1:(MS i9<|Jo (bL D) rs).Perm (MS i9 (AA i rs)++(MS i9 (Jo Ux rs)++MS i9 (Jo (λr=> !decide (r.c=Z i) && bL D r && !Ux r) rs))):=by unfold MS;rw[<-xaO,<-xaO];exact hP.map _
  refine(xeM mE e1).trans ?_;rw[xar];exact xbp _ xef
 have⟨c5,c6⟩:=hO i9 hN H _ [Cz (OL P i9 L) D H] w hA;refine⟨λ_=> .inr<|c6.mono λch w' ⟨c7,hs⟩=> ?_,λhw=>(by rw[c5]at hw;cases hw)⟩;subst c7;refine b2 O H w' i9 hN (λt ht=>hv t λj s _=>ht j s) ?_;refine St.weak (Γ:=Γ++[Cz (OL P i9 L) D H]) ?_ λS w h=>zC.left h;have h1:St we Se ([]++(MS i9 (Jo (λr=> !decide (r.c=Z i) && bL D r && !Ux r) rs)++(MS i9 (Jo Ux rs)++mE))) (Γ++[Cz (OL P i9 L) D H]) w':=by refine hs.perm ?_;rw[xbM,<-xar,<-xar];exact(xef.trans<|xbp _ xef).trans<|List.Perm.of_eq (xar ..).symm
 exact St.dropM (A:=[]) h1
 have hE:isD l B i=I:=by simpa using hE
 have⟨o1,o2,o3,o4,hO⟩:=hQ i _ b h8 hI hE
 have h6:∀r∈rs,(r.c=Z i/\i∉r.rd/\r.a≠Z i/\bL D r=wT/\bL (Hc D i) r=I)\/(r.a=Z i/\r.c≠Z i/\i∉r.rd/\bL D r=I/\bL (Hc D i) r=wT)\/
  (i∈r.rd/\r.c≠Z i/\r.a≠Z i/\bL D r=wT/\bL (Hc D i) r=wT)\/(r.c≠Z i/\r.a≠Z i/\i∉r.rd/\bL D r=bL (Hc D i) r):=by
  intro r u;have hF:vQ l 16 i i≠wT:=λh=>by have:=hf i h;rw[hu]at this;cases this
  have hB:∀j,j≠i->Hc D i j=D j:=λj s=>Pj s;by_cases C:r.c=Z i;have⟨c1,c2,c3⟩:=hp.c r u i C;have hC:i∉r.rd:=λh=>hF<|c3 i h;have hn:r.a≠Z i:=λh=>hF<|c2 i h;refine .inl ⟨C,hC,hn,?_,?_⟩;unfold bL;rw[C];simp only[hu,Bool.not_false,Bool.and_true]
  cases R:r.a with
  |none=>rfl
  |some j=>exact hf j<|c2 j R
  unfold bL;rw[C];simp only[tW,xeS,Bool.and_false];by_cases hn:r.a=Z i;have⟨a1,a2⟩:=hp.a r u i hn;have hC:i∉r.rd:=λh=>hF<|a2 i h;refine .inr (.inl ⟨hn,C,hC,?_,?_⟩);unfold bL;rw[hn];simp only[hu,Bool.false_and];unfold bL;rw[hn];simp only[tW,Bool.true_and]
  cases U:r.c with
  |none=>rfl
  |some k=>
   simp only;rw[hB k<|λe=>C<|by rw[U,e]]
   cases h':D k with
   |false=>rfl
   |true=>exact jp ((hp.c r u k U).2.1 i hn)<|h4 k h'
  have a5:∀k,r.c=Z k->i∈r.rd->D k=I:=λk hk hi=>by
   cases h':D k with
   |false=>rfl
   |true=>exact jp ((hp.c r u k hk).2.2 i hi)<|h4 k h'
  have hW:bL (Hc D i) r=bL D r:=by
   unfold bL
   cases R:r.a with
   |none=>
    cases U:r.c with
    |none=>rfl
    |some k=>simp only;rw[hB k<|λe=>C<|by rw[U,e]]
   |some j=>
    cases U:r.c with
    |none=>simp only;rw[hB j<|λe=>hn<|by rw[R,e]]
    |some k=>simp only;rw[hB j (λe=>hn<|by rw[R,e]),hB k<|λe=>C<|by rw[U,e]]
  by_cases hC:i∈r.rd;have:bL D r=wT:=by
   unfold bL;have e1:(match r.c with|none=>I|some k=>D k)=I:=by
    cases U:r.c with
    |none=>rfl
    |some k=>exact a5 k U hC
   rw[e1];simp only[Bool.not_false,Bool.and_true]
   cases R:r.a with
   |none=>rfl
   |some j=>exact hf j<|(hp.a r u j R).2 i hC
  exact .inr (.inr (.inl ⟨hC,C,hn,this,hW.trans this⟩));exact .inr (.inr (.inr ⟨C,hn,hC,hW.symm⟩))
 have⟨rest,a6,p1,p2⟩:=P1 h6;have hA:St we Se (MS i9 (AA i rs++nH i rs)++(mE++MS i9 rest)) (Lo (KV P i9<|bS (L.take i) []) i7 H (xbm l.toArray<|zU l i)::(Γ++[Cz (OL P i9 L) D H])) w:=by
  refine St.weak (hV.perm ?_) λS w h=>⟨hK S w (zC.right (Γ:=Γ) h).1,h⟩;have e1:(MS i9<|Jo (bL D) rs).Perm (MS i9 (AA i rs++nH i rs)++MS i9 rest):=by unfold MS;rw[<-xaO,xar];exact p1.map _
  refine(xeM mE e1).trans ?_;rw[xar];exact xbp _ xef
 have hO:=hO i9 hN H (MS i9 rest) [Cz (OL P i9 L) D H] w hA;have h7:∀(v:wW) (t:Wf),(∀i',i'<m->Hc D i i'=wT->(zU l i').dst≠Z t)->put H (zU l i).dst v t=i7 t:=λv t ht=>by
  rw[oZ<|ht i hZ<|tW D i];exact hv t λj s c9=>ht j s<|zkC c9
 have G:∀(v:wW) (w':qR) (vs2:K->wW),(∀p,p<b.lo->vs2 p=i9 p)->St we Se (MS vs2 (GM i rs)++(MS i9 (nH i rs)++(mE++MS i9 rest))) (zkL P vs2 v x++(Γ++[Cz (OL P i9 L) D H])) w'->
  ∃g,(∀p,p<n0->g p=vs p)/\St we Se (MS g (Jo (bL<|Hc D i) rs)++mE) (Γ++[Cz (OL P g L) (Hc D i)<|put H (zU l i).dst v]) w':=by
  intro v w' vs2 a7 hs;have e3:∃g:K->wW,g=λp=>if b.lo<=p/\p<b.hi then vs2 p else i9 p:=⟨_,O⟩;have⟨g,e3⟩:=e3;have hX:∀p,p<b.hi->g p=vs2 p:=λp hp=>by
   rw[e3];simp only;split;rfl
   next hc=>exact(a7 p W).symm
  have hG:∀p,¬(b.lo<=p/\p<b.hi)->g p=i9 p:=λp hp=>by
   rw[e3];exact ir hp
  refine⟨g,λp hp=>(hG p W).trans<|hN p hp,?_⟩;have hH:∀r∈rs,bL D r=wT->g r.o=i9 r.o:=λr u hH=>hG r.o λ⟨g1,g2⟩=>by
   have⟨j,s,hji⟩:=hp.n i b hI r u g1 g2;unfold bL at hH;rw[s,xae]at hH;obtain rfl|hji:=hji
   have:=hH.1;simp only at this;rw[hu]at this;cases this
   exact h4 j hH.1 hji
  have m1:MS g (GM i rs)=MS vs2 (GM i rs):=wC λe M=>hX e.1<|o4 e M;have m2:MS g (nH i rs)=MS i9 (nH i rs):=wC λe M=>by
   have⟨r,u,a9⟩:=xee.1 M;split at a9;rename_i hi;cases a9;rcases h6 r u with⟨a1,a2,_⟩|⟨a1,a2,a3,_⟩|⟨a1,a2,a3,a4,_⟩|⟨a1,a2,a3,_⟩
   exact jp hi a2;exact jp hi a3;exact hH r u a4;exact jp hi a3;cases a9
  have m3:MS g rest=MS i9 rest:=wC λe M=>by
   obtain⟨r,u,rfl,h1,_⟩:=a6 e M;exact hH r u h1
  have hP:(MS g (Jo (bL<|Hc D i) rs)++mE).Perm (MS vs2 (GM i rs)++(MS i9 (nH i rs)++(mE++MS i9 rest))):=by
   rw[<-m1,<-m2,<-m3];have e1:(MS g<|Jo (bL<|Hc D i) rs).Perm (MS g (GM i rs)++(MS g (nH i rs)++MS g rest)):=by unfold MS;rw[<-xaO,<-xaO];exact p2.map _
   refine(xeM mE e1).trans ?_;rw[xar,xar];exact xbp _<|xbp _ xef
  refine St.weak (hs.perm hP.symm) λS w2 h=> ?_;have b6:=zC.right h;refine zC.append (zC.left b6) ⟨?_,jP⟩;have h9:=(zC.right b6).1;intro j y t s Y ht;rw[OL,xci]at Y
  cases hz:L[j]? with
  |none=>rw[hz]at Y;cases Y
  |some z=>
   rw[hz]at Y;cases Y;have⟨e0,e2⟩:=hS j z hz;by_cases hji:j=i
   subst hji;rw[h8]at hz;cases hz;have e4:(zU l j).dst=Z t:=ht;show(prL P g x).p S (put H (zU l j).dst v t) w2;rw[e4,ED];intro e M;have:=ud.1 (zC.left h) _<|xat.2 ⟨e,M,O⟩;have b0:vU P g e.2 v e.1=vU P vs2 e.2 v e.1:=by unfold vU;simp only[mF (P:=P) (i9:=g) (vs:=vs2) (d:=e.2) λo ho=>hX o (o3 e M o ho).1]
   rw[b0];exact this;rw[Pj hji]at s;have e5:(zU l i).dst≠Z t:=hp.uniq j i t e0 hZ hji<|e2▸ht;show(prL P g z.2).p S (put H (zU l i).dst v t) w2;rw[oZ e5];intro e M;have:=h9 j (z.1,prL P i9 z.2) t s (by rw[OL,xci,hz];rfl) ht;have:=this e M;have⟨J,hJ⟩:∃J,is[j]? =some J:=⟨_,xaa W⟩;have⟨_,_,q3,_,_⟩:=hQ j _ J hz hJ<|hU j s;have b0:vU P g e.2 (H t) e.1=vU P i9 e.2 (H t) e.1:=by
    unfold vU;simp only[mF (P:=P) (i9:=g) (vs:=i9) (d:=e.2) λo ho=>hG o λ⟨g1,g2⟩=>by
     rcases hp.f i b j J hI hJ o (q3 e M o ho).2 g1 g2 with h|h
     exact hji h;exact h4 j s h]
   rw[b0];exact this
 have hY:∀j,Hc D i j=wT->isD l B j=I:=λj s=>by
  by_cases h:j=i;rw[h];exact hE;rw[Pj h]at s;exact hU j s
 refine⟨λhw=> .inl<|(hO.1 hw).mono λv w' ⟨vs2,a7,hs⟩=>⟨hY,h7 v,G v w' vs2 a7 hs⟩,λhw=>⟨hY,h7 Z9,?_⟩⟩;have⟨g1,g2,g3⟩:=hO.2 hw;refine G Z9 w i9 (λ_ _=>O) ?_;rw[g1,xbM]at hA;rw[g2];refine St.weak (show St we Se (MS i9 []++(MS i9 (nH i rs)++(mE++MS i9 rest))) _ w from hA) λS w h=>zC.append (g3 S w) h.2;rintro D H w hM b5 ⟨hU,hv,i9,hN,hV⟩;have e6:B=wS:=by
  cases B with
  |none=>rfl
  |some i0=>exact jp (hU i0<|hM i0<|hP i0 O)<|by simp[isD]
 refine b3 e6 H w i9 hN ?_;have e7:Jo (bL D) rs=Jo (λr=>r.c.isNone) rs:=by
  refine Mf λr u=> ?_;have:bL D r=r.c.isNone:=by
   unfold bL;have e1:(match r.a with|none=>wT|some j=>D j)=wT:=by
    cases R:r.a with
    |none=>rfl
    |some j=>exact hM j (hp.a r u j R).1
   rw[e1]
   cases U:r.c with
   |none=>rfl
   |some k=>simp only[hM k (hp.c r u k U).1];rfl
  exact this
 rw[e7]at hV;refine hV.weak λS w h=>⟨?_,zC.left h⟩;refine cB ts λt _=> ?_;have:=zcG (i:=m) (t:=t) (a0 i9) (F i9) hv (zC.right (Γ:=Γ) h).1 (Nm m) λj s _=>⟨λ_=>s,λ_=>hM j s⟩;rw[zhL];rwa[xaW<|by unfold OL;rw[xan];lia]at this
end
end
section
section
variable{P:uS}{cf:Cf}{fr:Fr}{cx σ σ0:Sg}{vs i9:wL->wW}{H i7:xj}{w:qR}{R:Type}{r:R}
def GB:∀{rg:N (K×K×Dv)}{e:K×K×Dv},e∈dd rg->e∈rg
 |a::r,e,h=>by
  obtain rfl|h:=xai.1 h
  simp_all;exact FS _<|GB (xbW.1 h).1
def zbY:∀{rg:N (K×K×Dv)}{e:K×K×Dv},e∈dd rg->oi rg e.1 e.2.1=Z e.2.2
 |(t,i,d)::r,e,h=>by
  obtain rfl|h:=xai.1 h
  unfold oi;simp;have⟨h1,a⟩:=xbW.1 h;unfold oi;simp only[xcM]at a;rw[a];exact zbY h1
def R2:∀(l:N Xs) (al:N (K×ul)) {σ:Sg},uK P fr cx σ H w->uK P fr cx (zqm cf cx l al σ) H w
 |[],_,_,h=>h
 |o::r,al,σ,h=>R2 r _<|EJ _ h
theorem zmY{N:K}{l:ww Xs}(h:(l.all λo=>jM N o.dst)=wT)(m:K):((l.drop m).all λo=>jM N o.dst)=wT:=by grind
def pX:∀(l:N K) {σ:Sg},fT P fr cx σ vs H w->fT P fr cx (LQ σ l) vs H w
 |[],_,h=>h
 |o::r,_,h=>pX r<|Ml h
theorem Rv:∀(l:N K) (σ:Sg),(LQ σ l).nx=σ.nx
 |[],_=>rfl
 |o::r,σ=>by
  show(LQ (Tr σ o) r).nx=_;rw[Rv r];unfold Tr;grind
structure RX1(i:K)(r r':Rb):Prop where
 a:r'.a=r.a
 o:r'.o=r.o
 x:r'.x=r.x
 c1:∀k,r.c=Z k->r'.c=Z k
 c2:r.c=wS->∀k,r'.c=Z k->i<=k
 d1:∀j∈r.rd,j∈r'.rd
 d2:∀j∈r'.rd,j∈r.rd\/i<=j
def RX(i:K):N Rb->N Rb->Prop
 |[],b=>∀r∈b,(∃j,r.a=Z j/\i<=j)/\(∀k,r.c=Z k->i<=k)/\∀j∈r.rd,i<=j
 |_::_,[]=>UP
 |r::rs,d::b=>RX1 i r d/\RX i rs b
def CF(i:K)(rs:N Rb):Prop:=∀r∈rs,(∀j,r.a=Z j->j<i)/\(∀k,r.c=Z k->k<i)/\∀j∈r.rd,j<i
def RX.refl(i:K):∀rs:N Rb,RX i rs rs
 |[]=>λr b=>jp b H1
 |r::rs=>⟨⟨O,O,O,λ_ h=>h,λh k a=>(by rw[h]at a;cases a),λ_ h=>h,λ_ h=> .inl h⟩,RX.refl i rs⟩
theorem zbh{i:K}{a:N Rb}(h:RX (i+1) [] a):RX i [] a/\AA i a=[]/\GM i a=[]/\nH i a=[]:=by refine⟨λr b=> ?_,?_,?_,?_⟩;have⟨⟨j,h1,c⟩,d,f⟩:=h r b;grind;refine xeq.2 λr b=>S λe=> ?_;have:=(h r b).2.1 i e;lia;refine xeq.2 λr b=>S λe=> ?_;have⟨j,h1,c⟩:=(h r b).1;grind;refine xeq.2 λr b=>S λe=> ?_;have:=(h r b).2.2 i e;lia
theorem RX1.step{i:K}{r r1 e:Rb}(h:RX1 (i+1) r1 e)(f:r1.a=r.a)(g:r1.o=r.o)(l:r1.x=r.x)(hc:∀k,r.c=Z k->r1.c=Z k)(m:r.c=wS->∀k,r1.c=Z k->k=i)(hd:∀j∈r.rd,j∈r1.rd)(n:∀j∈r1.rd,j∈r.rd\/j=i):RX1 i r e:={
 a:=h.a.trans f
 o:=h.o.trans g
 x:=h.x.trans l
 c1:=λk b=>h.c1 k<|hc k b
 c2:=λhn k b=>by
  cases h1:r1.c with
  |none=>have:=h.c2 h1 k b;lia
  |some q=>
   have:=h.c1 q h1;simp_all
 d1:=λj d=>h.d1 j<|hd j d
 d2:=λj d=>by
  obtain h1|h1:=h.d2 j d
  grind;exact .inr<|by lia}
theorem OD{i:K}:∀{rs b:N Rb},CF i rs->RX (i+1) rs b->RX i rs b/\AA i b=[]/\GM i b=[]/\nH i b=[]
 |[],b,_,h=>zbh h
 |r::rs,[],_,h=>h.elim
 |r::rs,d::b,f,⟨h1,n⟩=>by
  have⟨g1,g,j,l⟩:=OD (λq o=>f q<|FS _ o) n;have⟨q1,q2,t⟩:=f r<|IR;have e1:d.c≠Z i:=λe=>by
   cases hc:r.c with
   |none=>have:=h1.c2 hc i e;lia
   |some k=>have:=h1.c1 k hc;rw[e]at this;cases this;have:=q2 i hc;lia
  have p:d.a≠Z i:=λe=>by rw[h1.a]at e;have:=q1 i e;lia
  have s:i∉d.rd:=λe=>by
   obtain h|h:=h1.d2 i e
   grind;lia
  refine⟨⟨h1.step O O O (λ_ h=>h) (λhn k m=>(by rw[hn]at m;cases m)) (λ_ h=>h)<|λ_ h=> .inl h,g1⟩,?_,?_,?_⟩;unfold AA at g⊢;rw[xaQ,S e1];exact g;unfold GM at j⊢;rw[xaQ,S p];exact j;unfold nH at l⊢;rw[xaQ,S s];exact l
def zhd{i:K}{os:N K}:∀{rs b:N Rb},CF i rs->RX (i+1) (zhw i os rs) b->RX i rs b/\AA i b=[]/\GM i b=[]/\∀e∈lL os rs,e∈nH i b
 |[],b,_,h=>by
  have⟨g1,d,f,_⟩:=zbh h;exact⟨g1,d,f,λe he=>jp he H1⟩
 |r::rs,[],_,h=>h.elim
 |r::rs,g::b,t,⟨h1,z⟩=>by
  have⟨g1,d,f,l⟩:=zhd (rs:=rs) (λq A=>t q<|FS _ A) z;have⟨q1,q2,E⟩:=t r<|IR;have⟨r1,p⟩:∃r1,r1=(match r.c,fc os r.o with|none,true=>(⟨r.a,wS,i::r.rd,r.o,r.x⟩:Rb)|_,_=>r):=⟨_,O⟩;have h1:RX1 (i+1) r1 g:=by rw[p];exact h1
  have k1:r1.a=r.a/\r1.o=r.o/\r1.x=r.x/\r1.c=r.c/\(∀j∈r.rd,j∈r1.rd)/\(∀j∈r1.rd,j∈r.rd\/j=i):=by rw[p];split;simp_all;simp_all
  have⟨u,v,y,m,B,s⟩:=k1;have e1:g.c≠Z i:=λe=>by
   cases hc:r.c with
   |none=>have:=h1.c2 (m.trans hc) i e;lia
   |some k=>have:=h1.c1 k<|m.trans hc;rw[e]at this;cases this;have:=q2 i hc;lia
  have C:g.a≠Z i:=λe=>by rw[h1.a,u]at e;have:=q1 i e;lia
  refine⟨⟨h1.step u v y (λk n=>m.trans n) (λhn k n=>by rw[m,hn]at n;cases n) B s,g1⟩,?_,?_,?_⟩;unfold AA at d⊢;rw[xaQ,S e1];exact d;unfold GM at f⊢;rw[xaQ,S C];exact f;intro e he;unfold lL at he;unfold nH at l⊢;rw[xaQ];split at he;rename_i hc D;have hi:i∈g.rd:=h1.d1 i (by rw[p,hc,D];exact IR);rw[Q hi];obtain rfl|he:=xai.1 he
  rw[h1.o,h1.x,v,y];exact IR;exact FS _<|l e he;split;exact l e he;exact FS _<|l e he
def zj7{i:K}:∀{ob:N (K×Od)}{b:N Rb},RX (i+1) (zeC i ob) b->RX i [] b/\AA i b=[]/\GM i b=ob/\nH i b=[]
 |[],b,h=>zbh h
 |e::ob,[],h=>h.elim
 |e::ob,d::b,⟨h1,n⟩=>by
  have⟨g1,f,g,l⟩:=zj7 n;have e1:d.c≠Z i:=λe=>by have:=h1.c2 O i e;lia
  have m:=h1.a;have p:i∉d.rd:=λe=>by
   obtain h|h:=h1.d2 i e
   cases h
   lia
  refine⟨λr hr=> ?_,?_,?_,?_⟩;obtain rfl|hr:=xai.1 hr
  exact⟨⟨i,m,Nm _⟩,λk q=>by have:=h1.c2 O k q;lia,λj s=>by
   obtain h|h:=h1.d2 j s
   cases h
   lia⟩
  exact g1 r hr;unfold AA at f⊢;rw[xaQ,S e1];exact f;unfold GM at g⊢;rw[xaQ,Q m,g,h1.o,h1.x];unfold nH at l⊢;rw[xaQ,S p];exact l
def zcp{i:K}{os:N K}{ob:N (K×Od)}:∀{rs b:N Rb},CF i rs->RX (i+1) (zaG i os rs++zeC i ob) b->RX i rs b/\AA i b=lL os rs/\GM i b=ob/\nH i b=[]
 |[],b,_,h=>zj7 h
 |r::rs,[],_,h=>h.elim
 |r::rs,d::b,n,⟨h1,A⟩=>by
  have⟨g1,B,p,s⟩:=zcp (rs:=rs) (λq C=>n q<|FS _ C) A;have⟨q1,q2,D⟩:=n r<|IR;have⟨r1,f⟩:∃r1,r1=(match r.c,fc os r.o with|none,true=>(⟨r.a,Z i,r.rd,r.o,r.x⟩:Rb)|_,_=>r):=⟨_,O⟩;have h1:RX1 (i+1) r1 d:=by rw[f];exact h1
  have k1:r1.a=r.a/\r1.o=r.o/\r1.x=r.x/\r1.rd=r.rd/\(∀k,r.c=Z k->r1.c=Z k)/\(r.c=wS->∀k,r1.c=Z k->k=i):=by rw[f];split;simp_all;exact⟨O,O,O,O,λ_ h=>h,λhn k t=>(by rw[hn]at t;cases t)⟩
  have⟨u,v,y,l,E,m⟩:=k1;have F:d.a≠Z i:=λe=>by rw[h1.a,u]at e;have:=q1 i e;lia
  have G:i∉d.rd:=λe=>by
   obtain h|h:=h1.d2 i e
   rw[l]at h;have:=D i h;lia;lia
  refine⟨⟨h1.step u v y E m (λj g=>by rw[l];exact g) (λj g=>by rw[l]at g;exact .inl g),g1⟩,?_,?_,?_⟩
  have no:r1=r->d.c≠Z i:=λhd e=>by
   rw[hd]at h1
   cases hc:r.c with
   |none=>have:=h1.c2 hc i e;lia
   |some k=>have:=h1.c1 k hc;rw[e]at this;cases this;have:=q2 i hc;lia
  have hv:lL os (r::rs)=(match r.c,fc os r.o with|none,wT=>(r.o,r.x)::lL os rs|_,_=>lL os rs):=O;have J:AA i (d::b)=if d.c=Z i then(d.o,d.x)::AA i b else AA i b:=by unfold AA;rw[xaQ];split<;>next h=>split at h<;>simp_all
  rw[J,hv,B]
  cases hc:r.c with
  |some k=>
   rw[S<|no<|by rw[f,hc]]
  |none=>
   cases z:fc os r.o with
   |false=>rw[S<|no<|by rw[f,hc,z]]
   |true=>
    have:d.c=Z i:=h1.c1 i (by rw[f,hc,z]);rw[Q this,h1.o,h1.x,v,y]
  unfold GM at p⊢;rw[xaQ,S F];exact p;unfold nH at s⊢;rw[xaQ,S G];exact s
def zjE{i:K}:∀{ob:N (K×Od)}{b:N Rb},RX i (zsu ob) b->Jo (λr=>r.a.isNone) b=ob
 |[],b,h=>xeq.2 λr d=>by
  have⟨⟨j,h1,_⟩,_⟩:=h r d;simp[h1]
 |e::ob,[],h=>h.elim
 |e::ob,f::b,⟨h1,g⟩=>by
  have c:=zjE g;unfold Jo at c⊢;have:f.a=wS:=h1.a;simp only[xaQ,this,Option.isNone_none,Z4];rw[c,h1.o,h1.x]
theorem zkX{i:K}{os:N K}{rs:N Rb}(h:CF i rs):CF (i+1) (zhw i os rs):=by
 induction rs with
 |nil=>exact λr a=>jp a H1
 |cons r rs b=>
  intro q hq;obtain rfl|hq:=xai.1 hq
  have⟨q1,q2,c⟩:=h r<|IR;split;grind;grind;exact b (λq hq=>h q<|FS _ hq) q hq
theorem zdt{i:K}{os:N K}{rs:N Rb}(h:CF i rs):CF (i+1) (zaG i os rs):=by
 induction rs with
 |nil=>exact λr a=>jp a H1
 |cons r rs b=>
  intro q hq;obtain rfl|hq:=xai.1 hq
  have⟨q1,q2,c⟩:=h r<|IR;split;grind;grind;exact b (λq hq=>h q<|FS _ hq) q hq
def zmU{i:K}{ob:N (K×Od)}{rs:N Rb}(h:CF (i+1) rs):CF (i+1) (rs++zeC i ob):=λq hq=>by
 obtain hq|hq:=xab.1 hq
 exact h q hq;obtain⟨e,_,rfl⟩:=xat.1 hq;simp_all
theorem zge{i:K}{rs:N Rb}(h:CF i rs):CF (i+1) rs:=λr a=>by
 have⟨q1,q2,b⟩:=h r a;grind
theorem zrh{i n:K}{os:N K}{rs:N Rb}(h:∀r∈rs,r.o<n):∀r∈zhw i os rs,r.o<n:=by
 induction rs with
 |nil=>exact λr a=>jp a H1
 |cons r rs b=>
  intro q hq;obtain rfl|hq:=xai.1 hq
  grind;simp_all
theorem zni{i n:K}{os:N K}{rs:N Rb}(h:∀r∈rs,r.o<n):∀r∈zaG i os rs,r.o<n:=by
 induction rs with
 |nil=>exact λr a=>jp a H1
 |cons r rs b=>
  intro q hq;obtain rfl|hq:=xai.1 hq
  grind;simp_all
theorem zg7{n:K}{os:N K}:∀{rs:N Rb},(∀r∈rs,r.o<n)->∀e∈lL os rs,e.1<n
 |[],_,e,a=>jp a H1
 |r::rs,h,e,a=>by
  have c:=zg7 (os:=os) λq b=>h q<|FS _ b;unfold lL at a;split at a;grind;grind
def zdC:∀(rs:N Rb),S9 rs=Jo (λr=>r.c.isNone) rs
 |[]=>rfl
 |r::rs=>by
  have a:=zdC rs;unfold Jo at a⊢;unfold S9
  cases hc:r.c with
  |none=>simp only[xaQ,hc,Option.isNone_none,Z4];rw[a]
  |some k=>simp only[xaQ,hc];exact a
def dc{ts:N Wf}:∀{rg:N (K×K×Dv)}{e:K×K×Dv},e∈dF ts rg->e∈rg/\fc ts e.1=wT
 |(t,i,v)::r,e,h=>by
  unfold dF at h;split at h;rename_i b;obtain rfl|h:=xai.1 h
  simp_all;have⟨h1,a⟩:=dc h;exact⟨FS _ h1,a⟩;have⟨h1,a⟩:=dc h;exact⟨FS _ h1,a⟩
def rf{ts:N Wf}{t i:K}(ht:fc ts t=wT):∀{rg:N (K×K×Dv)},oi (dF ts rg) t i=oi rg t i
 |[]=>rfl
 |(b,c,v)::r=>by
  unfold dF;split;unfold oi;rw[rf ht];rename_i a;rw[rf ht];conv=>rhs;unfold oi
  rw[YM<|λe=>by rw[e,ht]at a;cases a];rfl
def zdJ{t i:K}:∀{a b:N (K×K×Dv)},oi (a++b) t i=match oi a t i with|some d=>Z d|none=>oi b t i
 |[],b=>rfl
 |(c,e,v)::a,b=>by
  show(bif xah c t && xah e i then Z v else oi (a++b) t i)=(match(bif xah c t && xah e i then Z v else oi a t i)with|some d=>Z d|none=>oi b t i);cases f:xah c t && xah e i
  simp only[Wt];exact zdJ;rfl
theorem zmS{l:N K}{t:K}(h:fc l t=wT):t∈l:=by grind [fc,yb]
def AL:∀{l:N (K×Dv)}{e:K×Dv}{p:K},e∈l->vv e.2=Z p->p∈sP l
 |(i,v)::r,e,p,h,hp=>by
  unfold sP;obtain rfl|h:=xai.1 h
  simp_all;have:=AL h hp;split;simp_all;lia
theorem zh4{d:V Wf}{rg:N (K×K×Dv)}{e:K×Dv}(h:e∈Cv d rg):∃t,d=Z t/\(t,e.1,e.2)∈rg:=by
 unfold Cv at h;split at h;rename_i t;have⟨q,c,a⟩:=xee.1 h;split at a;rename_i b;rw[<-yb b];grind;cases a
 cases h
def zaJ(P:uS)(vs:K->wW)(n0:K)(Γ:N FF)(i7:xj)(cx σ:Sg)(KL:N (Wf×N (K×Dv))):Prop:=∀i9,(∀p,p<n0->i9 p=vs p)->zpo P i9 Γ i7 cx σ (KV P i9 KL)
def zdv(cx:Sg)(KL:N (Wf×N (K×Dv))):Prop:=∀e∈KL,Wx cx.rg e.1=wT
def bF{KL:N (Wf×N (K×Dv))}{l:N (K×Dv)}{d:V Wf}(hd:wM cx d=wT)(h:zdv cx KL):zdv cx (HH d l KL):=by
 cases d with
 |none=>exact h
 |some s=>
  intro e he;obtain rfl|he:=xai.1 he
  exact hd;exact h e he
def iU{n0:K}{Γ:N FF}{KL:N (Wf×N (K×Dv))}{l:N (K×Dv)}{o:Xs}(hd:wM cx o.dst=wT)(h:zaJ P vs n0 Γ i7 cx σ KL):zaJ P vs n0 Γ i7 cx (σ.put o.dst l) (HH o.dst l KL):=λi9 hv=>by
 rw[zhM];exact zjO hd (h i9 hv) λS v w hv=>hv
def PnR(b:V (K×PX))(i n:K)(a:V (K×PX)):Prop:=a=b\/(b=wS/\∃i0 q,a=Z (i0,q)/\i<=i0/\i0<i+n)
def PnR.up{b a:V (K×PX)}{i n:K}(h:PnR b (i+1) n a):PnR b i (n+1) a:=by
 obtain h|⟨h,i0,q,h1,c,d⟩:=h
 exact .inl h;exact .inr ⟨h,i0,q,h1,W,W⟩
theorem PnR.ne{b a:V (K×PX)}{i n:K}(h:PnR b (i+1) n a)(hi:∀i0 q,b=Z (i0,q)->i0<i)(q:PX):a≠Z (i,q):=λe=>by
 obtain h|⟨h,i0,c,h1,d,f⟩:=h
 grind;grind
def PnR.of_some{a:V (K×PX)}{e:K×PX}{i n:K}(h:PnR (Z e) i n a):a=Z e:=by
 obtain h|⟨h,_⟩:=h
 exact h;cases h
def zot(P:uS)(b:N Xs)(we:qR)(Se:K->Prop)(mE:N MF)(Γ:N FF)(i7:xj)(vs:K->wW)(n0:K)(c:V (K×PX))(rs:N Rb):N ((Xs×N (K×Dv))×Oi)->K->N (Wf×N (K×Dv))->Prop
 |[],_,_=>Wr
 |((o,L),a)::r,i,KL=>(isD b (c.map (·.1)) i=I->ObB P b.toArray we Se mE Γ i7 vs n0 rs KL i o L a)/\(∀q,c=Z (i,q)->nH i rs=[]/\ObP P b.toArray we Se mE Γ i7 vs n0 q rs KL i o)/\zot P b we Se mE Γ i7 vs n0 c rs r (i+1) (HH o.dst L KL)
def FU{P:uS}{b:N Xs}{we:qR}{Se:K->Prop}{mE:N MF}{Γ:N FF}{i7:xj}{vs:K->wW}{n0:K}{d:V (K×PX)}{rs:N Rb}:∀(r:N (Xs×N (K×Dv))) (is:N Oi) (n:K) (KL:N (Wf×N (K×Dv))) (i:K) (x:Xs×N (K×Dv)) (a:Oi),
 zot P b we Se mE Γ i7 vs n0 d rs (r.zip is) n KL->r[i]? =Z x->is[i]? =Z a->(isD b (d.map (·.1)) (n+i)=I->ObB P b.toArray we Se mE Γ i7 vs n0 rs (bS (r.take i) KL) (n+i) x.1 x.2 a)/\∀q,d=Z (n+i,q)->nH (n+i) rs=[]/\ObP P b.toArray we Se mE Γ i7 vs n0 q rs (bS (r.take i) KL) (n+i) x.1
 |[],_,_,_,_,_,_,h,c,_=>by simp at c
 |_::_,[],_,_,_,_,_,_,_,h=>by simp at h
 |(o,L)::r,e::is,n,KL,0,x,a,h,c,hc=>by simp at c hc;subst c;subst hc;exact⟨h.1,h.2.1⟩
 |(o,L)::r,e::is,n,KL,i+1,x,a,h,c,hc=>by
  have:=FU r is (n+1) (HH o.dst L KL) i x a h.2.2 (by simpa using c) (by simpa using hc);rw[(W:n+1+i=n+(i+1))]at this;simpa[bS]using this
def BJ(hT:yT P cf.tt)(hL:uf P cf.tt)(hC:∀s∈cf.cs,yU P s)(hX:BZ P cf){u:N Xs}{fz:N K}{k:V (K×PX)->Sg->N Rb->N Oi->V R}{Γ:N FF}{n0:K}(hF:∀e∈cx.ob,e.1<n0):∀{os:N Xs}{i:K}{E:V (K×PX)}{σ:Sg}{rs:N Rb}{is:N Oi}{KL:N (Wf×N (K×Dv))},
 SI cf cx u fz E os i σ rs is k=Z r->(∀i0 q,E=Z (i0,q)->i0<i)->zaJ P vs n0 Γ i7 cx σ KL->zdv cx KL->σ.ob=[]->Bd cx σ->(∀r∈rs,r.o<σ.nx)->CF i rs->n0<=σ.nx->
 ∃(x:V (K×PX)) (Ls:N (N<|K×Dv)) (z:N Oi) (m6:Sg) (y:N Rb),PnR E i (X os) x/\X Ls=X os/\X z=X os/\k x m6 y (is++z)=Z r/\RX i rs y/\
  zot P u fr.we fr.Se (MS vs cx.ob++fr.F) Γ i7 vs n0 x y ((os.zip Ls).zip z) i KL/\zaJ P vs n0 Γ i7 cx m6 (bS (os.zip Ls) KL)/\zdv cx (bS (os.zip Ls) KL)/\m6.ob=[]/\Bd cx m6/\(∀r∈y,r.o<m6.nx)/\n0<=m6.nx
 |[],i,E,σ,rs,is,KL,h,hH,hi,hn,ho,hB,hr,J,h0=>⟨E,[],[],σ,rs,.inl O,O,O,by rw[xbo];exact h,RX.refl _ _,jP,hi,hn,ho,hB,hr,h0⟩
 |o::os,i,E,σ,rs,is,KL,h,hH,hi,hn,ho,hB,hr,J,h0=>by
  unfold SI at h;have⟨hd,h⟩:=yf h;have hG:∀i0 q,E=Z (i0,q)->i0<i+1:=λi0 q e=>Nat.lt_succ_of_lt<|hH i0 q e;cases hJ:znF u E i<;>rw[hJ]at h
  case true=>
   obtain⟨i0,q0,rfl⟩:∃i0 q0,E=some (i0,q0):=by
    cases E with
    |none=>cases hJ
    |some e=>exact⟨e.1,e.2,O⟩
   have⟨x,Ls,z,m6,y,hc,h1,T,U,Y,h5,h6,h7,h8,h9,hu,hy⟩:=BJ hT hL hC hX hF (os:=os) h hG (iU (l:=[]) hd hi) (bF hd hn) ho (AZ hB λe he=>jp he H1) hr (zge J) h0;have⟨g1,g2,M,g4⟩:=OD J Y;have hK:x=Z (i0,q0):=hc.of_some;refine⟨x,[]::Ls,⟨σ.nx,σ.nx,[]⟩::z,m6,y,hc.up,by simp[h1],by simp[T],by rw[<-U];simp,g1,⟨λhD=> ?_,λq hq=>jp hq<|hc.ne hH q,h5⟩,h6,h7,h8,h9,hu,hy⟩;exfalso;rw[hK]at hD;have hJ:vQ u 16 i i0=wT:=hJ;simp[isD,hJ]at hD
  simp only[PG]at h;have⟨C,b,h,hW,hP,a2,hU,a3⟩:=zhh h hB;have hE:∀{i9 H S w},(∀p,p<n0->i9 p=vs p)->zC S Γ w->Jl (KV P i9 KL) i7 H S w (xbm u.toArray o)->∀t∈xbm u.toArray o,Lk P i9 H S w cx σ t:=λ{i9 H S w} hv a D t ht=>hi i9 hv H S w a t<|nB D t ht;cases b
  ·have b2:zaJ P vs n0 Γ i7 cx (C.put o.dst [(0,.un)]) (HH o.dst [(0,.un)] KL):=iU hd λi9 hv H S w a t ht=>hU P i9 H S w t<|hi i9 hv H S w a t ht;have⟨x,Ls,z,m6,y,hc,h1,T,U,Y,h5,h6,h7,h8,h9,hu,hy⟩:=BJ hT hL hC hX hF (os:=os) h hG b2 (bF hd hn) (hW.trans ho) (AZ a2 λe he p hp=>by obtain rfl:=xad.1 he;cases hp) (λr hz=>by show r.o<C.nx;rw[hP];exact hr r hz) (zge J) (by show n0<=C.nx;rw[hP];exact h0);have⟨g1,g2,M,g4⟩:=OD J Y;refine⟨x,[(0,.un)]::Ls,⟨C.nx,C.nx,[]⟩::z,m6,y,hc.up,by simp[h1],by simp[T],by rw[<-U];simp,g1,⟨λ_=>⟨(by show n0<=C.nx;rw[hP];exact h0),Nm _,λe he p hp=>(by obtain rfl:=xad.1 he;cases hp),λe he=>(by rw[M]at he;cases he),λi9 hv H F G w B=>⟨λhw=> ?_,λ_=>⟨g2,M,λS w=>⟨O,jP⟩⟩⟩⟩,λq hq=>jp hq<|hc.ne hH q,h5⟩,h6,h7,h8,h9,hu,hy⟩;exfalso;have⟨S,_,a⟩:=B.ex;have:=a3 P i9 H S w λt ht=>hE hv (zC.left a.2) a.1 t ht;rw[hw]at this;cases this
  ·have⟨c,h,a4,b3,hA,a5⟩:=zkW h a2;have hY:∀i9 H S w t,Lk P i9 H S w cx σ t->Lk P i9 H S w cx c t:=λi9 H S w t ht=>a5 P i9 H S w t<|hU P i9 H S w t ht;have hZ:zaJ P vs n0 Γ i7 cx c KL:=λi9 hv H S w a t ht=>hY i9 H S w t<|hi i9 hv H S w a t ht;have Q:c.nx=σ.nx:=b3.trans hP;have hQ:∀{i9 H S w},(∀p,p<n0->i9 p=vs p)->zC S Γ w->Jl (KV P i9 KL) i7 H S w (xbm u.toArray o)->yX u.toArray H o=wT:=λ{i9 H S w} hv a D=>a3 P i9 H S w λt ht=>hE hv a D t ht;generalize hI:xbm u.toArray o=ts at h hE hQ;generalize c5:gu ts c.rg=L at h;generalize c6:fzB fz o.dst=bz at h;cases hM:(znR cf cx ⟨c.nx,c.rg,lL L rs⟩ bz o.dst o.op||(zmd cf cx c o.op).isSome)<;>rw[hM]at h
   ·simp only[PG]at h;have⟨l,h,b4⟩:=zm3 (P:=P) (d:=o.dst) (ty:=o.type) (m7:=o.pos) (xS:=o.after) (g:=o.guard) (F:=[]) hT hL hC hX h;have⟨hl,h⟩:=yf h;have⟨x,Ls,z,m6,y,hc,h1,T,U,Y,h5,h6,h7,h8,h9,hu,hy⟩:=BJ hT hL hC hX hF (os:=os) h hG (iU hd hZ) (bF hd hn) (a4.trans<|hW.trans ho) (AZ hA<|SY hl) (zrh λr hz=>by show r.o<c.nx;rw[Q];exact hr r hz) (zkX J) (by show n0<=c.nx;rw[Q];exact h0);have⟨g1,g2,M,g4⟩:=zhd J Y;refine⟨x,l::Ls,⟨c.nx,c.nx,sP l⟩::z,m6,y,hc.up,by simp[h1],by simp[T],by rw[<-U];simp,g1,⟨λ_=>⟨(by show n0<=c.nx;rw[Q];exact h0),Nm _,λe he p hp=>⟨SY hl e he p hp,AL he hp⟩,λe he=>(by rw[M]at he;cases he),λi9 hv H F G w B=>⟨λ_=> ?_,λhw=> ?_⟩⟩,λq hq=>jp hq<|hc.ne hH q,h5⟩,h6,h7,h8,h9,hu,hy⟩
    ·rw[g2]at B;rw[M];have⟨k1,k2,k3,S,k4,k5,k6,k7,k8⟩:=B;have hN:MS i9 cx.ob=MS vs cx.ob:=wC λe he=>hv _<|hF e he;refine(b4 H w S i9 k5 (Yv.2 λmf hmf=> ?_) λt ht=> ?_).mono ?_
     ·obtain hmf|hmf:=xab.1 hmf
      ·obtain⟨e,he,rfl⟩:=xat.1 hmf;exact Yv.1 k7 _<|xab.2 (.inl<|xat.2 ⟨e,g4 e he,O⟩)
      ·rw[xbo]at hmf;have hmf:mf∈MS i9 cx.ob:=hmf;rw[hN]at hmf;exact Yv.1 k7 _<|xab.2 (.inr<|xab.2 (.inl<|xab.2 (.inl hmf)))
     ·have D:Jl (KV P i9 KL) i7 H S w (xbm u.toArray o):=k8.1;exact hY i9 H S w t<|hE hv (zC.left k8.2) (hI▸D) t<|hI▸xab.2 (.inl ht)
     ·rintro v w' ⟨hx,hf⟩;refine⟨i9,λ_ _=>O,k1.trans hx,k2,k3,S,k4,λk hk=>k5 k<|xal hx.size hk,k6,yP.keep hx.to (λm hm i hi=>hx.block i (yP.lt k7 m hm i hi) jP) k7,zC.append (ud.2 λf b5=> ?_)<|zC.keep hx.to k8.2⟩;obtain⟨e,he,rfl⟩:=xat.1 b5;exact hf e he
    ·exfalso;have⟨S,_,a⟩:=B.ex;have D:Jl (KV P i9 KL) i7 H S w (xbm u.toArray o):=a.1;have:=hQ hv (zC.left a.2)<|hI▸D;rw[hw]at this;cases this
   ·simp only[PG]at h;have hN:∀{vs2:K->wW},(∀p,p<n0->vs2 p=vs p)->MS vs2 cx.ob=MS vs cx.ob:=λhv=>wC λe he=>hv _<|hF e he
    have hV:∀{i9:K->wW}{H:xj}{F:N MF}{G:N FF}{w:qR},(∀p,p<n0->i9 p=vs p)->St fr.we fr.Se (MS i9 (lL L rs)++((MS vs cx.ob++fr.F)++F)) (Lo (KV P i9 KL) i7 H (xbm u.toArray o)::(Γ++G)) w->
     fT P ⟨fr.we,fr.Se,fr.F++F,Γ++G⟩ ⟨0,[],cx.ob⟩ ⟨c.nx,dd<|dF ts<|c.rg++cx.rg,lL L rs⟩ i9 H w:=by
     intro i9 H F G w hv B;refine⟨⟨λe he=>zg7 (λr hz=>by rw[Q];exact hr r hz) e he,hA.o2,λe he p hp=> ?_,λe he=>jp he H1⟩,?_⟩
     ·have:=(dc<|GB he).1;obtain h|h:=xab.1 this
      ·exact hA.r1 e h p hp
      ·exact hA.r2 e h p hp
     ·show St fr.we fr.Se (MS i9 (lL L rs)++(MS i9 cx.ob++(fr.F++F))) (RS P i9 H (dd<|dF ts<|c.rg++cx.rg)++([]++(Γ++G))) w;rw[hN hv,<-xar<|MS vs cx.ob];refine B.weak λS w a=>zC.append (ud.2 λf hf=> ?_) a.2;obtain⟨e,he,rfl⟩:=xat.1 hf;have D:Jl (KV P i9 KL) i7 H S w (xbm u.toArray o):=a.1;have a6:=(dc<|GB he).2;have a7:=zbY he;rw[rf a6,zdJ]at a7;exact hY i9 H S w e.1 (hE hv (zC.left a.2) (hI▸D) e.1<|zmS a6) e.2.1 e.2.2 a7
    rcases ziy (P:=P) (cx:=⟨0,[],cx.ob⟩) (d:=o.dst) (ty:=o.type) (m7:=o.pos) (xS:=o.after) (g:=o.guard) hT hL hC hX (by cases o.dst<;>rfl) h with⟨τ,h,b6,hm⟩|⟨q,a9,h,_,hm⟩;rotate_left
    ·cases E with
     |some e=>cases h
     |none=>
      have⟨x,Ls,z,m6,y,hc,h1,T,U,Y,h5,h6,h7,h8,h9,hu,hy⟩:=BJ hT hL hC hX hF (os:=os) h (λi0 q e=>by cases e;lia) (iU (l:=[]) hd hZ) (bF hd hn) (a4.trans<|hW.trans ho) (AZ hA λe he=>jp he H1) (zni λr hz=>by show r.o<c.nx;rw[Q];exact hr r hz) (zdt J) (by show n0<=c.nx;rw[Q];exact h0);have b7:RX (i+1) (zaG i L rs++zeC i []) y:=by rw[show zeC i []=[]from O,xbo];exact Y
      have⟨g1,g2,M,g4⟩:=zcp J b7;have hK:x=Z (i,q):=hc.of_some;refine⟨x,[]::Ls,⟨c.nx,c.nx,[]⟩::z,m6,y,.inr ⟨O,i,q,hK,Nm _,rC⟩,by simp[h1],by simp[T],by rw[<-U];simp,g1,⟨λhD=> ?_,λq' hq=>⟨g4,?_⟩,h5⟩,h6,h7,h8,h9,hu,hy⟩
      ·exfalso;rw[hK]at hD;simp[isD]at hD
      ·rw[hK]at hq;cases hq;intro i9 hv H F G w B;rw[g2]at B;have⟨S,_,a⟩:=B.ex;have D:Jl (KV P i9 KL) i7 H S w (xbm u.toArray o):=a.1;refine⟨hQ hv (zC.left a.2)<|hI▸D,(hm _ i9 H w<|hV hv B).mono ?_⟩;rintro ch w' ⟨b9,_,hs⟩;refine⟨b9,?_⟩;have hs:St fr.we fr.Se ([]++(MS i9 a9.ob++(MS i9 cx.ob++(fr.F++F)))) (RS P i9 H a9.rg++([]++(Γ++G))) w':=hs;have hs:=St.dropM (A:=[]) hs;rw[hN hv,<-xar<|MS vs cx.ob]at hs;exact St.weak (show St fr.we fr.Se (MS vs cx.ob++fr.F++F) _ w' from hs) λS w a=>zC.right a
    have⟨j,a0⟩:∃j,j=zra bz o.dst τ:=⟨_,O⟩;simp only at h;rw[<-a0]at h;have b0:j.nx=τ.nx:=by rw[a0];cases bz<;>first|rfl|exact Rv _ _
    have h':∀{a1:Fr}{vs2:K->wW}{H w},fT P a1 ⟨0,[],cx.ob⟩ τ vs2 H w->fT P a1 ⟨0,[],cx.ob⟩ j vs2 H w:=λ{a1 vs2 H w} hq=>by rw[a0];cases bz<;>first|exact hq|exact pX _ hq
    unfold zm9 at h;have⟨hl,h⟩:=yf h;rw[xae]at hl;have⟨hl,hR⟩:=hl;have hR:∀e∈j.ob,e.1<j.nx:=λe he=>by
     have:=xaT.1 hR e he;have:=xbF this;lia
    have hg:c.nx<=j.nx:=by rw[b0];exact b6
    have c0:zaJ P vs n0 Γ i7 cx ⟨j.nx,qI c.rg o.dst<|Cv o.dst j.rg,[]⟩ (HH o.dst (Cv o.dst j.rg) KL):=λi9 hv=>iU (l:=Cv o.dst j.rg) hd hZ i9 hv;have c1:Bd cx ⟨j.nx,qI c.rg o.dst<|Cv o.dst j.rg,[]⟩:=by
     refine⟨λe he=>jp he H1,λe he=>xag (hA.o2 e he) hg,λe he p hp=> ?_,λe he p hp=>xag (hA.r2 e he p hp) hg⟩;have he:e∈qI c.rg o.dst (Cv o.dst j.rg):=he;unfold qI at he;split at he
     ·obtain he|he:=xab.1 he
      ·obtain⟨e',c2,rfl⟩:=xat.1 he;exact SY hl e' c2 p hp
      ·exact xag (hA.r1 e (xbW.1 he).1 p hp) hg
     ·exact xag (hA.r1 e he p hp) hg
    have⟨x,Ls,z,m6,y,hc,h1,T,U,Y,h5,h6,h7,h8,h9,hu,hy⟩:=BJ hT hL hC hX hF (os:=os) h hG c0 (bF hd hn) O c1 (λq hq=>by
     obtain hq|hq:=xab.1 hq
     ·exact xag (zni (n:=c.nx) (λr hz=>by rw[Q];exact hr r hz) q hq) hg
     ·obtain⟨e,he,rfl⟩:=xat.1 hq;exact hR e he) (zmU (zdt J)) (xal (by rw[Q];exact h0) hg)
    have⟨g1,g2,M,g4⟩:=zcp J Y;refine⟨x,Cv o.dst j.rg::Ls,⟨c.nx,j.nx,sP<|Cv o.dst j.rg⟩::z,m6,y,hc.up,by simp[h1],by simp[T],by rw[<-U];simp,g1,⟨λ_=>⟨(by show n0<=c.nx;rw[Q];exact h0),hg,λe he p hp=>⟨SY hl e he p hp,AL he hp⟩,λe he=>hR e (by rw[M]at he;exact he),λi9 hv H F G w B=>⟨λ_=> ?_,λhw=> ?_⟩⟩,λq hq=>jp hq<|hc.ne hH q,h5⟩,h6,h7,h8,h9,hu,hy⟩
    ·rw[g2,g4,xbo]at B;rw[M,g4];refine(hm _ i9 H w<|hV hv B).mono ?_;rintro v w' ⟨vs2,b1,c3⟩;have⟨_,hS⟩:=h' c3;refine⟨vs2,b1,?_⟩;have hS:St fr.we fr.Se (MS vs2 j.ob++(MS vs2 cx.ob++(fr.F++F))) (RS P vs2 (put H o.dst v) j.rg++([]++(Γ++G))) w':=hS;rw[hN (vs2:=vs2)<|λp hp=>(b1 p<|xag hp (by show n0<=c.nx;rw[Q];exact h0)).trans<|hv p hp,<-xar<|MS vs cx.ob]at hS;refine St.weak (show St fr.we fr.Se (MS vs2 j.ob++(MS i9 []++(MS vs cx.ob++fr.F++F))) _ w' from hS) λS w a=>zC.append (ud.2 λf hf=> ?_)<|zC.right a;obtain⟨e,he,rfl⟩:=xat.1 hf;have⟨t,ht,c4⟩:=zh4 he;have:=Kv (zC.left a) c4;rw[ht,ED]at this;exact this
    ·exfalso;have⟨S,_,a⟩:=B.ex;have D:Jl (KV P i9 KL) i7 H S w (xbm u.toArray o):=a.1;have:=hQ hv (zC.left a.2)<|hI▸D;rw[hw]at this;cases this
def qOf:V (K×PX)->PX
 |some e=>e.2
 |none=>(0,0)
def zaa{o:Xs}{x:N (wL×Dv)}{t:Wf}:∀{L:N (Xs×N (wL×Dv))}{K:N (Wf×N (wL×Dv))},(o,x)∈L->o.dst=Z t->∃y,(t,y)∈bS L K
 |(d,f)::L,K,h,ht=>by
  obtain h|h:=xai.1 h
  cases h;have:∀{L:N (Xs×N (wL×Dv))}{K:N (Wf×N (wL×Dv))}{e},e∈K->e∈bS L K:=by
   intro L
   induction L with
   |nil=>exact λh=>h
   |cons a L c=>
    intro K e b;refine c ?_
    cases g:a.1.dst with
    |none=>exact b
    |some s=>exact FS _ b
  exact⟨x,show(t,x)∈bS L (HH o.dst x K)from this<|by rw[ht];exact IR⟩;exact zaa (L:=L) h ht
def zlD{l:N K}{t:K}(h:t∈l):fc l t=wT:=by unfold fc;simp_all
def zfg{l:N Xs}{i m:K}(hi:i<m)(b:m<=X l):zU l i∈l.take m:=by
 have a:i<X l:=W
 rw[show zU l i=l[i]by simp[zU,a]];exact xbv<|by rw[xbK,Q hi];exact xaa a
def Eu:∀(rs:N Rb),LR rs=Jo Ux rs
 |[]=>rfl
 |r::rs=>by
  rw[rM];unfold LR Ux;rw[Eu rs];cases r.a<;>cases r.c<;>rfl
def zg9(hm:P.follows .mixedOrders=wT)(hT:yT P cf.tt)(hL:uf P cf.tt)(hC:∀s∈cf.cs,yU P s)(hX:BZ P cf){N:Nd}{id m:wL}{fz:ww wL}{l:ww Xs}{Q:Qs}{kp:PX->Sg->V R}{k:Sg->V R}
 (hP:∀q m6,kp q m6=Z r->∀C w,oH cx H C->uK P fr cx m6 C w->Q (.panic<|tF q) C w) (hK:∀m6,k m6=Z r->∀C w,oH cx H C->uK P fr cx m6 C w->Q .normal C w) (hN:(l.all λo=>jM N.n o.dst)=wT) (hc:Vu l m=wT) (h:zmr cf cx fz l m σ kp k=Z r) (hR:uK P fr cx σ H w):Wp P N (.region id l.toArray wT) Q H w:=by
 unfold zmr at h;have⟨B,vs,hO⟩:=hR;obtain⟨σ0,rfl⟩:∃σ0,σ0=σ:=⟨σ,O⟩;have h9:m<=X l:=(Y2 hc).1
 have⟨A,Ls,is,m6,rs,hQ,h1,h2,L,h4,h5,hE,hB,h',Y,hF,hS⟩:=BJ (P:=P) (fr:=fr) (vs:=vs) (i7:=H) (Γ:=GS P vs H fr cx σ0) (n0:=σ0.nx) (KL:=[]) hT hL hC hX B.o2 h (λ_ _ e=>by cases e)
  (λi9 hv C S w' z t ht i dv hd=>by
   have ht:C t=H t:=ht;rw[ht];have hg:get cx σ0 t i=Z dv:=hd;have:=Y9 z t i dv hg;have hU:vU P i9 dv (H t) i=vU P vs dv (H t) i:=by
    unfold vU;simp only[mF (P:=P) (i9:=i9) (vs:=vs) (d:=dv) λo D=>hv o (by
     obtain hm|hm:=DB hg
     exact B.r1 _ hm o D;exact B.r2 _ hm o D)]
   rw[hU];exact this) (λ_ u=>jp u H1) O ⟨λ_ u=>jp u H1,B.o2,B.r1,B.r2⟩ (λq E=>by
    obtain⟨e,u,rfl⟩:=xat.1 E;exact B.o1 e u) (λq E=>by
    obtain⟨e,u,rfl⟩:=xat.1 E;exact⟨λj hj=>(by cases hj),λj hj=>(by cases hj),λj hj=>jp hj H1⟩) (Nm _)
 simp only[xbM]at L;have⟨hx,L⟩:=yf L;have hV:=zjE h4;have hG:∀i x g,((l.take m).zip Ls)[i]? =Z x->is[i]? =Z g->isD l (A.map (·.1)) i=I->ObB P l.toArray fr.we fr.Se (MS vs cx.ob++fr.F) (GS P vs H fr cx σ0) H vs σ0.nx rs (bS (((l.take m).zip Ls).take i) []) i x.1 x.2 g:=λi x g a b c=>by
  have:=(FU _ is 0 [] i x g h5 a b).1;rw[xaD]at this;exact this c
 have hH:∀i0 q,A=Z (i0,q)->i0<m:=λi0 q e=>by
  obtain h|⟨_,i1,q1,g1,g2,g3⟩:=hQ
  rw[h]at e;cases e
  rw[e]at g1;cases g1;rw[xas]at g3;lia
 refine zmB (we:=fr.we) (Se:=fr.Se) (ms:=OS vs fr cx σ0.ob) (mE:=MS vs cx.ob++fr.F) (A.map (·.1)) (qOf A) m Ls is rs (m6.rg.map (·.1)++cx.rg.map (·.1)) vs σ0.nx hm hc (by rw[h1,xas];lia) (by rw[h2,xas];lia) hx (by rw[hV]) hN (λi0 e=>by
  cases A with
  |none=>cases e
  |some M=>cases e;exact hH _ _ O) hG (λi0 x e hW=> ?_) (λhD v w1 i9 hl hI hn=> ?_) (λhD=> ?_) w hO
 cases A with
 |none=>cases e
 |some M=>
  have⟨i1,q1⟩:=M;cases e;have a0:=hH _ _ O;have:=(FU _ is 0 [] i1 x (is[i1]'(by rw[h2,xas];lia)) h5 hW<|xaa _).2 q1;rw[xaD]at this;exact this O
 cases A with
 |none=>cases hD
 |some M=>
  have⟨i1,q1⟩:=M;have hJ:∀i,i<m->∀t,(zU l i).dst=Z t->Wx cx.rg t=wT:=λi hi t ht=>by
   have hY:i<X l:=W
   have⟨x,hZ⟩:∃x,((l.take m).zip Ls)[i]? =some (zU l i,x):=⟨Ls[i]'(by rw[h1,xas];lia),by rw[xeX];refine⟨?_,rC⟩;rw[xbK,iq hi];simp[zU,hY]⟩
   have⟨y,hy⟩:=zaa (K:=[]) (xbv hZ) ht;exact hB _ hy
  have hw:∀e0∈cx.rg,v e0.1=H e0.1:=λe0 T=>hI e0.1 λi hi hd=>by
   have:=hJ i hi _ hd;simp only[Wx,xaT]at this;have:=this e0 T;simp at this
  have hz:∀e∈σ0.rg.filter (λe=> !fc (zhk<|l.take m) e.1),e∈σ0.rg/\v e.1=H e.1:=λe u=>by
   have⟨u,U⟩:=xbW.1 u;refine⟨u,hI e.1 λi hi hd=> ?_⟩;have:fc (zhk<|l.take m) e.1=wT:=zlD<|xee.2 ⟨zU l i,zfg hi W,hd⟩;rw[this]at U;cases U
  refine hP q1 _ L v w1 hw ⟨⟨λe u=> ?_,Y.o2,λe u p hp=> ?_,Y.r2⟩,i9,?_⟩;rw[Eu]at u;have⟨q,E,u⟩:=xee.1 u;split at u;cases u;exact hF q E
  cases u
  exact xag (B.r1 e (hz e u).1 p hp) hS;show St fr.we fr.Se (MS i9 (LR rs)++(MS i9 cx.ob++fr.F)) (RS P i9 v (σ0.rg.filter<|λe=> !fc (zhk<|l.take m) e.1)++(RS P i9 v cx.rg++fr.G)) w1;rw[Eu,wC (ob:=cx.ob) λe u=>hl _<|B.o2 e u];refine hn.weak λS w2 z=>zC.append ?_<|zC.append ?_<|zC.right<|zC.right z;rw[uv (vs:=vs) (H:=H) (λe u o D=>hl o<|B.r1 e (hz e u).1 o D) λe u=>(hz e u).2];refine ud.2 λf J=> ?_;obtain⟨e,u,rfl⟩:=xat.1 J;exact ud.1 (zC.left z) _<|xat.2 ⟨e,(hz e u).1,O⟩;rw[uv (vs:=vs) (H:=H) (λe u o D=>hl o<|B.r2 e u o D) λe u=>hw e u];exact zC.left<|zC.right z
 obtain rfl:A=none:=by cases A with
  |none=>rfl
  |some e=>cases hD
 simp only at L;intro v w1 i9 hl hn;have hA:S9 rs=Jo (λr=>r.c.isNone) rs:=zdC rs;have hM:∀e∈S9 rs,e.1<m6.nx:=λe u=>by
  rw[hA]at u;have⟨q,E,u⟩:=xee.1 u;split at u;cases u;exact hF q E
  cases u
 have⟨S1,_,h0⟩:=hn.ex;have hw:oH cx H v:=λe0 T=>by
  have h1:=nB h0.1 e0.1<|xab.2 (.inr<|xat.2 ⟨e0,T,O⟩);unfold Xu at h1;have J:(KV P i9<|bS ((l.take m).zip Ls) []).find? (λx=>xah x.1 e0.1)=wS:=by rw[List.find?_eq_none];intro e u U;obtain⟨e1,h6,rfl⟩:=xat.1 u;have:=hB e1 h6;simp only[Wx,xaT]at this;have:=this e0 T;rw[yb U]at this;simp at this
  rw[J]at h1;exact h1
 refine Pk (P:=P) (fr:=fr) hT hL hC hX hK hP hw (zmY hN m) L ⟨⟨hM,Y.o2,λe u=>Y.r1 e<|GB u,Y.r2⟩,i9,?_⟩;show St fr.we fr.Se (MS i9 (S9 rs)++(MS i9 cx.ob++fr.F)) (RS P i9 v (dd m6.rg)++(RS P i9 v cx.rg++fr.G)) w1;rw[hA,wC (ob:=cx.ob) λe u=>hl _<|B.o2 e u];refine hn.weak λS w2 z=> ?_;have hk:=nB z.1;have h7:∀t∈cx.rg.map (·.1),v t=H t:=λt ht=>by
  have h1:=hk t<|xab.2 (.inr ht);unfold Xu at h1;have J:(KV P i9<|bS ((l.take m).zip Ls) []).find? (λx=>xah x.1 t)=wS:=by rw[List.find?_eq_none];intro e u U;obtain⟨e0,T,rfl⟩:=xat.1 u;have:=hB e0 T;obtain⟨M,h8,rfl⟩:=xat.1 ht;simp only[Wx,xaT]at this;have:=this M h8;rw[yb U]at this;simp at this
  rw[J]at h1;exact h1
 refine zC.append ?_<|zC.append ?_<|zC.right<|zC.right z.2;refine ud.2 λf J=> ?_;obtain⟨e,u,rfl⟩:=xat.1 J;have hg:get cx m6 e.1 e.2.1=Z e.2.2:=by unfold get;rw[zbY u]
 exact hE i9 hl v S w2 z.2 e.1 (hk e.1<|xab.2 (.inl<|xat.2 ⟨e,GB u,O⟩)) _ _ hg;rw[uv (vs:=vs) (H:=H) (λe u o D=>hl o<|B.r2 e u o D) λe u=>h7 e.1<|xat.2 ⟨e,u,O⟩];exact zC.left<|zC.right z.2
def E6(x:P.follows .mixedOrders=wT)(d:yT P cf.tt)(e:uf P cf.tt)(f:∀s∈cf.cs,yU P s)(g:BZ P cf){N:Nd}{id:K}{l:ww Xs}{b:ut}{Q:Qs}{kp:PX->Sg->V R}{k:Sg->V R}
 (i:∀q m6,kp q m6=Z r->∀c w,oH cx H c->uK P fr cx m6 c w->Q (.panic<|tF q) c w) (j:∀m6,k m6=Z r->∀c w,oH cx H c->uK P fr cx m6 c w->Q .normal c w) (p:(l.all λo=>jM N.n o.dst)=wT) (h:zhZ cf cx id l b σ kp k=Z r) (t:uK P fr cx σ H w):Wp P N (.region id l.toArray b) Q H w:=by
 unfold zhZ at h;cases b
 exact λa h1 y z=>cS<|Pk d e f g j i oH.refl p h t a h1 y z;simp only[PG]at h;have⟨hc,h⟩:=yf h;generalize zaP l (X l) (X l)=m at hc h;cases A:zqU cf id<;>rw[A]at h
 case true=>
  have⟨u,vs,v⟩:=t;have⟨u,v⟩:=pX (gu (zpN cf id) σ.rg) ⟨u,v⟩;exact zg9 x d e f g i j p hc h ⟨u,vs,v⟩
 exact zg9 x d e f g i j p hc h<|R2 (l.take m) [] t
end
end
section
section
variable{P:uS}{cf:Cf}{fr:Fr}{cx kp σ:Sg}{vs i9:wL->wW}{H i7:xj}{w:qR}{R:Type}{r:R}
def zpE(u:wW)(r:K):V wW:=(xX u)[r]?
def tfF:(f:TF)->f.D->(K->wW)->wW->wW->FF
 |.d t,x,_,_,v=>fV t.rep x v
 |.q t,x,_,_,v=>fP t.rep x v
 |.own _ _,_,_,u,v=>nJ<|v=u
 |.var _ _,_,_,u,v=>nJ (v=u/\∃b,v=.pointer (Z ⟨b,0,wS⟩))
 |.mat _ _ _,_,_,u,v=>nJ<|v=yN u
 |.matv _ _ _,x,_,u,v=>nJ<|RK (yN u) x.2.1 x.2.2 v
 |.row j,r,U,_,v=>nJ<|zpE (U j) r=Z v
 |.view j,r,U,_,v=>nJ<|RK (yN<|U j) r.1 r.2 v
 |.bo _ _ _,_,_,u,v=>nJ<|v=yN u
 |.vr _ _ _ _ _ _,_,_,u,v=>nJ<|v=yN u
def tfM:(f:TF)->f.D->wW->N MF
 |.own t E,xs,u=>[mO t.rep E u xs]
 |.var t E,z,u=>[mP t.rep.c E u z]
 |.mat t E E1,x,u=>[B5 t.rep E E1 u x.1 x.2]
 |.matv t E E1,x,u=>[B5 t.rep E E1 u x.1.1 x.1.2]
 |.bo t E a,xs,u=>[mBo t.rep E a u xs]
 |.vr t E s E1 n i,x,u=>[mVr (vrP s<|xl n t i) t.rep E (X2<|xl n t i) (Zj s (xl n t i) []) s.rep E1 u x.1 x.2]
 |_,_,_=>[]
def dsF(U:K->wW)(H:xj):(l:N (K×TF))->J7 l->K->N FF
 |[],_,_=>[]
 |[a],x,i=>[tfF a.2 x U (U i)<|H a.1]
 |a::b::r,x,i=>tfF a.2 x.1 U (U i) (H a.1)::dsF U H (b::r) x.2 (i+1)
def QZ(U:K->wW):(l:N (K×TF))->J7 l->K->N MF
 |[],_,_=>[]
 |[a],x,i=>tfM a.2 x<|U i
 |a::b::r,x,i=>tfM a.2 x.1 (U i)++QZ U (b::r) x.2 (i+1)
def Wo(f:TF)(dv:V Dv)(vs:K->wW)(v:wW):wW:=match f,dv with
 |.mat _ _ _,Z .nil=>cK v []
 |.mat _ _ _,Z (.mw o)=>vs o
 |.matv _ _ _,Z (.mv o _ _)=>vs o
 |.bo _ _ _,Z (.mw o)=>vs o
 |.vr _ _ _ _ _ _,Z (.mw o)=>vs o
 |_,_=>v
def bN(cx σ:Sg)(ds:N (K×TF))(vs:K->wW)(H:xj)(j:K):wW:=match ds[j]? with
 |some (t,f)=>Wo f (get cx σ t 0) vs<|H t
 |none=>Z9
def NS:∀{os l:N K},DQ os l=wT->∀o∈l,fc os o=I
 |os,o::r,h,p,hp=>by
  simp only[DQ,xae,xcM]at h;obtain rfl|hp:=xai.1 hp;exact h.1;exact NS h.2 p hp
def Np{ds:N (K×TF)}{t:K}{f:TF}{k:f.D->N K->V R}(h:gi cx σ ds t f k=Z r):∃x os,k x os=Z r/\(∀j,Gq f=Z j->j<X ds)/\
 (∀(P:uS) vs H S w,(∀t,Lk P vs H S w cx σ t)->(tfF f x (bN cx σ ds vs H) (Wo f (get cx σ t 0) vs<|H t)<|H t).p S w)/\
 (∀(P:uS) vs (fr:Fr) H (A:N MF) (Γ:N FF) w (g:N K),(∀S w,zC S Γ w->Lk P vs H S w cx σ t)->(∀o∈os,fc g o=I)->St fr.we fr.Se (A++OS vs fr cx (vb σ.ob g)) Γ w->
  St fr.we fr.Se (tfM f x (Wo f (get cx σ t 0) vs<|H t)++(A++OS vs fr cx (vb σ.ob<|os++g))) Γ w):=by
 have Q:∀{f:TF},(∀j,Gq f≠Z j)->∀j,Gq f=Z j->j<X ds:=λh j e=>jp e<|h j
 cases f with
 |d s=>
  have⟨y,h,hy⟩:=zgW h;refine⟨y,[],h,Q (λj e=>by cases e),λP vs H S w hl=> ?_,λP vs fr H A Γ w g _ _ h=>h⟩
  cases a:get cx σ t 0 with
  |none=>rename_i h0;simp only[gi]at h0;rw[a]at h0;cases h0
  |some v=>exact hy P vs S w v _ a<|hl t 0 v a
 |q s=>
  simp only[gi]at h;split at h;rename_i T x a;have⟨e,h⟩:=yq h;subst e;exact⟨_,[],h,Q (λj e=>by cases e),λP vs H S w hl=>hl t 0 _ a,λP vs fr H A Γ w g _ _ h=>h⟩;cases h
 |own s E=>
  simp only[gi]at h;split at h;rename_i o a;split at h;rename_i T E' xs J;have⟨l,h1⟩:=yf h;have l:=yb l;subst l;have⟨e,C⟩:=yq h1;cases e;refine⟨_,[o],C,Q (λj e=>by cases e),λ_ _ _ _ _ _=>by simp only[a,Wo];exact O,λP vs fr H A Γ w g hl hn m=> ?_⟩;have hp:=jG (vs:=vs) (fr:=fr) (cx:=cx)<|(jx<|hn o<|IR).trans J;have B:=St.mid<|St.perm m<|xbp _ hp;have⟨S,_,F⟩:=m.ex;have hv:H t=vs o:=hl S w F 0 _ a;simp only[a,Wo];show St _ _ (mO s.rep E (H t) _::(A++_)) _ _;rw[hv];exact B
  cases h
  rename_i a;refine⟨_,[],h,Q (λj e=>by cases e),λ_ _ _ _ _ _=>by simp only[a,Wo];exact O,λP vs fr H A Γ w g hl hn m=> ?_⟩;have⟨S,_,F⟩:=m.ex;have hv:H t=.slice wS 0 0:=hl S w F 0 _ a;simp only[a,Wo];show St _ _ (mO s.rep E (H t) _::(A++_)) _ _;rw[hv];exact m.nilO;cases h
 |var s E=>
  simp only[gi]at h;split at h;rename_i o s0 a;split at h;rename_i T E' z J;have⟨l,h1⟩:=yf h;have l:=yb l;subst l;have⟨e,C⟩:=yq h1;subst e;refine⟨_,[o],C,Q (λj e=>by cases e),λP vs H S w hl=> ?_,λP vs fr H A Γ w g hl hn m=> ?_⟩;have⟨B,b,h4⟩:=hl t 0 _ a;simp only[a,Wo];exact⟨O,b,B.trans h4⟩;have hp:=jG (vs:=vs) (fr:=fr) (cx:=cx)<|(jx<|hn o<|IR).trans J;have B:=St.mid<|St.perm m<|xbp _ hp;have⟨S,_,F⟩:=m.ex;have hv:H t=vs o:=(hl S w F 0 _ a).1;simp only[a,Wo];show St _ _ (mP T.rep.c E (H t) _::(A++_)) _ _;rw[hv];exact B;cases h
  cases h
 |mat s E E1=>
  simp only[gi]at h;split at h;rename_i o a;split at h;rename_i T E' F' wn ix J;have⟨l,h1⟩:=yf h;rw[xae]at l;have hc:=yb l.1;have hd:=yb l.2;subst hc;subst hd;have⟨e,C⟩:=yq h1;cases e;refine⟨_,[o],C,Q (λj e=>by cases e),λP vs H S w hl=> ?_,λP vs fr H A Γ w g hl hn m=> ?_⟩
  simp only[a,Wo];exact hl t 0 _ a;have hp:=jG (vs:=vs) (fr:=fr) (cx:=cx)<|(jx<|hn o<|IR).trans J;simp only[a,Wo];have B:=St.mid<|St.perm m<|xbp _ hp;exact B;cases h
  rename_i a;refine⟨_,[],h,Q (λj e=>by cases e),λP vs H S w hl=>by simp only[a,Wo];exact O,λP vs fr H A Γ w g hl hn m=> ?_⟩;have⟨S,_,F⟩:=m.ex;have hv:H t=.slice wS 0 0:=hl S w F 0 _ a;simp only[a,Wo];refine SA (u:=cK (H t) []) O ?_;show St _ _ (mO (YT []) E (H t) []::(A++_)) _ _;rw[hv];exact m.nilO;cases h
 |matv s E E1=>
  simp only[gi]at h;split at h;rename_i o lo n a;split at h;rename_i T E' F' wn ix J;have⟨l,h1⟩:=yf h;rw[xae]at l;have hc:=yb l.1;have hd:=yb l.2;subst hc;subst hd;have⟨e,C⟩:=yq h1;cases e;refine⟨_,[o],C,Q (λj e=>by cases e),λP vs H S w hl=> ?_,λP vs fr H A Γ w g hl hn m=> ?_⟩
  simp only[a,Wo];exact hl t 0 _ a;have hp:=jG (vs:=vs) (fr:=fr) (cx:=cx)<|(jx<|hn o<|IR).trans J;simp only[a,Wo];have B:=St.mid<|St.perm m<|xbp _ hp;exact B;cases h
  cases h
 |row j=>
  simp only[gi]at h
  have L:∀(o G p:K),j<X ds->get cx σ t 0=Z (.rw o p)->xah o G=wT->k p []=Z r->(∀vs H,bN cx σ ds vs H j=vs G)->∃(x:K) (os:N K),k x os=Z r/\(∀i,Gq (TF.row j)=Z i->i<X ds)/\
   (∀(P:uS) vs H S w,(∀t,Lk P vs H S w cx σ t)->(tfF (.row j) x (bN cx σ ds vs H) (Wo (.row j) (get cx σ t 0) vs<|H t)<|H t).p S w)/\
   (∀(P:uS) vs (fr:Fr) H (A:N MF) (Γ:N FF) w (g:N K),(∀S w,zC S Γ w->Lk P vs H S w cx σ t)->(∀o∈os,fc g o=I)->St fr.we fr.Se (A++OS vs fr cx (vb σ.ob g)) Γ w->
    St fr.we fr.Se (tfM (.row j) x (Wo (.row j) (get cx σ t 0) vs<|H t)++(A++OS vs fr cx (vb σ.ob<|os++g))) Γ w):=by
   intro o G p he a C B h4;refine⟨p,[],B,λi e=>by cases e;exact he,λP vs H S w hl=> ?_,λP vs fr H A Γ w g _ _ h=>h⟩;have h5:(xX<|vs o)[p]? =Z (H t):=hl t 0 _ a;rw[yb C]at h5;show zpE (bN cx σ ds vs H j) p=Z (H t);rw[h4];exact h5
  split at h;rename_i o p s _ _ _ a M;split at h;rename_i G U;have⟨Y,h⟩:=yf h;exact L o G p (xaz.1 M).1 a Y h λvs H=>by unfold bN;rw[M];simp only[U,Wo]
  cases h
  rename_i o p s _ _ _ a M;split at h;rename_i G lo n U;have⟨Y,h⟩:=yf h;exact L o G p (xaz.1 M).1 a Y h λvs H=>by unfold bN;rw[M];simp only[U,Wo]
  cases h
  cases h
 |view j=>
  simp only[gi]at h
  have L:∀(o G p q:K),j<X ds->get cx σ t 0=Z (.mv o p q)->xah o G=wT->k (p,q) []=Z r->(∀vs H,bN cx σ ds vs H j=vs G)->∃(x:K×K) (os:N K),k x os=Z r/\(∀i,Gq (TF.view j)=Z i->i<X ds)/\
   (∀(P:uS) vs H S w,(∀t,Lk P vs H S w cx σ t)->(tfF (.view j) x (bN cx σ ds vs H) (Wo (.view j) (get cx σ t 0) vs<|H t)<|H t).p S w)/\
   (∀(P:uS) vs (fr:Fr) H (A:N MF) (Γ:N FF) w (g:N K),(∀S w,zC S Γ w->Lk P vs H S w cx σ t)->(∀o∈os,fc g o=I)->St fr.we fr.Se (A++OS vs fr cx (vb σ.ob g)) Γ w->
    St fr.we fr.Se (tfM (.view j) x (Wo (.view j) (get cx σ t 0) vs<|H t)++(A++OS vs fr cx (vb σ.ob<|os++g))) Γ w):=by
   intro o G p q he a C B h4;refine⟨(p,q),[],B,λi e=>by cases e;exact he,λP vs H S w hl=> ?_,λP vs fr H A Γ w g _ _ h=>h⟩;have h5:RK (yN<|vs o) p q (H t):=hl t 0 _ a;rw[yb C]at h5;show RK (yN<|bN cx σ ds vs H j) p q (H t);rw[h4];exact h5
  split at h;rename_i o p q s _ _ _ a M;split at h;rename_i G U;have⟨Y,h⟩:=yf h;exact L o G p q (xaz.1 M).1 a Y h λvs H=>by unfold bN;rw[M];simp only[U,Wo]
  cases h
  rename_i o p q s _ _ _ a M;split at h;rename_i G lo n U;have⟨Y,h⟩:=yf h;exact L o G p q (xaz.1 M).1 a Y h λvs H=>by unfold bN;rw[M];simp only[U,Wo]
  cases h
  cases h
 |bo s E E0=>
  simp only[gi]at h;split at h;rename_i o a;split at h;rename_i T E' F' xs J;have⟨l,h1⟩:=yf h;rw[xae]at l;have hc:=yb l.1;have hd:=yb l.2;subst hc;subst hd;have⟨e,C⟩:=yq h1;cases e;refine⟨_,[o],C,Q (λj e=>by cases e),λP vs H S w hl=> ?_,λP vs fr H A Γ w g hl hn m=> ?_⟩
  simp only[a,Wo];exact hl t 0 _ a;have hp:=jG (vs:=vs) (fr:=fr) (cx:=cx)<|(jx<|hn o<|IR).trans J;simp only[a,Wo];have B:=St.mid<|St.perm m<|xbp _ hp;exact B;cases h
  cases h
 |vr s E s2 E1 n i=>
  simp only[gi]at h;split at h;rename_i o a;split at h;rename_i T E' a0 F' n' i' z xs J;have⟨l,h1⟩:=yf h;rw[xae,xae,xae]at l;have⟨e1,C⟩:=yq h1;have⟨e2,B⟩:=yq C;have hc:=yb l.1;have hd:=yb l.2.1;have hf:=yb l.2.2.1;have hi:=yb l.2.2.2;subst hc;subst hd;subst hf;subst hi;subst e1;cases e2;refine⟨_,[o],B,Q (λj e=>by cases e),λP vs H S w hl=> ?_,λP vs fr H A Γ w g hl hn m=> ?_⟩
  simp only[a,Wo];exact hl t 0 _ a;have hp:=jG (vs:=vs) (fr:=fr) (cx:=cx)<|(jx<|hn o<|IR).trans J;simp only[a,Wo];have B:=St.mid<|St.perm m<|xbp _ hp;exact B;cases h
  cases h
def Dp{ds:N (K×TF)}{i:K}{t:K}{f:TF}{H:xj}(h:ds[i]? =Z (t,f)):bN cx σ ds vs H i=Wo f (get cx σ t 0) vs (H t):=by unfold bN;rw[h]
def znv{ds:N (K×TF)}:∀{l:N (K×TF)}{i:K}{k:J7 l->N K->V R},(∀j a,l[j]? =Z a->ds[i+j]? =Z a)->gat cx σ ds l k=Z r->∃x os,k x os=Z r/\(∀a∈l,∀j,Gq a.2=Z j->j<X ds)/\
 (∀(P:uS) vs H S w,(∀t,Lk P vs H S w cx σ t)->zC S (dsF (bN cx σ ds vs H) H l x i) w)/\
 (∀(P:uS) vs (fr:Fr) H (Γ:N FF) w,(∀S w,zC S Γ w->∀t,Lk P vs H S w cx σ t)->St fr.we fr.Se (OS vs fr cx σ.ob) Γ w->St fr.we fr.Se (QZ (bN cx σ ds vs H) l x i++OS vs fr cx (vb σ.ob os)) Γ w)
 |[],i,k,_,h=>⟨(),[],h,λ_ h=>jp h H1,λ_ _ _ _ _ _=>jP,λ_ _ _ _ _ _ _ h=>h⟩
 |[a],i,k,hd,h=>by
  have⟨x,os,h1,h0,g,m⟩:=Np (h:gi cx σ ds a.1 a.2 k=Z r);have f:ds[i]? =Z (a.1,a.2):=hd 0 a O;refine⟨x,os,h1,λb z j e=> ?_,λP vs H S w hl=>⟨?_,jP⟩,λP vs fr H Γ w hl n=> ?_⟩;simp_all;rw[Dp f];exact g P vs H S w hl;have:=m P vs fr H [] Γ w [] (λS w d=>hl S w d a.1) (λ_ _=>O) n;rw[xbo]at this;show St _ _ (tfM a.2 x (bN cx σ ds vs H i)++_) _ _;rw[Dp f];exact this
 |a::b::l,i,k,hd,h=>by
  have⟨x,o,h1,h0,g,m⟩:=Np (h:gi cx σ ds a.1 a.2 _=Z r);have⟨y,os,p,q,s,u⟩:=znv (l:=b::l) (i:=i+1) (λj c v=>by
   have:=hd (j+1) c (by simpa using v);rw[(W:i+1+j=i+(j+1))];exact this) h1
  have⟨hn,p⟩:=yf p;have f:ds[i]? =Z (a.1,a.2):=hd 0 a O;refine⟨(x,y),o++os,p,λc hc j e=> ?_,λP vs H S w hl=>⟨?_,s P vs H S w hl⟩,λP vs fr H Γ w hl n=> ?_⟩;obtain rfl|hc:=xai.1 hc
  exact h0 j e;exact q c hc j e;rw[Dp f];exact g P vs H S w hl;have:=m P vs fr H (QZ (bN cx σ ds vs H) (b::l) y<|i+1) Γ w os (λS w d=>hl S w d a.1) (NS hn)<|u P vs fr H Γ w hl n;show St _ _ ((tfM a.2 x (bN cx σ ds vs H i)++QZ (bN cx σ ds vs H) (b::l) y (i+1))++_) _ _;rw[Dp f,xar];exact this
def nvs(vs U:K->wW)(n:K):K->wW:=λk=>if k<n then vs k else U (k-n)
theorem zbz{n0:K}:∀{l:N (K×TF)}{x:J7 l}{o:K},∀e∈(oz n0 l x o).2,o<=e.1/\e.1<o+X l
 |[],_,_,e,a=>jp a H1
 |[(t,f)],x,o,e,a=>by
  cases f<;>simp only[oz]at a<;>first|exact jp a H1|(obtain rfl:=xad.1 a;exact⟨Nm _,xdL _⟩)
 |(t,f)::b::l,x,o,e,a=>by
  have c:∀e∈(oz n0 (b::l) x.2<|o+1).2,o<=e.1/\e.1<o+X ((t,f)::b::l):=λe a=>by
   have:=zbz e a;grind
  cases f<;>simp only[oz]at a<;>first
   |exact c e a
   |exact(xai.1 a).elim (λa=>by subst a;exact⟨Nm _,by simp only[xaw];lia⟩)<|λa=>c e a
def Sw{n0 o p n:K}{f:TF}{x:f.D}(hn:∀j,Gq f=Z j->j<n)(h:vv (HI n0 o f x).1=Z p):p=o\/p<n0+n:=by
 cases f<;>simp only[HI,vv,xav,WR]at h
 lia;lia;lia;lia
 next j=>have:=hn j O;exact .inr W
 next j=>have:=hn j O;exact .inr W
 lia;lia
def OO{n0 n:K}:∀{l:N (K×TF)}{x:J7 l}{o:K},(∀a∈l,∀j,Gq a.2=Z j->j<n)->∀e∈(oz n0 l x o).1,∀p,vv e.2.2=Z p->p<o+X l\/p<n0+n
 |[],_,_,_,e,he=>jp he H1
 |[(t,f)],x,o,hn,e,he=>by
  intro p hp;obtain rfl:=xad.1 (show e∈[(t,0,(HI n0 o f x).1)]from he);rcases Sw (hn _<|IR) hp with rfl|h
  simp_all;lia
 |(t,f)::b::l,x,o,hn,e,he=>by
  intro p hp;have he:e=(t,0,(HI n0 o f x.1).1)\/e∈(oz n0 (b::l) x.2<|o+1).1:=xai.1 he;obtain rfl|he:=he
  rcases Sw (hn _<|IR) hp with rfl|h
  simp_all;lia;rcases OO (λa c=>hn a<|FS _ c) e he p hp with h|h
  simp only[xaw]at h⊢;exact .inl W
  exact .inr h
theorem Nv{U:K->wW}{n0:K}:∀{l:N (K×TF)}{x:J7 l}{o i:K},(∀j,j<X l->vs (o+j)=U (i+j))->MS vs (oz n0 l x o).2=QZ U l x i
 |[],_,_,_,_=>rfl
 |[(t,f)],x,o,i,h=>by
  have h0:vs o=U i:=h 0 rC;cases f<;>simp only[oz,HI,MS,xbP,xdR,Ug,QZ,tfM,h0]<;>rfl
 |(t,f)::b::l,x,o,i,h=>by
  have h0:vs o=U i:=h 0 rC;have a:MS vs (oz n0 (b::l) x.2<|o+1).2=QZ U (b::l) x.2 (i+1):=Nv λj c=>by
   have:=h (j+1) (by simpa using c);grind
  unfold MS at a;cases f<;>simp only[oz,HI,MS,xbP,Ug,QZ,h0,a]<;>rfl
def LU{U:K->wW}{n0 n:K}{f:TF}{x:f.D}{o t:K}{u:wW}{S:K->Prop}(hv:vs o=u)(hn:∀j,Gq f=Z j->j<n)(a:∀j,j<n->vs (n0+j)=U j)(h:(tfF f x U u<|H t).p S w):(vU P vs (HI n0 o f x).1 (H t) 0).p S w:=by
 subst hv;cases f
 exact h;exact h;exact h;have⟨h1,b,c⟩:=h;exact⟨h1,b,h1.symm.trans c⟩;exact h;exact h;rename_i j;show zpE (vs<|n0+j) x=Z (H t);rw[a j<|hn j O];exact h;rename_i j;show RK (yN<|vs<|n0+j) x.1 x.2 (H t);rw[a j<|hn j O];exact h;exact h;exact h
def zaW{U:K->wW}{n0 n:K}(d:∀j,j<n->vs (n0+j)=U j):∀{l:N (K×TF)}{x:J7 l}{o i:K}{S:K->Prop},(∀a∈l,∀j,Gq a.2=Z j->j<n)->(∀j,j<X l->vs (o+j)=U (i+j))->zC S (dsF U H l x i) w->zC S (RS P vs H (oz n0 l x o).1) w
 |[],_,_,_,_,_,_,_=>trivial
 |[(t,f)],x,o,i,S,hn,h,c=>⟨LU (h 0 rC) (hn _<|IR) d c.1,jP⟩
 |(t,f)::b::l,x,o,i,S,hn,h,c=>⟨LU (h 0 rC) (hn _<|IR) d c.1,zaW d (λa e=>hn a<|FS _ e) (λj g=>by
  have:=h (j+1) (by simpa using g);rw[(W:o+1+j=o+(j+1)),(W:i+1+j=i+(j+1))];exact this) c.2⟩
theorem zg5:∀{ns:N (K×NF)},zmW cx σ ns=wT->∀t f,(t,f)∈ns->(match f,get cx σ t 0 with
 |.kb b,Z (.kb c)=>b==c
 |.nil,Z .nil=>wT
 |.ci x,Z (.d .i y)=>eqI x y
 |.cu x,Z (.d .u y)=>eqU x y
 |.al s,Z (.ow o)=>(match get cx σ s 0 with
  |some (.ow a)=>xah o a
  |_=>I)
 |.al s,Z (.vs o _)=>(match get cx σ s 0 with
  |some (.vs a _)=>xah o a
  |_=>I)
 |.al s,Z (.mw o)=>(match get cx σ s 0 with
  |some (.mw a)=>xah o a
  |_=>I)
 |.bm s f,Z (.bm f' o _)=>(match get cx σ s 0 with
  |some (.vs a _)=>xah o a && xah f f'
  |_=>I)
 |_,_=>I)=wT
 |(e,f')::r,h,t,f,hm=>by
  unfold zmW at h;rw[xae]at h;obtain g|hm:=xai.1 hm
  grind;exact zg5 h.2 t f hm
def zcT{rg:N (K×K×Dv)}{S:K->Prop}(a:zC S (RS P vs H rg) w):∀{ns:N (K×NF)},(∀t f,(t,f)∈ns->match f with
 |.kb b=>H t=.bool b
 |.nil=>H t=.slice wS 0 0
 |.ci x=>(fV eI x<|H t).p S w
 |.cu x=>(fV eU x<|H t).p S w
 |.al s=>H t=H s
 |.bm s f=>H t=.func (.func f) #[H s] #[])->zC S (RS P vs H (O4 rg ns)) w
 |[],_=>a
 |(t,f)::r,h=>by
  have c:=zcT a (ns:=r) λt f d=>h t f<|FS _ d;have h0:=h t f<|IR;unfold O4;show zC S (RS P vs H<|_++_) w;rw[show RS P vs H (_++O4 rg r)=RS P vs H _++RS P vs H (O4 rg r)from xaO];refine zC.append ?_ c;cases f
  exact⟨h0,jP⟩;exact⟨h0,jP⟩;exact⟨h0,jP⟩;exact⟨h0,jP⟩;rename_i s;simp only;split;rename_i v hv;have:=Kv a<|nA hv;have h0:H t=H s:=h0;refine⟨?_,jP⟩;simp_all;trivial;rename_i s f;simp only;split;rename_i o q hv;have⟨h1,e⟩:=Kv a<|nA hv;have h0:H t=.func (.func f) #[H s] #[]:=h0;exact⟨⟨by rw[h0,h1],e⟩,jP⟩;trivial
def zaC{rg:N (K×K×Dv)}{n:K}(a:∀e∈rg,∀p,vv e.2.2=Z p->p<n):∀{ns:N (K×NF)},∀e∈O4 rg ns,∀p,vv e.2.2=Z p->p<n
 |[],e,he=>a e he
 |(t,f)::r,e,he=>by
  intro p hp;unfold O4 at he;obtain he|he:=xab.1 he
  cases f
  obtain rfl:=xad.1 he;cases hp
  obtain rfl:=xad.1 he;cases hp
  obtain rfl:=xad.1 he;cases hp
  obtain rfl:=xad.1 he;cases hp
  simp only at he;split at he;rename_i v hv;obtain rfl:=xad.1 he;exact a _ (nA hv) p hp;simp_all;simp only at he;split at he;rename_i o q hv;obtain rfl:=xad.1 he;cases hp;exact a _ (nA hv) _ O
  exact jp he H1;exact zaC a e he p hp
def ZG:∀(l:N (K×TF)) {σ:Sg},uK P fr cx σ H w->uK P fr cx (zf7 cx σ l) H w
 |[],_,h=>h
 |(t,.d _)::r,_,h=>ZG r<|ND _ h
 |(t,.q _)::r,_,h=>ZG r h
 |(t,.own _ _)::r,_,h=>ZG r h
 |(t,.var _ _)::r,_,h=>ZG r h
 |(t,.mat _ _ _)::r,_,h=>ZG r h
 |(t,.matv _ _ _)::r,_,h=>ZG r h
 |(t,.row _)::r,_,h=>ZG r h
 |(t,.view _)::r,_,h=>ZG r h
 |(t,.bo _ _ _)::r,_,h=>ZG r h
 |(t,.vr _ _ _ _ _ _)::r,_,h=>ZG r h
end
end
section
section
variable{P:uS}{cf:Cf}{fr:Fr}{cx kp σ:Sg}{vs i9:wL->wW}{H i7:xj}{w:qR}{R:Type}{r:R}{N:Nd}{Q:Qs}
def ll{a b:ww (K×K×Dv)}:RS P vs H (a++b)=RS P vs H a++RS P vs H b:=xaO
def oU{sh:Sh}{k:J7 sh.ds->V R}(h:dh (qV cx kp) sh σ k=Z r)(y:Bd cx kp):∃x,k x=Z r/\∀(fr:Fr) H w,uK P fr (qV cx kp) σ H w->uK P fr cx (Kp sh x kp) H w:=by
 unfold dh at h;simp only at h;have⟨ht,h⟩:=yf h;have⟨x,os,h1,h0,L,u⟩:=znv (ds:=sh.ds) (i:=0) (λj a C=>by rw[xaD];exact C) h;refine⟨x,h1,λfr H w M=> ?_⟩;have T:=ZG sh.ds M;generalize zf7 (qV cx kp) σ sh.ds=g at*
 have⟨hB,vs,hv⟩:=T;have hi:=u P vs fr H (GS P vs H fr (qV cx kp) g) w (λS w q=>Y9 q) hv;have Y:=St.dropM hi;generalize hw:bN (qV cx kp) g sh.ds vs H=U at*
 have hd:∀o,o<kp.nx->nvs vs U kp.nx o=vs o:=λo ho=>iq ho;have D:∀j,j<X sh.ds->nvs vs U kp.nx (kp.nx+j)=U (0+j):=λj C=>by
  unfold nvs;rw[zG,(W:kp.nx+j-kp.nx=j),xaD]
 have hz:=λe he=>zbz (n0:=kp.nx) (l:=sh.ds) (x:=x) (o:=kp.nx) e he;have E:∀e∈(oz kp.nx sh.ds x kp.nx).1,∀p,vv e.2.2=Z p->p<kp.nx+X sh.ds:=λe he p hp=>by
  rcases OO (n0:=kp.nx) (n:=X sh.ds) (l:=sh.ds) (x:=x) (o:=kp.nx) h0 e he p hp with h|h<;>exact h
 refine⟨⟨λe he=> ?_,λe he=> ?_,λe he p hp=> ?_,λe he p hp=> ?_⟩,nvs vs U kp.nx,?_⟩
 ·obtain he|he:=xab.1 he
  ·exact(hz e he).2
  ·exact xag (y.o1 e he)<|xbH _ _
 ·exact xag (y.o2 e he)<|xbH _ _
 ·obtain he|he:=xab.1 he
  ·obtain he|he:=xab.1 he
   ·exact zaC (λe he p hp=>E e he p hp) e he p hp
   ·exact E e he p hp
  ·exact xag (y.r1 e he p hp)<|xbH _ _
 ·exact xag (y.r2 e he p hp)<|xbH _ _
 ·have e1:OS (nvs vs U kp.nx) fr cx ((oz kp.nx sh.ds x kp.nx).2++kp.ob)=QZ U sh.ds x 0++(MS vs (kp.ob++cx.ob)++fr.F):=by
   show MS _ (_++kp.ob)++(MS _ cx.ob++_)=_
   rw[show MS (nvs vs U kp.nx) ((oz kp.nx sh.ds x kp.nx).2++kp.ob)=MS _ _++MS _ _ from xaO,Nv D,wC λe he=>hd _<|y.o1 e he,wC (ob:=cx.ob) λe he=>hd _<|y.o2 e he,
    show MS vs (kp.ob++cx.ob)=MS _ _++MS _ _ from xaO,xar,xar]
  show St _ _ (OS (nvs vs U kp.nx) fr cx<|(oz kp.nx sh.ds x kp.nx).2++kp.ob) _ _;rw[e1];refine Y.weak λS w q=> ?_;have hl:∀t,Lk P vs H S w (qV cx kp) g t:=Y9 q;have J:zC S (RS P (nvs vs U kp.nx) H (oz kp.nx sh.ds x kp.nx).1) w:=zaW (U:=U) (n:=X sh.ds) (λj C=>by rw[D j C,xaD]) h0 D (by rw[<-hw];exact L P vs H S w hl);have K:zC S (RS P vs H kp.rg++RS P vs H cx.rg) w:=by
   have:=zC.left<|zC.right q;rwa[show RS P vs H (qV cx kp).rg=RS P vs H kp.rg++RS P vs H cx.rg from xaO]at this
  have hn:=zcT J (ns:=sh.ns) λt f hm=>by
   have d:=zg5 ht t f hm;cases f
   ·split at d<;>simp_all
    next b c u=>exact hl t 0 _ u
   ·split at d<;>simp_all
    next u=>exact hl t 0 _ u
   ·split at d<;>simp_all
    next a b u=>
    have:=hl t 0 _ u;simp only[eqI,UL]at d;rw[d];exact this
   ·split at d<;>simp_all
    next a b u=>
    have:=hl t 0 _ u;simp only[eqU,UL]at d;rw[d];exact this
   ·next s=>
    cases hc:get (qV cx kp) g t 0 with
    |none=>rw[hc]at d;cases d
    |some v=>
     rw[hc]at d;cases v<;>simp only[xaj]at d
     ·next o=>
      cases m:get (qV cx kp) g s 0 with
      |none=>rw[m]at d;cases d
      |some z=>
       rw[m]at d;cases z<;>simp only[xaj]at d;have A:H t=vs o:=hl t 0 _ hc;have B:=hl s 0 _ m;have:=yb d;subst this;exact A.trans (show H s=_ from B).symm
     ·next o _=>
      cases m:get (qV cx kp) g s 0 with
      |none=>rw[m]at d;cases d
      |some z=>
       rw[m]at d;cases z<;>simp only[xaj]at d;have A:H t=vs o:=(hl t 0 _ hc).1;have B:=(hl s 0 _ m).1;have:=yb d;subst this;exact A.trans B.symm
     ·next o=>
      cases m:get (qV cx kp) g s 0 with
      |none=>rw[m]at d;cases d
      |some z=>
       rw[m]at d;cases z<;>simp only[xaj]at d;have A:H t=yN (vs o):=hl t 0 _ hc;have B:=hl s 0 _ m;have:=yb d;subst this;exact A.trans (show H s=_ from B).symm
   ·next s f=>
    cases hc:get (qV cx kp) g t 0 with
    |none=>rw[hc]at d;cases d
    |some v=>
     rw[hc]at d;cases v<;>simp only[xaj]at d
     next f' o _=>
     cases m:get (qV cx kp) g s 0 with
     |none=>rw[m]at d;cases d
     |some z=>
      rw[m]at d;cases z<;>simp only[xaj]at d;rw[xae]at d;have A:=(hl t 0 _ hc).1;have B:=(hl s 0 _ m).1;have e1:=yb d.1;have e2:=yb d.2;subst e1;subst e2;show H t=.func (.func f) #[H s] #[];rw[B];exact A
  show zC S (RS P _ H ((O4 (oz kp.nx sh.ds x kp.nx).1 sh.ns++(oz kp.nx sh.ds x kp.nx).1)++kp.rg)++(RS P _ H cx.rg++fr.G)) w;refine zC.append ?_<|zC.append ?_<|zC.right<|zC.right q
  ·rw[ll,ll];refine zC.append (zC.append hn J) ?_;rw[uv (λe he p hp=>hd _<|y.r1 e he p hp)<|λ_ _=>O];exact zC.left K
  ·rw[uv (λe he p hp=>hd _<|y.r2 e he p hp)<|λ_ _=>O];exact zC.right K
def zjz{a t:Tg}(hp:∀q,t≠ .p q)(h:za4 a t=wT):a=t:=by
 cases a<;>cases t<;>first|rfl|cases h|skip
 rw[yb (show xah _ _=wT from h)];simp_all
def zm6{t:Tg}(d:Bd cx kp){a:Tg×Sh}{k:zbH a->V R}(ht:za4 a.1 t=wT)(h:zpP (qV cx kp) σ t a k=Z r):∃(y:zbH a) (c:Sg),k y=Z r/\(∀{e:Type} (K:Tg->Sg->V e),ziS kp K a y=K t c)/\∀(fr:Fr) H w,uK P fr (qV cx kp) σ H w->uK P fr cx c H w:=by
 obtain⟨τ,sh⟩:=a
 cases τ with
 |p q0=>
  cases t with
  |p q=>
   obtain⟨x,h1,b⟩:=oU (show dh (qV cx kp) sh σ (λx=>k (q,x))=Z r from h) d;exact⟨(q,x),_,h1,λK=>O,b⟩
  |n=>cases ht
  |x i=>cases ht
  |r=>cases ht
 |n=>
  obtain⟨x,h1,b⟩:=oU (show dh (qV cx kp) sh σ k=Z r from h) d
  cases t with
  |n=>exact⟨x,_,h1,λK=>O,b⟩
  |_=>cases ht
 |x i=>
  obtain⟨x,h1,b⟩:=oU (show dh (qV cx kp) sh σ k=Z r from h) d
  cases t with
  |x j=>
   obtain rfl:i=j:=yb ht;exact⟨x,_,h1,λK=>O,b⟩
  |_=>cases ht
 |r=>
  obtain⟨x,h1,b⟩:=oU (show dh (qV cx kp) sh σ k=Z r from h) d
  cases t with
  |r=>exact⟨x,_,h1,λK=>O,b⟩
  |_=>cases ht
def SE{t:Tg}(f:Bd cx kp):∀{l:ww (Tg×Sh)}{k:SmD l->V R},zfR (qV cx kp) σ t l k=Z r->∃(y:SmD l) (c:Sg),k y=Z r/\(∀{g:Type} (K:Tg->Sg->V g),RI kp K l y=K t c)/\∀(fr:Fr) H w,uK P fr (qV cx kp) σ H w->uK P fr cx c H w
 |[],k,h=>by cases h
 |[a],k,h=>by
  obtain⟨ht,h⟩:=yf h;obtain⟨y,c,h1,d,e⟩:=zm6 f ht h;exact⟨y,c,h1,λK=>d K,e⟩
 |a::b::l,k,h=>by
  unfold zfR at h;cases ht:za4 a.1 t<;>rw[ht]at h
  ·obtain⟨y,c,h1,d,e⟩:=SE f h;exact⟨.inr y,c,h1,λK=>d K,e⟩
  ·obtain⟨y,c,h1,d,e⟩:=zm6 f ht h;exact⟨.inl y,c,h1,λK=>d K,e⟩
abbrev Qd:=iT->ww K->xj->qR->Prop
def qy(D:K):MF where
 blk k:=k=D
 p _ w:=w.heap[D]? =Z (.deferred<|some [])
 keep h _ hb:=(hb D O).trans h
 sub h _:=h
 lt h k a:=by subst a;exact(xbi.1 h).1
def Ri(D:K):oK:={target:=.collected D,args:= #[]}
def Nd.wd(N:Nd)(Ds:ww K):Nd:=⟨N.n,Ds.map Ri++N.ds,N.rd⟩
def Fr.wd(fr:Fr)(Ds:ww K):Fr:=⟨fr.we,fr.Se,Ds.map qy++fr.F,fr.G⟩
def znV(N:Nd)(Q:Qd):iT->V6->qR->Prop:=λe a w=>a.tmps.size=N.n/\∃Ds:ww K,a.defers=Ds.map Ri++N.ds/\Q e Ds (ya a) w
def L4(P:uS)(N:Nd)(c:Wn)(Q:Qd)(Ds:ww K)(H:xj)(w:qR):Prop:=
 ∀a:V6,a.tmps.size=N.n->a.defers=Ds.map Ri++N.ds->ya a=H->c.wpIn N.F 0 P (znV N Q) a w
section
variable{N:Nd}{Q Q':Qd}{Ds:ww wL}
def zoi{c:Wn}(h:Wp P (N.wd Ds) c (λe H w=>Q e Ds H w) H w):L4 P N c Q Ds H w:=λa h1 b d=>WD (h a h1 b d) λe g w' ⟨q1,q2,f⟩=>⟨q1,Ds,q2,f⟩
def znd(K:ww wL->xj->qR->Prop)(Q:Qd):Qd
 |.normal,Ds,H,w=>K Ds H w
 |e,Ds,H,w=>Q e Ds H w
def OB(id:K)(Q:Qd):Qd
 |.exit a,Ds,H,w=>bif xah a id then Q .normal Ds H w else Q (.exit a) Ds H w
 |e,Ds,H,w=>Q e Ds H w
def zrd(Q:Qd):Qd
 |.goto _,_,_,_=>UP
 |e,Ds,H,w=>Q e Ds H w
def Dx{x y:Wn}(h:L4 P N x (znd (L4 P N y Q) Q) Ds H w):L4 P N (.seq x y) Q Ds H w:=by intro a h1 d f;refine gS<|WD (h a h1 d f) ?_;intro e g w' ⟨q1,b,q2,c⟩;cases e<;>first|exact c g q1 q2 O|exact⟨q1,b,q2,c⟩
def zka{c:Wn}(h:L4 P N c Q Ds H w)(d:∀e Ds H w,Q e Ds H w->Q' e Ds H w):L4 P N c Q' Ds H w:=
 λa h1 f g=>WD (h a h1 f g) λe j w' ⟨q1,b,q2,i⟩=>⟨q1,b,q2,d e _ _ _ i⟩
def Lq{id:K}{c:Wn}(h:L4 P N c (OB id Q) Ds H w):L4 P N (.block id c) Q Ds H w:=by
 intro a h1 g j;refine wpIn_block<|WD (h a h1 g j) ?_;intro e k w' ⟨q1,b,q2,d⟩
 cases e with
 |exit i=>
  simp only[OB]at d;simp only[Exit.inBlock];cases f:xah i id
  rw[f]at d;rw[S<|λe=>by subst e;simp at f];exact⟨q1,b,q2,d⟩;rw[f]at d;rw[iq<|xdy f];exact⟨q1,b,q2,d⟩
 |_=>exact⟨q1,b,q2,d⟩
def zeu{c:Wn}(h:L4 P N c (zrd Q) Ds H w):L4 P N (.scope c) Q Ds H w:=by intro a h1 f g;refine zbo<|WD (h a h1 f g) ?_;intro e i w' ⟨q1,b,q2,d⟩;cases e<;>first|exact⟨q1,b,q2,d⟩|exact d.elim
def TZ{c:Wn}{G:Type}(q:G->ww K->xj->qR->Prop)(i:G->K)(d:G)(f:q d Ds H w)(round:∀g Ds H w,q g Ds H w->L4 P N c (znd (λb l w'=>∃h,q h b l w'/\i h<i g) Q) Ds H w):L4 P N (.loop c) Q Ds H w:=by
 intro a h1 j m;refine zcu (λg a w=>a.tmps.size=N.n/\∃Ds:ww K,a.defers=Ds.map Ri++N.ds/\q g Ds (ya a) w) i d ⟨h1,Ds,j,m▸f⟩ ?_;intro g a w ⟨h1,Ds,j,o⟩;refine WD (round g Ds (ya a) w o a h1 j O) ?_;intro e p w' ⟨q1,b,q2,k⟩
 cases e with
 |normal=>have⟨h,o1,o2⟩:=k;exact⟨h,⟨q1,b,q2,o1⟩,o2⟩
 |_=>exact⟨q1,b,q2,k⟩
def EY{c:ul}{x y:Wn}(hc:ev H c=.bool wT)(h:L4 P N x Q Ds H w):L4 P N (.cond c x y) Q Ds H w:=
 λa h1 d b=>wpIn_cond_true (by rw[Uo,b];exact hc)<|h a h1 d b
def Gb{c:ul}{x y:Wn}(hc:ev H c=.bool I)(h:L4 P N y Q Ds H w):L4 P N (.cond c x y) Q Ds H w:=
 λa h1 d b=>wpIn_cond_false (by rw[Uo,b];exact hc)<|h a h1 d b
end
def Mw{α:Type _}(p:α->ut):∀l:ww α,l.Perm ((l.filter λa=> !p a)++l.filter p)
 |[]=>xdw _
 |a::l=>by
  have b:=Mw p l;rw[xfI,xfI];cases hp:p a
  simpa using b.cons a;simp only[xeS,xaj,Z5,Z4];exact(b.cons a).trans xca.symm
def Fe{ag ro:ww K}(h:uK P fr cx σ H w):Bd cx (keep σ ag ro)/\uK P fr (qV cx<|keep σ ag ro) (rest σ ag ro) H w:=by
 have⟨a,vs,c⟩:=h;have b:Bd cx (keep σ ag ro):=⟨λe he=>a.o1 e (xbW.1 he).1,a.o2,λe he=>a.r1 e (xbW.1 he).1,a.r2⟩;refine⟨b,⟨λe he=>a.o1 e (xbW.1 he).1,λe he=> ?_,λe he=>a.r1 e (xbW.1 he).1,λe he=> ?_⟩,vs,?_⟩;obtain he|he:=xab.1 he
 exact b.o1 e he;exact b.o2 e he;obtain he|he:=xab.1 he
 exact b.r1 e he;exact b.r2 e he;have hp:(OS vs fr cx σ.ob).Perm (OS vs fr (qV cx<|keep σ ag ro) (rest σ ag ro).ob):=by
  show List.Perm (MS vs σ.ob++(MS vs cx.ob++fr.F)) (MS vs (rest σ ag ro).ob++(MS vs ((keep σ ag ro).ob++cx.ob)++fr.F));have e:MS vs (rest σ ag ro).ob++(MS vs ((keep σ ag ro).ob++cx.ob)++fr.F)=(MS vs (rest σ ag ro).ob++MS vs (keep σ ag ro).ob)++(MS vs cx.ob++fr.F):=by rw[show MS vs ((keep σ ag ro).ob++cx.ob)=MS _ _++MS _ _ from xaO];simp_all
  rw[e];refine xeM _ ?_;have:=(Mw (λe:K×Od=>fc (Lb σ ro) e.1) σ.ob).map<|Ug vs;rw[xaO]at this;exact this
 refine(St.perm c hp).sub' ?_;intro f hf;obtain hf|hf:=xab.1 hf
 obtain⟨e,he,rfl⟩:=xat.1 hf;exact xab.2 (.inl<|xat.2 ⟨e,(xbW.1 he).1,O⟩);obtain hf|hf:=xab.1 hf
 obtain⟨e,he,rfl⟩:=xat.1 hf;obtain he|he:=xab.1 he
 exact xab.2 (.inl<|xat.2 ⟨e,(xbW.1 he).1,O⟩);exact xab.2 (.inr<|xab.2 (.inl<|xat.2 ⟨e,he,O⟩));exact xab.2 (.inr<|xab.2 (.inr hf))
end
end
section
def fK(l:K)(r:iP):MF where
 blk k:=k=l
 p _ w:=w.heap[l]? =Z (.loop r)
 keep h _ hb:=(hb l O).trans h
 sub h _:=h
 lt h k a:=by subst a;exact(xbi.1 h).1
def mFF(Γ:N FF):MF where
 blk _:=UP
 p S w:=zC S Γ w
 keep h k _:=zC.keep k h
 sub h k:=zC.sub k h
 lt _ _ a:=a.elim
section
variable{we:qR}{Se:wL->Prop}{ms:ww MF}{Γ Δ:ww FF}{w:qR}
theorem St.ffIn(h:St we Se ms (Δ++Γ) w):St we Se (mFF Δ::ms) Γ w:=by
 have⟨h1,c,d,S,e,f,i,g,b⟩:=h;refine⟨h1,c,⟨λk a=>a.elim,d⟩,S,e,f,λm hm k a=> ?_,⟨zC.left b,g⟩,zC.right b⟩;obtain rfl|hm:=xai.1 hm
 exact a.elim;grind
def St.ffOut(h:St we Se (mFF Δ::ms) Γ w):St we Se ms (Δ++Γ) w:=by have⟨h1,b,c,S,d,e,f,a,g⟩:=h;exact⟨h1,b,c.2,S,d,e,λm i=>f m<|FS _ i,a.2,zC.append a.1 g⟩
theorem St.putObj{l:K}{m m':MF}{o:Obj}(h:St we Se (m::ms) Γ w)(b:∀k,m.blk k↔k=l)(n:∀k,m'.blk k->k=l)(hp:∀S w',w'.heap[l]? =Z o->m'.p S w'):St we Se (m'::ms) Γ (w.putObj l o):=by have⟨h1,q,d,S,r,s,t,i,u⟩:=h;have hl:=t m (IR) l<|(b l).2 O;have v:=yP.lt i m (IR) l<|(b l).2 O;have hd:(w.putObj l o).heap.size=w.heap.size:=World.putObj_size;have f:∀k,k≠l->(w.putObj l o).heap[k]? =w.heap[k]? :=λk a=>World.putObj_heap_other a;have a:yJ S w (w.putObj l o):=⟨O,O,O,Nat.le_of_eq hd.symm,λk _ g=>f k λe=>hl.1<|e▸g⟩;have x:dB we (w.putObj l o):=⟨h1.os,h1.tape,h1.output,xal h1.size<|Nat.le_of_eq hd.symm,λk a g=>(f k λe=>by lia).trans<|h1.block k a g⟩;refine⟨x,q,⟨λk a c hc=>d.1 k ((b k).2<|n k a) c hc,d.2⟩,S,r,λk a=>s k (by rw[hd]at a;exact a),λc hc k j=> ?_,⟨hp S _<|World.putObj_heap_same v,yP.keep a (λc hc k j=>f k λe=> ?_) i.2⟩,zC.keep a u⟩;grind;subst e;exact d.1 k ((b k).2 O) c hc j
theorem St.allocObj{o:Obj}{m:MF}(h:St we Se ms Γ w)(f:∀k,m.blk k->k=w.heap.size)(hp:∀S w',w'.heap[w.heap.size]? =Z o->m.p S w'):St we Se (m::ms) Γ (w.alloc o):=by
 have⟨h1,j,l,S,n,q,g,i,r⟩:=h;have s:(w.alloc o).heap.size=w.heap.size+1:=World.size_alloc ..;have vC:∀k,k<w.heap.size->(w.alloc o).heap[k]? =w.heap[k]? :=λk a=>by
  show(w.heap.push o)[k]? =_;grind
 have hd:(w.alloc o).heap[w.heap.size]? =Z o:=World.alloc_heap_new w o;let e:K->Prop:=λk=>S k/\k≠w.heap.size
 have a:yJ e w (w.alloc o):=⟨O,O,O,W,λk a _=>vC k a⟩;have hc:∀k,k<w.heap.size->S k->e k:=λk a b=>⟨b,W⟩;refine⟨⟨h1.os,h1.tape,h1.output,by have:=h1.size;lia,λk a b=>(vC k<|xag a h1.size).trans<|h1.block k a b⟩,j,⟨λk a d hm2 c=> ?_,l⟩,e,λk a=>n k a.1,λk a=>⟨q k W,W⟩,λd hm2 k c=> ?_,⟨hp _ _ hd,yP.keep a (λd hm2 k c=>vC k<|yP.lt i d hm2 k c)<|yP.sub hc i⟩,zC.keep a<|zC.sub hc r⟩;grind;obtain rfl|hm2:=xai.1 hm2
 exact⟨λb=>b.2<|f k c,by have:=f k c;have:=h1.size;lia⟩;exact⟨λb=>(g d hm2 k c).1 b.1,(g d hm2 k c).2⟩
end
section
variable{P:uS}{cf:Cf}{fr:Fr}{cx kp σ:Sg}{vs i9:wL->wW}{H i8:xj}{w:qR}
def NN{cx σ:Sg}(h:Bd cx σ):Bd (qV cx σ) ⟨σ.nx,[],[]⟩where
 o1:=λ_ he=>jp he H1
 o2:=λe he=>by
  obtain he|he:=xab.1 he
  exact h.o1 e he;exact h.o2 e he
 r1:=λ_ he=>jp he H1
 r2:=λe he=>by
  obtain he|he:=xab.1 he
  exact h.r1 e he;exact h.r2 e he
def BR(f:TF)(v u:wW):Prop:=match f with
 |.own _ _=>v=u
 |.var _ _=>v=u/\∃b,v=.pointer (Z ⟨b,0,wS⟩)
 |.mat _ _ _=>v=yN u
 |.bo _ _ _=>v=yN u
 |_=>UP
def U7(ds:N (K×TF))(H:xj)(U:K->wW):Prop:=∀(j t:K) (f:TF),ds[j]? =Z (t,f)->BR f (H t) (U j)
def NM:∀{ds:N (K×TF)},fM ds=wT->∀(j t:K) (f:TF),ds[j]? =Z (t,f)->(∃s E,f=.own s E)\/(∃s E,f=.var s E)\/(∃s E F,f=.mat s E F)\/(∃s E F,f=.bo s E F)
 |[],_,j,t,f,h=>by simp at h
 |(b,f')::ds,a,0,t,f,h=>by
  simp only[xbD,xav,xcL]at h;obtain⟨rfl,rfl⟩:=h;cases f'<;>simp only[fM,xaj]at a
  simp_all;simp_all;simp_all;simp_all
 |(b,f')::ds,a,j+1,t,f,h=>by
  refine NM (ds:=ds) ?_ j t f (by simpa using h);cases f'<;>simp only[fM,xaj]at a<;>exact a
def SS{ds:N (K×TF)}(b:fM ds=wT):∀a∈ds,∀j,Gq a.2=Z j->j<X ds:=λa c j e=>by
 have⟨i,hi⟩:=xfB.1 c;rcases NM b i a.1 a.2 hi with⟨_,_,h⟩|⟨_,_,h⟩|⟨_,_,_,h⟩|⟨_,_,_,h⟩<;>rw[h]at e<;>cases e
def zdU{U:K->wW}{S:K->Prop}:∀{ds:N (K×TF)}{x:J7 ds}{i:K},(∀(j t:K) (f:TF),ds[j]? =Z (t,f)->BR f (H t) (U<|i+j))->zC S (dsF U H ds x i) w
 |[],_,_,_=>trivial
 |[(t,f)],x,i,h=>by
  have h0:=h 0 t f O;refine⟨?_,jP⟩;cases f<;>first|exact h0|exact h0.elim
 |(t,f)::b::l,x,i,h=>by
  have h0:=h 0 t f O;refine⟨?_,zdU λj t f a=>by
   have:=h (j+1) t f (by simpa using a);rw[(W:i+1+j=i+(j+1))];exact this⟩
  cases f<;>first|exact h0|exact h0.elim
def zht{n0:K}:∀{ds:N (K×TF)}{x:J7 ds}{o j t:K}{f:TF},ds[j]? =Z (t,f)->∃y:f.D,(t,0,(HI n0 (o+j) f y).1)∈(oz n0 ds x o).1
 |[],_,_,_,_,_,h=>by simp at h
 |[(a,f')],x,o,0,t,f,h=>by
  obtain⟨rfl,rfl⟩:=h;exact⟨x,IR⟩
 |[(a,f')],x,o,j+1,t,f,h=>by simp at h
 |(a,f')::b::l,x,o,0,t,f,h=>by
  obtain⟨rfl,rfl⟩:=h;exact⟨x.1,IR⟩
 |(a,f')::b::l,x,o,j+1,t,f,h=>by
  obtain⟨y,c⟩:=zht (by simpa using h);rw[(W:o+1+j=o+(j+1))]at c;exact⟨y,FS _ c⟩
def zjc{ds:N (K×TF)}{x:J7 ds}{n:K}{S:K->Prop}(c:fM ds=wT)(h:zC S (RS P vs H (oz n ds x n).1) w):U7 ds H λj=>vs (n+j):=by
 intro j t f a;obtain⟨y,d⟩:=zht a;have:=Kv h d;rcases NM c j t f a with⟨_,_,rfl⟩|⟨_,_,rfl⟩|⟨_,_,_,rfl⟩|⟨_,_,_,rfl⟩
 ·exact this
 ·obtain⟨h1,b,e⟩:=this;exact⟨h1,b,h1.trans e⟩
 ·exact this
 ·exact this
def znz{ds:N (K×TF)}{x:J7 ds}(b:fM ds=wT)(o1:∀e∈kp.ob,e.1<kp.nx+X ds)(o2:∀e∈cx.ob,e.1<kp.nx+X ds)(r1:∀e∈kp.rg,∀o,vv e.2.2=Z o->o<kp.nx+X ds)(r2:∀e∈cx.rg,∀o,vv e.2.2=Z o->o<kp.nx+X ds):Bd cx (Kp ⟨ds,[]⟩ x kp):=by
 refine⟨λe he=> ?_,o2,λe he p hp=> ?_,r2⟩;obtain he|he:=xab.1 he
 exact(zbz e he).2;exact o1 e he
 have a:∀e∈(oz kp.nx ds x kp.nx).1,∀p,vv e.2.2=Z p->p<kp.nx+X ds:=λe he p hp=>by
  rcases OO (SS b) e he p hp with h|h<;>exact h
 obtain he|he:=xab.1 he
 obtain he|he:=xab.1 he
 exact a e he p hp;exact a e he p hp;exact r1 e he p hp
def zgv{ds:N (K×TF)}{x:J7 ds}(d:fM ds=wT)(hc:U7 ds H λj=>vs<|kp.nx+j)(e:Bd cx (Kp ⟨ds,[]⟩ x kp))
 (hd:St fr.we fr.Se (QZ (λj=>vs<|kp.nx+j) ds x 0++(MS vs kp.ob++(MS vs cx.ob++fr.F))) (RS P vs H kp.rg++(RS P vs H cx.rg++fr.G)) w):uK P fr cx (Kp ⟨ds,[]⟩ x kp) H w:=by
 refine⟨e,vs,?_⟩;have b:∀j,j<X ds->vs (kp.nx+j)=(λj=>vs<|kp.nx+j) (0+j):=λj _=>by simp only[xaD]
 have e1:OS vs fr cx (Kp ⟨ds,[]⟩ x kp).ob=QZ (λj=>vs<|kp.nx+j) ds x 0++(MS vs kp.ob++(MS vs cx.ob++fr.F)):=by show MS vs ((oz kp.nx ds x kp.nx).2++kp.ob)++(MS vs cx.ob++fr.F)=_;rw[show MS vs ((oz kp.nx ds x kp.nx).2++kp.ob)=MS vs (oz kp.nx ds x kp.nx).2++MS vs kp.ob from xaO,Nv (U:=λj=>vs<|kp.nx+j) b,xar]
 show St _ _ (OS vs fr cx (Kp ⟨ds,[]⟩ x kp).ob) _ _;rw[e1];refine hd.weak λS w a=> ?_;have c:zC S (RS P vs H (oz kp.nx ds x kp.nx).1) w:=zaW (λj _=>O) (SS d) b (zdU λj t f g=>by rw[xaD];exact hc j t f g);show zC S (RS P vs H (((oz kp.nx ds x kp.nx).1++(oz kp.nx ds x kp.nx).1)++kp.rg)++(RS P vs H cx.rg++fr.G)) w;rw[ll,ll];exact zC.append (zC.append (zC.append c c)<|zC.left a)<|zC.right a
def zd2{ds:N (K×TF)}{x:J7 ds}{n:K}(d:fM ds=wT)(e:uK P fr cx (Kp ⟨ds,[]⟩ x ⟨n,[],[]⟩) H w):∃vs,U7 ds H (λj=>vs<|n+j)/\Bd cx (Kp ⟨ds,[]⟩ x ⟨n,[],[]⟩)/\St fr.we fr.Se (QZ (λj=>vs<|n+j) ds x 0++(MS vs cx.ob++fr.F)) (RS P vs H cx.rg++fr.G) w:=by
 have⟨f,vs,b⟩:=e;have⟨S,_,a⟩:=b.ex;have h1:zC S (RS P vs H<|((oz n ds x n).1++(oz n ds x n).1)++[]) w:=zC.left a;rw[ll,ll]at h1;refine⟨vs,zjc d<|zC.right<|zC.left h1,f,?_⟩;have e1:OS vs fr cx (Kp ⟨ds,[]⟩ x ⟨n,[],[]⟩).ob=QZ (λj=>vs<|n+j) ds x 0++(MS vs cx.ob++fr.F):=by show MS vs ((oz n ds x n).2++[])++(MS vs cx.ob++fr.F)=_;rw[xbo,Nv (U:=λj=>vs<|n+j) (i:=0) λj _=>by simp only[xaD]]
 have c:St fr.we fr.Se (OS vs fr cx (Kp ⟨ds,[]⟩ x ⟨n,[],[]⟩).ob) (GS P vs H fr cx<|Kp ⟨ds,[]⟩ x ⟨n,[],[]⟩) w:=b;rw[e1]at c;exact c.weak λS w h=>zC.right h
def PS{U:K->wW}{a:K×TF}:∀{l:N (K×TF)}{y:a.2.D}{x:J7 l}{i:K},QZ U (a::l) (IU y x) i=tfM a.2 y (U i)++QZ U l x (i+1)
 |[],y,x,i=>by show tfM a.2 y (U i)=_++[];rw[xbo]
 |_::_,y,x,i=>rfl
def nG{U V:K->wW}:∀{l:N (K×TF)}{x:J7 l}{i k:K},(∀j,j<X l->U (i+j)=V (k+j))->QZ U l x i=QZ V l x k
 |[],_,_,_,_=>rfl
 |[a],x,i,k,h=>by
  have h0:U i=V k:=h 0 rC;show tfM a.2 x (U i)=tfM a.2 x (V k);rw[h0]
 |a::b::l,x,i,k,h=>by
  have h0:U i=V k:=h 0 rC;show tfM a.2 x.1 (U i)++QZ U (b::l) x.2 (i+1)=tfM a.2 x.1 (V k)++QZ V (b::l) x.2 (k+1);rw[h0,nG (k:=k+1) λj c=>by
   have:=h (j+1) (by simpa using c);rw[(W:i+1+j=i+(j+1)),(W:k+1+j=k+(j+1))];exact this]
def zhR{a:K×TF}:∀{l:N (K×TF)} (z:J7 (a::l)),z=IU (om z).1 (om z).2
 |[],_=>rfl
 |_::_,_=>rfl
def MH{we:qR}{Se:K->Prop}{A B:N MF}{G:N FF}{l:K}{m m':MF}{o:Obj}(h:uK P ⟨we,Se,A++m::B,G⟩ cx σ H w)(a:∀k,m.blk k↔k=l)(b:∀k,m'.blk k->k=l)(hp:∀S w',w'.heap[l]? =Z o->m'.p S w'):uK P ⟨we,Se,A++m'::B,G⟩ cx σ H (w.putObj l o):=by
 have⟨c,vs,hc⟩:=h;refine⟨c,vs,?_⟩;have h1:St we Se ((MS vs σ.ob++(MS vs cx.ob++A))++m::B) (GS P vs H ⟨we,Se,A++m::B,G⟩ cx σ) w:=by simp_all
 have d:=St.putObj (St.mid h1) a b hp;have e:=d.perm xca.symm;simp_all
theorem zjy{n:K}{S:K->Prop}:∀{ds:N (K×TF)}{i:K},fM ds=wT->(∀(j t:K) (f:TF),ds[j]? =Z (t,f)->BR f (H t) (vs<|n+(i+j)))->zC S (RS P vs H<|C2 ds<|n+i) w
 |[],_,_,_=>trivial
 |(t,f)::r,i,a,h=>by
  have h0:=h 0 t f O;have b:fM r=wT->zC S (RS P vs H<|C2 r<|n+i+1) w:=λa=>zjy a λj t f c=>by
   have:=h (j+1) t f (by simpa using c);grind
  cases f<;>simp only[fM,xaj]at a
  exact⟨h0,b a⟩;exact⟨h0.1,b a⟩;exact⟨h0,b a⟩;exact⟨h0,b a⟩
theorem TD:∀{ds:N (K×TF)}{n:K},∀e∈C2 ds n,∀o,vv e.2.2=Z o->o<n+X ds
 |[],_,e,he=>jp he H1
 |(t,f)::r,n,e,he=>by
  intro o a;have b:e∈C2 r (n+1)->o<n+X ((t,f)::r):=λhe=>by
   have:=TD e he o a;grind
  cases f<;>obtain rfl|he:=xai.1 he<;>first|exact b he|(cases a;simp only[xaw];lia)
def Gk:∀{ds:N (K×TF)}{n j t:K}{f:TF},ds[j]? =Z (t,f)->∃e∈C2 ds n,e.1=t
 |[],_,_,_,_,h=>by simp at h
 |(a,f')::r,n,0,t,f,h=>by
  obtain⟨rfl,rfl⟩:=h;cases f'<;>exact⟨_,IR,O⟩
 |(a,f')::r,n,j+1,t,f,h=>by
  obtain⟨e,b,h1⟩:=Gk (by simpa using h);cases f'<;>exact⟨e,FS _ b,h1⟩
def zmo{a:K×TF}{ds:N (K×TF)}(h:zgh (a::ds)=wT){j t:K}{f:TF}(b:ds[j]? =Z (t,f)):t≠a.1:=by simp only[zgh,zj2,xae,xaT]at h;have:=h.1 (t,f)<|xbv b;intro e;simp_all
end
end
end Go.Proofs.YtoegnnjcmlghhaaGreat
