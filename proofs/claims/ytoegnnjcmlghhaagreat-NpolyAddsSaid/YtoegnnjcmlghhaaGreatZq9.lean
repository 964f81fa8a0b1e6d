/- Sums, products, derivatives, values of polynomials over a field that is made are what the document says, for every input. No condition. -/
import Derived.Test.YtoegnnjcmlghhaaGreatZq8
import Derived.Below
import Derived.Lib.Join
set_option linter.all false
namespace Go.Proofs.YtoegnnjcmlghhaaGreat
open Bool renaming false->I,true->wT
open Go renaming Value->wW,TypeId->kW,maxLen->QR,madeCells->lm
open Go.Proofs.YtoegnnjcmlghhaaGreat renaming cf->M,bd->G,za->Y,Zr->U,ci->C,nm->B,Qr->D,ze->F,iq->Q,pc->E,zf->A,ir->S,nv->P
open List renaming length->X
open Nat renaming beq->R
open Option renaming some->Z,none->wS
open _root_ renaming rfl->O,List->N,Int->J,Nat->K,Option->V,List->ww,Nat->wL,absurd->jp,trivial->jP,Bool->ut,Rat->uL
open DataW renaming TrodAll->xeT
open List renaming mem_iff_getElem->xcr
open Nat renaming pow_add->xbg
open Value renaming okWide->xez
section
variable{fu d k k':wL}{r:v6}{β:wL->uL}{m:ww Zr}
theorem zj5(a:(Ty.l (.p .b (.l .u))).ok m)(w:3000300<=fu):∃q p,J4 fu m=Z (q,p)/\(q=wS\/∃r d β,q=Z r/\p=zH m/\xa 1 (zH m)/\(∀j,Bb 10<|M (zH m) j)/\Pw m r d β):=by
 unfold J4;by_cases h:5<X m;rw[Q W];exact⟨_,_,O,.inl O⟩
 rw[S W];have⟨y,h1,c⟩:=zM (f:=KP fu m) (λs:J=>∃i:K,s=(i:J)/\i<=X m/\∀j,j<i->zhb (m.getD j (I,[]))) (λs=>X m-s.toNat) (λy=>y=.inr wS\/y=.inl ()/\∀j,j<X m->zhb (m.getD j (I,[]))) (by
  rintro _ L ⟨i,rfl,hi,g⟩ x;unfold KP;by_cases a:i<X m;rw[Q W,zm a,F];by_cases D:1<(m.getD i (I,[])).2.length;rw[Q W];exact⟨_,O,.inl O⟩
  rw[S W,zm a,F];have step:zhb (m.getD i (I,[]))->∃r,L ((i:J)+1)=Z r/\(r=.inr wS\/r=.inl ()/\∀j,j<X m->zhb (m.getD j (I,[]))):=λhl=>x _ ⟨i+1,O,W,λj n=>by
   by_cases e:j=i;rw[e];exact hl;exact g j W⟩ W
  by_cases z:(m.getD i (I,[])).2.length=1
  rw[Q W,zm a,F,show(0:J)=((0:K):J)from O,zm W,F];by_cases a3:100<(m.getD i (I,[])).2.getD 0 0;rw[Q W];exact⟨_,O,.inl O⟩;rw[S W,yj ⟨W,W⟩];exact step ⟨W,λ_=>by lia⟩;rw[S W,yj ⟨W,W⟩];exact step ⟨W,λh=>jp h z⟩;rw[S W];exact⟨_,O,.inr ⟨O,λj n=>g j W⟩⟩) fu 0 ⟨0,O,xaf _,λj n=>jp n (xbb _)⟩ (by show X m-(0:J).toNat<fu;lia)
 rw[Y h1];obtain rfl|⟨rfl,c⟩:=c
 exact⟨_,_,O,.inl O⟩;simp only;have⟨o,v⟩:=zpf a c;have⟨q,e,A,B⟩:=Gh (fu:=fu) o W v w;rw[Y A];simp only;by_cases t:e=0
 rw[Q t,Y<|Cx o rx W W];have⟨r,d,β,g1,C⟩:=B t;exact⟨_,_,O,.inr ⟨r,d,β,g1,O,Aw o,λj=>by rw[ZH];exact xaI (xbr _ _)<|v j,C⟩⟩;rw[S t];exact⟨_,_,O,.inl O⟩
def TP(n:K)(l:N (N D)):Prop:=X l<=n/\∀j,j<X l->zeL 4 1 (l.getD j [])
theorem zlw{ls:N (N<|N D)}{i t:K}(hi:i<X ls)(ht:t<X (ls.getD i []))(c:X ((ls.getD i []).getD t [])<=4)(h:3000000<=fu):
 ∃z,zg (bE fu ls (t:J)) fu ((i:J),0)=Z z/\(z=.inr ()\/z=.inl (i:J)/\zeL 4 1 ((ls.getD i []).getD t [])):=by
 obtain⟨l,hl⟩:∃l,l=(ls.getD i []).getD t []:=⟨_,O⟩;rw[<-hl]at c⊢;refine zM (λs:J×J=>∃u:K,s=((i:J),(u:J))/\u<=X l/\∀j,j<u->(l.getD j ((I,[]),[])).1.2.length<=1/\(l.getD j ((I,[]),[])).2.length<=1) (λs=>X l-s.2.toNat) _ ?_ fu _ ⟨0,O,xaf _,λj a=>jp a<|xbb _⟩ (by show X l-(0:J).toNat<fu;lia);rintro _ L ⟨u,rfl,n,g⟩ f;unfold bE;simp only;rw[zm hi,F,zm ht,F,<-hl];by_cases b:u<X l
 ·rw[Q W,zm hi,F,zm ht,F,<-hl,zm b,F];by_cases o:1<(l.getD u ((I,[]),[])).1.2.length
  ·rw[Q W];exact⟨_,O,.inl O⟩
  ·rw[S W,zm hi,F,zm ht,F,<-hl,zm b,F];by_cases p:1<(l.getD u ((I,[]),[])).2.length
   ·rw[Q W];exact⟨_,O,.inl O⟩
   ·rw[S W,yj ⟨W,W⟩];refine f _ ⟨u+1,O,W,λj a=> ?_⟩ (by show X l-((u:J)+1).toNat<X l-(u:J).toNat;lia);by_cases e:j=u
    ·rw[e];lia
    ·exact g j W
 ·rw[S W];exact⟨_,O,.inr ⟨O,W,λj a=>g j W⟩⟩
theorem zlI{ls:N (N<|N D)}{i n:K}(hi:i<X ls)(hl:X (ls.getD i [])<=100)(c:3000000<=fu):
 ∃z,zg (aF fu (i:J)) fu ((n:J),ls,0)=Z z/\(z=.inr ()\/z=.inl ((n:J),ls)/\∀j,j<X (ls.getD i [])->zeL 4 1 ((ls.getD i []).getD j [])):=by
 refine zM (λs:J×N (N<|N D)×J=>∃u:K,s=((n:J),ls,(u:J))/\u<=X (ls.getD i [])/\∀j,j<u->zeL 4 1 ((ls.getD i []).getD j [])) (λs=>X (ls.getD i [])-s.2.2.toNat) _ ?_ fu _ ⟨0,O,xaf _,λj a=>jp a<|xbb _⟩ (by show(ls.getD i []).length-(0:J).toNat<fu;lia);rintro _ L ⟨u,rfl,l,g⟩ f;unfold aF;simp only;rw[zm hi,F];by_cases b:u<X (ls.getD i [])
 ·rw[Q W,zm hi,F,zm b,F];by_cases o:4<X ((ls.getD i []).getD u [])
  ·rw[Q W];exact⟨_,O,.inl O⟩
  ·rw[S W];obtain⟨z,h,z2⟩:=zlw (fu:=fu) hi b W c;rw[Y h];obtain rfl|⟨rfl,z2⟩:=z2
   ·exact⟨_,O,.inl O⟩
   ·simp only;rw[yj ⟨W,W⟩];refine f _ ⟨u+1,O,W,λj a=> ?_⟩ (by show(ls.getD i []).length-((u:J)+1).toNat<X (ls.getD i [])-(u:J).toNat;lia);by_cases e:j=u
    ·rw[e];exact z2
    ·exact g j W
 ·rw[S W];exact⟨_,O,.inr ⟨O,λj a=>g j W⟩⟩
theorem ziY{n:K}{ls:N (N<|N D)}(hl:X ls<=10)(hn:n<=100)(o:3000000<=fu):∃c,Qj fu (n:J) ls=Z c/\(c=wT->∀j,j<X ls->TP n (ls.getD j [])):=by
 unfold Qj;have⟨y,h1,a⟩:=zM (f:=aW fu (n:J) ls) (λs:J=>∃i:K,s=(i:J)/\i<=X ls/\∀j,j<i->TP n (ls.getD j [])) (λs=>X ls-s.toNat) (λy=>y=.inr ()\/y=.inl ()/\∀j,j<X ls->TP n (ls.getD j [])) (by
  rintro _ L ⟨i,rfl,hi,g⟩ p;unfold aW;by_cases l:i<X ls;rw[Q W,zm l,F];by_cases t:n<X (ls.getD i []);simp_all;rw[S W];have⟨z,q,z2⟩:=zlI (fu:=fu) (n:=n) l W o;rw[Y q];obtain rfl|⟨rfl,z2⟩:=z2
  exact⟨_,O,.inl O⟩;simp only;rw[yj ⟨W,W⟩];refine p _ ⟨i+1,O,W,λj b=> ?_⟩ W;by_cases e:j=i;rw[e];exact⟨W,z2⟩;exact g j W
  rw[S W];exact⟨_,O,.inr ⟨O,λj b=>g j W⟩⟩) fu 0 ⟨0,O,xaf _,λj b=>jp b (xbb _)⟩ (by show X ls-(0:J).toNat<fu;lia)
 rw[Y h1];obtain rfl|⟨rfl,a⟩:=a
 exact⟨_,O,λh=>nomatch h⟩;exact⟨_,O,λ_=>a⟩
theorem QE{A:N (N D)}{n:K}(c:Xi k n A)(hn:n<=1000)(f:3000000<=fu):vY fu A A=Z wT:=by
 have h:=c.ln;have b:JC fu A A=Z wT:=by
  unfold JC;rw[Q O,Y (v:=.inl ())];refine zB (λs:J=>∃i:K,s=(i:J)/\i<=X A) (λs=>X A-s.toNat) _ ?_ fu 0 ⟨0,O,xaf _⟩ (by show X A-(0:J).toNat<fu;lia);rintro _ L ⟨i,rfl,hi⟩ g;unfold iY;by_cases a:i<X A;have e:Ku k (A.getD i []):=by rw[UV,xaa a];exact c.el _<|xby a
  rw[Q W,zm a,F,zm a,F,Y<|UM (by have:=e.ln;lia) e.ok f,S rx,yj ⟨W,W⟩];exact g _ ⟨i+1,O,W⟩ W
  grind
 unfold vY;rw[Y b]
theorem zgT{A:N (N D)}{n:K}(f:(Ty.l (.l (.p (.p .b (.l .u)) (.l .u)))).ok A)(h:TP n A):Xi 257 n A:=⟨λx c=>by
 obtain⟨i,hi,e⟩:=xcr.1 c;have a:=h.2 i hi;rw[UV,xaa hi,xdn,e]at a;obtain⟨g1,g⟩:=zaX rx (f.2 x c) a;exact⟨λy j=>(g1 y j).mono rx,by have:=a.1;lia,g⟩,h.1⟩
theorem zdw{A:N (N D)}{n:K}(h:TP n A)(i:K):X (A.getD i [])<=4:=by by_cases hi:i<X A;exact(h.2 i hi).1;simp_all
def zii(M:Pw m r d β){A:N (N D)}{n:K}(a:Xi (k+1) n A)(hn:n<=1000)(b:k+353<=250000)(c:3000000<=fu):
 ∃l,JA fu (Z r) A=Z (mm l,0)/\HO d β (k+353) n l (Yg A):=by
 have⟨l,h1,e⟩:=cL M a hn b c;refine⟨l,?_,e⟩;unfold JA;rw[h1];rfl
end
section
set_option maxRecDepth 100000
theorem P9:Vi 4000000=Z wT:=by decide+kernel
end
section
variable{fu d k k':wL}{r:v6}{β:wL->uL}{m:ww Zr}
theorem FA{σ α:Type}{f g:(σ->V α)->σ->V α}(j:σ->Prop)(m:σ->K)(Q:α->Prop)
 (step:∀s L b,j s->(∀a,j a->m a<m s->∃r,L a=Z r/\b a=Z r/\Q r)->∃r,f L s=Z r/\g b s=Z r/\Q r):∀(n:K) (s:σ),j s->m s<n->∃r,zg f n s=Z r/\zg g n s=Z r/\Q r
 |0,s,_,h=>jp h<|xbb _
 |n+1,s,c,h=>step s _ _ c λa e i=>FA j m Q step n a e W
def Rw(A:N (N D)):Prop:=∀i j,Qz 1<|(A.getD i []).getD j ((I,[]),[])
theorem znj{A:N (N D)}{n:K}(f:(Ty.l (.l (.p (.p .b (.l .u)) (.l .u)))).ok A)(h:TP n A):Rw A:=λi j=>by
 by_cases hi:i<X A;have e:A.getD i []=A[i]:=by rw[UV,xaa hi];rfl
 have a:=h.2 i hi;rw[e]at a⊢;by_cases c:j<A[i].length;rw[UV,xaa c,xdn];exact(zaX rx (f.2 _<|xby hi) a).1 _<|xby c;rw[UV,xbh W];exact Qz.nil 1;rw[AH W];exact Qz.nil 1
theorem zc4{A:N (N D)}(h:Rw A)(i e:K)(a:3000000<=fu):∃x,Ko fu (A.getD i []) (e:J)=Z x/\kZ fu (A.getD i []) (e:J)=Z x/\Yi x/\Hx 64 (qv x):=by unfold Ko kZ;by_cases b:e<X (A.getD i []);rw[Q W,Q W,zm b,F];exact⟨_,O,O,(h i e).mono rx,zhN (h i e) rx⟩;rw[S W,S W,Y<|Ur rx a,Y<|Yx rx a];exact⟨_,O,O,fS.rs ⟨Bz.zero _,Bz.one' rx⟩,by rw[uq];exact⟨1,rx,rx,0,xeA _,rx⟩⟩
theorem zhm{x y:Qr}(e:Yi x)(f:Yi y)(h:Hx 64 (qv x))(j:Hx 64 (qv y))(a:3000000<=fu):∃c,mW fu x y=Z c/\UJ fu x y=Z c:=by
 have g:fS (qv x-qv y):=by
  have⟨D,a0,i,u,l,a3⟩:=h;have⟨E,b0,b1,v,b2,b3⟩:=j;have:=xQ a3 (b:=(E:J)) (k:=64) (by rw[xaL];exact b1);have:=xQ b3 (b:=(D:J)) (k:=64) (by rw[xaL];exact i);have:D*E<2^(64+64):=by rw[xbg];exact xbS i b1
  refine Fi (K:=130) (xdr a0 b0) W (n:=u*E-v*D) ?_ W;rw[xeR,Rat.intCast_sub,xcJ,xcJ,<-l,<-b2];show(qv x-qv y)*((D:uL)*E)=qv x*D*(E:uL)-qv y*E*(D:uL);grind
 unfold mW UJ;rw[Y<|sw e f a,Y<|oV g.rs a,Y<|me e f a,Y<|e9 g.rs a];exact⟨_,O,O⟩
theorem zp8{A B:N (N D)}{i n:K}(f:Rw A)(g:Rw B)(hi:i<X A)(b:i<X B)(hn:n<=1000)(a:3000000<=fu):
 ∃y,zg (KQ fu (i:J)) fu (A,B,(n:J)-1)=Z y/\zg (KF fu (i:J)) fu (A,B,(n:J)-1)=Z y/\(y=.inl (A,B)\/∃c,y=.inr c):=by
 refine FA (λs=>∃e:K,s=(A,B,(e:J)-1)/\e<=n) (λs=>(s.2.2+1).toNat) _ ?_ fu _ ⟨n,O,Nm _⟩ (by show((n:J)-1+1).toNat<fu;lia);rintro _ L w ⟨e,rfl,z⟩ h;unfold KQ KF;simp only
 cases e with
 |zero=>rw[S W,S W];exact⟨_,O,O,.inl O⟩
 |succ e=>
  have e1:((e+1:K):J)-1=(e:J):=W
  have⟨x,j,l,o,p⟩:=zc4 (fu:=fu) f i e a;have⟨y,q,t,u,v⟩:=zc4 (fu:=fu) g i e a;have⟨c,c1,c2⟩:=zhm (fu:=fu) o u p v a;rw[e1,Q W,Q W,zm hi,F,Y j,zm b,F,Y q,Y c1,zm hi,F,Y l,zm b,F,Y t,Y c2];by_cases h0:c=0
  rw[Q h0,Q h0,yj ⟨W,W⟩,yj ⟨W,W⟩];exact h _ ⟨e,O,W⟩ (by show((e:J)-1+1).toNat<(((e+1:K):J)-1+1).toNat;lia);rw[S h0,S h0];by_cases h1:c<0;rw[Q h1];exact⟨_,O,O,.inr ⟨_,O⟩⟩;rw[S h1];exact⟨_,O,O,.inr ⟨_,O⟩⟩
theorem zll{A B:ww (ww D)}{n:K}(i:Rw A)(j:Rw B)(a:TP n A)(l:TP n B)(hn:n<=1000)(o:3000000<=fu):∃c,JJ fu A B=Z c/\JU fu A B=Z c:=by
 unfold JJ JU;have hl:=a.1;by_cases h:(X A:J)=(X B:J);rw[Q h,Q h,yj ⟨W,W⟩,yj ⟨W,W⟩];have⟨y,p,q,t⟩:=FA (f:=KU fu A B) (g:=KC fu A B) (λs=>∃e:K,s=(e:J)-1/\e<=X A) (λs=>(s+1).toNat) (λy=>y=.inl ()\/∃c,y=.inr c) (by
  rintro _ L w ⟨e,rfl,x⟩ u;unfold KU KC
  cases e with
  |zero=>rw[S W,S W];exact⟨_,O,O,.inl O⟩
  |succ e=>
   have e1:((e+1:K):J)-1=(e:J):=W
   have C:=(a.2 e W).1;have b1:=(l.2 e W).1;have⟨N,E⟩:∃N,N=max (X (A.getD e [])) (X (B.getD e [])):=⟨_,O⟩;have b:max ((X (A.getD e []):K):J) ((X (B.getD e []):K):J)=(N:J):=W
   have⟨z,v,z2,z3⟩:=zp8 (fu:=fu) (n:=N) i j (W:e<X A) (W:e<X B) W o;rw[e1,Q W,Q W,zm W,F,zm W,F,b,F,yj (e:=(N:J)-1) ⟨W,W⟩,Y v,zm W,F,zm W,F,b,F,yj (e:=(N:J)-1) ⟨W,W⟩,Y z2];obtain rfl|⟨c,rfl⟩:=z3
   simp only;rw[yj ⟨W,W⟩,yj ⟨W,W⟩];exact u _ ⟨e,O,W⟩ (by show((e:J)-1+1).toNat<(((e+1:K):J)-1+1).toNat;lia);exact⟨_,O,O,.inr ⟨_,O⟩⟩) fu ((X A:J)-1) ⟨X A,O,Nm _⟩ W
 rw[Y p,Y q];obtain rfl|⟨c,rfl⟩:=t
 exact⟨_,O,O⟩;exact⟨_,O,O⟩;rw[S h,S h];by_cases h1:(X A:J)<(X B:J);rw[Q h1];exact⟨_,O,O⟩;rw[S h1];exact⟨_,O,O⟩
def zce(M:Mq m r d β){A:ww (ww D)}{n a:K}(b:Xi (a+1) n A)(j:∀i,X (A.getD i [])<=31)(hn:n<=32)(q:a+2500<=248000)(c:3000000<=fu):
 ∃l,Yu fu (Z r) A=Z (mm l,0)/\Yy fu (zH m) A=Z (mm l)/\Xi (a+1900) n (mm l):=by
 have hd:=M.md.d4;have⟨l,l0,o,s,a3,a4⟩:=zek (fu:=fu) M.md b hn W c;have⟨z,b1,b2⟩:=zaO (fu:=fu) M b j hn W c;have e:l=z:=Plm.inj M.md.fl.one a4.pl b2.pl<|a4.kg.trans<|qQ.trans ?_ b2.kg.symm;rw[<-e]at b1;exact⟨l,o,b1,a4.op W W⟩
 have⟨N,u⟩:∃N,N=max (X (mm l0)) (X A):=⟨_,O⟩;have ex:∀(A:ww (ww D)),X A<=N->∀x t,y7 (X A-1) (λi=>((i+1:K):uL)*xD (vl<|A.getD (i+1) []) t) x=y7 (N-1) (λi=>((i+1:K):uL)*xD (vl<|A.getD (i+1) []) t) x:=λA h x t=>(XD W (λi hi=>by rw[AH W];show _*(0:uL)=0;rw[Rat.mul_zero]) x).symm;have co:∀i,i<N->jd (y7 (d+1) β) (λt=>xD (vl<|(mm l0).getD i []) t) (λt=>xD (vl<|A.getD i []) t):=λi hi=>by
  refine qQ.coef (n:=N) (f:=λi t=>xD (vl<|(mm l0).getD i []) t) (g:=λi t=>xD (vl<|A.getD i []) t) ?_ hi;refine qQ.trans (qQ.of λx t=>(Xt W x t).symm)<|a3.trans<|qQ.of λx t=>Xt W x t
 have st:∀n,n<=N-1->qQ (y7 (d+1) β) (λx t=>y7 n (λi=>((i+1:K):uL)*xD (vl<|(mm l0).getD (i+1) []) t) x) (λx t=>y7 n (λi=>((i+1:K):uL)*xD (vl<|A.getD (i+1) []) t) x):=λn=>by
  induction n with
  |zero=>intro _;exact qQ.refl
  |succ n p=>exact λhn=>(p W).add<|qQ.mono n<|(co (n+1) W).smul _
 have:=st (N-1)<|Nm _;rw[show X l0-1=X (mm l0)-1 by rw[Vd]];exact qQ.trans (qQ.of λx t=>ex _ W x t)<|this.trans<|qQ.of λx t=>(ex _ W x t).symm
theorem zbK(m:N U)(a b:N (N D))(x:N D)(J:(Ty.l (.p .b (.l .u))).ok m)(t:(Ty.l (.l (.p (.p .b (.l .u)) (.l .u)))).ok a)(v:(Ty.l (.l (.p (.p .b (.l .u)) (.l .u)))).ok b)(K:(Ty.l (.p (.p .b (.l .u)) (.l .u))).ok x):uR 4000000 m a b x=Z wT:=by
 have⟨fu,hc⟩:∃fu,fu=4000000:=⟨_,O⟩;have L:3000300<=fu:=W
 have P:Vi fu=Z wT:=by rw[hc];exact P9
 rw[<-hc];unfold uR;have⟨q1,p,h1,Q⟩:=zj5 (fu:=fu) J L;rw[Y P,Y h1];simp only;obtain rfl|⟨r,d,β,rfl,rfl,ok,bb,md⟩:=Q
 rfl
 rw[S rC];have⟨w,R,T⟩:=ziY (fu:=fu) (n:=4) (ls:=[a,b,[x]]) rC rx W;have hi:Qj fu 4 [a,b,[x]]=Z w:=R;rw[Y hi]
 cases w with
 |false=>rfl
 |true=>
  rw[S rx];have q:=T O;have M:Mq m r d β:=⟨md,ok,bb⟩;have h:=q 0 rC;have o:=q 1 rC;have fx:=q 2 rC;have f:Xi (256+1) 4 a:=zgT t h;have ob:Xi (256+1) 4 b:=zgT v o;have g:zeL 4 1 x:=fx.2 0 (by show 0<[x].length;simp);have z:Ku 257 x:=by have⟨g1,s⟩:=zaX rx K g;exact⟨λy V=>(g1 y V).mono rx,by have:=g.1;lia,s⟩
  have hj:=md.d4;have hd:d<=32:=W
  have c:3000000<=fu:=W
  have e:=md.fl.one;have A:∀i,X (a.getD i [])<=4:=zdw h;have lb:∀i,X (b.getD i [])<=4:=zdw o;have⟨t2,a2,B⟩:=zlF (fu:=fu) md f ob rx rx c;have⟨t3,a3,C⟩:=zlK (fu:=fu) md f ob rx rx c;have⟨t4,a4,E⟩:=zlv (fu:=fu) md f ob rx rx rx c;have⟨t5,a5,G⟩:=zii (fu:=fu) md f rx rx c;have⟨t6,a6,b6,o6⟩:=zce (fu:=fu) M f (λi=>by have:=A i;lia) rx rx c;have⟨t7,a7,H⟩:=zk8 (fu:=fu) md f z rx rx rx c;have⟨⟨u2,b2,s⟩,⟨u3,b3,g3⟩⟩:=zf0 (fu:=fu) M f ob rx rx c;have⟨u4,b4,g4⟩:=zgU (fu:=fu) M f ob (λi j=>by have:=A i;have:=lb j;lia) rx rx c;have⟨u5,b5,g5⟩:=BG (fu:=fu) M f rx rx c;have⟨u7,b7,g7⟩:=zfd (fu:=fu) M f z (by have:=g.1;lia) rx rx rx c;have⟨c9,a9,b9⟩:=zll (fu:=fu) (znj t h) (znj v o) h o rx c;obtain rfl:t2=u2:=B.eq e s λ_ _=>O;obtain rfl:t3=u3:=C.eq e g3 λ_ _=>O;obtain rfl:t4=u4:=E.eq e g4 λ_ _=>O;obtain rfl:t5=u5:=G.eq e g5 λ_ _=>O;obtain rfl:t7=u7:=H.eq e g7 λ_=>O;have s2:=QE (fu:=fu) (B.op hd rx) rx c;have s3:=QE (fu:=fu) (C.op hd rx) rx c;have s4:=QE (fu:=fu) (E.op hd rx) rx c;have s5:=QE (fu:=fu) (G.op hd rx) rx c;have s6:=QE (fu:=fu) o6 rx c;have o7:=H.opd hd rx;have s7:=UM (fu:=fu) (l:=t7.map cq) (by have:=o7.ln;lia) o7.ok c;rw[Y a2];simp only;rw[Y a3];simp only;rw[Y a4];simp only;rw[Y a5];simp only;rw[Y a6];simp only;rw[Y a7];simp only[Z4];rw[Y b2,Y s2];simp only[Z4];rw[Y b3,Y s3];simp only[Z4];rw[Y b4,Y s4];simp only[Z4];rw[Y b5,Y s5];simp only[Z4];rw[Y b6,Y s6];simp only[Z4];rw[Y b7,Y s7];simp only[Z4];rw[Y a9,Y b9,F];simp
end
section
namespace npolyAdds
open Go.ChangeShapes Go.WideShapes Go.ChangeAt Go.RowKit
theorem own:ownKnob Tryz.prog.godebug=wS:=rO
theorem atW:XR Tryz.prog .u 73:=id (by kernel_rfl:Tryz.prog.underlying 73=Z (.int .u64))
theorem atB:XR Tryz.prog .b 4:=id (by kernel_rfl:Tryz.prog.underlying 4=Z .bool)
theorem atL:XR Tryz.prog (.l .u) 42:=XR.sl (E:=73) rO rO rx atW
theorem atZ:XR Tryz.prog (.p .b (.l .u)) 44:=XR.st (A:=4) (B:=42) rO rO rO rO atB atL
theorem atP:XR Tryz.prog (.l (.p .b (.l .u))) 22:=XR.sl (E:=44) rO rO rx atZ
theorem atQ:XR Tryz.prog (.p (.p .b (.l .u)) (.l .u)) 46:=XR.st (A:=44) (B:=42) rO rO rO rO atZ atL
theorem atR:XR Tryz.prog (.l (.p (.p .b (.l .u)) (.l .u))) 41:=XR.sl (E:=46) rO rO rx atQ
theorem zsv:XR Tryz.prog (.l (.l (.p (.p .b (.l .u)) (.l .u)))) 23:=XR.sl (E:=41) rO rO rx atR
def sgO(M:cj [.d (.l (.p .b (.l .u))),.d (.l (.l (.p (.p .b (.l .u)) (.l .u)))),.d (.l (.l (.p (.p .b (.l .u)) (.l .u)))),.d (.l (.p (.p .b (.l .u)) (.l .u)))]->V ut):Wq:=⟨7,[.d (.l (.p .b (.l .u))),.d (.l (.l (.p (.p .b (.l .u)) (.l .u)))),.d (.l (.l (.p (.p .b (.l .u)) (.l .u)))),.d (.l (.p (.p .b (.l .u)) (.l .u)))],[.d .b],M,0⟩
set_option maxRecDepth 100000 in
theorem lifted{M:cj [.d (.l (.p .b (.l .u))),.d (.l (.l (.p (.p .b (.l .u)) (.l .u)))),.d (.l (.l (.p (.p .b (.l .u)) (.l .u)))),.d (.l (.p (.p .b (.l .u)) (.l .u)))]->V ut}(h:yU Tryz.prog (sgO M))(i:∀x,ziQ [.d (.l (.p .b (.l .u))),.d (.l (.l (.p (.p .b (.l .u)) (.l .u)))),.d (.l (.l (.p (.p .b (.l .u)) (.l .u)))),.d (.l (.p (.p .b (.l .u)) (.l .u)))] x->M x=Z wT)(os:Os)(a:os.Started)(k:Type)(enc:kW×wW->k):
 ReturnsInHanded {} Tryz.checked os 7 .any (Rows.npolyAddsSpec.pre6 enc Tryz.prog Tryz.f7 Rows.npolyAddsRow.domain I) (Rows.npolyAddsSpec.post enc Tryz.prog Tryz.f7 I wT I I):=by
 refine returnsInHanded_of_change (C:=Tryz.checked) own a rO Tryz.func7
  (ChangeSpec.witness6 (enc:=enc) (C:=Tryz.checked) I ⟨#[],#[.slice wS 0 0,.slice wS 0 0,.slice wS 0 0,.slice wS 0 0],[]⟩ 8 rO rO rO rO) ?_
 intro W c args ds G e m f H _;have hc:∀(j:K) t v,Tryz.f7.params[j]? =Z t->args[j]? =Z v->xez Tryz.prog W .any c t v:=m;have hd:=f;have⟨p,q,n,o,_,_,_⟩:=f;have g:xeT enc Tryz.prog W 0 (λ_=>wT) wT Tryz.f7.params.toList args.toList ds p:=n;rw[Tryz.params7]at g;obtain⟨v0,r,d0,s,p0,q0,J,rfl,_,_,r0⟩:=trodAll_cons g;obtain⟨v1,w,d1,y,L,q1,_,rfl,_,_,r1⟩:=trodAll_cons r0;obtain⟨N,vs2,d2,z,P,q2,_,rfl,_,_,r2⟩:=trodAll_cons r1;obtain⟨v3,A,d3,D,Q,R,_,rfl,_,_,E⟩:=trodAll_cons r2;obtain⟨_,rfl,_⟩:=trodAll_nil E;obtain⟨rfl,_⟩:=trodVars_none o
 exact zmZ (sg:=sgO M) hd O hc rO (by rw[Tryz.params7];decide+kernel) (by rw[Tryz.params7];exact⟨atP,zsv,zsv,atR,jP⟩) O h
  (λx F=>i x F) (B:=4) rO Tryz.underlying4 O
set_option maxRecDepth 100000 in
theorem fnm:Tryz.pinned.checked.prog.funcNamed Rows.npolyAddsRow.func=Z 7:=rO
set_option maxRecDepth 100000 in
set_option maxHeartbeats 4000000 in
theorem jf:joinedFacts Tryz.pinned.checked.prog 7 Tryz.f7 Rows.npolyAddsSpec Rows.npolyAddsRow=wT:=by
 unfold joinedFacts;simp only[xae];repeat' apply And.intro
 all_goals (as_aux_lemma=>kernel_rfl)
theorem over:Rows.npolyAddsRow.holds Tryz.pinned (OpenSpec.ofChange Rows.npolyAddsSpec):=
 OpenClaim.holds_of_wide 7 Tryz.f7 O O O O O O O ⟨O,O,O,O,O⟩ O O O O O fnm Tryz.func7 jf
  (WL rO) (by unfold Func.isWrapper;first|(rw[Q<|by decide+kernel];kernel_rfl)|(rw[S<|by decide+kernel];exact⟨O,O⟩))
  (λos a c enc _=>lifted (M:=λx=>uR 4000000 x.1 x.2.1 x.2.2.1 x.2.2.2.1) (sW 4000000) (λx b=>zbK x.1 x.2.1 x.2.2.1 x.2.2.2.1 b.1 b.2.1 b.2.2.1 b.2.2.2.1) os a c enc)
theorem proved:Rows.NpolyAddsSaid:=
 over
end npolyAdds
end
end Go.Proofs.YtoegnnjcmlghhaaGreat
