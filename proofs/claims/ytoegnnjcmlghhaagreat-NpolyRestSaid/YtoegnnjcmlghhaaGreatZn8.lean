/- What a proof needs: rules of walking, mirrors of functions and their plain laws. No condition. -/
import Derived.Test.YtoegnnjcmlghhaaGreatZn7
set_option linter.all false
namespace Go.Proofs.YtoegnnjcmlghhaaGreat
open Bool renaming false->I,true->qR
open Go renaming Act->QR,Exit->lm
open Go.Proofs.YtoegnnjcmlghhaaGreat renaming cf->M,bd->G,za->Y,Zr->U,ci->C,nm->B,pc->D,ze->F,iq->E,nv->A,zf->S,Pz->R,ir->P
open List renaming length->X
open Nat renaming beq->Q
open Option renaming some->Z,none->wW
open _root_ renaming rfl->O,List->N,Int->J,Nat->K,Option->V,List->wF,Int->wN,Nat->wP,Option->wS,absurd->kW,Rat->uP,Bool->uS,funext->Z0,Unit->Wl,True->Ws,False->UT
open Classical renaming choose->xfK
open Int renaming mul_comm->xbB,zero_ediv->xet,zero_emod->xar
open List renaming drop_eq_getElem_cons->xca,ext_getElem->xdR,filter_cons_of_neg->xfq,filter_cons_of_pos->xfp,getElem?_append_left->xbi,getElem?_set_ne->xfN,length->xaK,length_range->xeC,map_congr_left->xch,mem_iff_getElem->xbZ,pairwise_iff_getElem->xcY,range->xaL,range_succ->xdm,replicate->So,take_add_one->xeZ
open Nat renaming add_mul->xbl,div_div_eq_div_mul->xaD,lt_of_lt_of_le->xac,mod_add_div->xee,mod_eq_of_lt->xap,mul_add->xcm,mul_assoc->xbj,mul_comm->xaO,mul_left_comm->xfx,pow_add->xbd,pow_le_pow_right->xai,pow_mul->xbM,pow_succ->xbe
open Prod renaming ext->xfr
open Rat renaming divInt->xfZ,intCast_neg->xeW
section
variable{a b k:wP}{p:wN}{f u v g q:Pz}
def zmu{A B:R}{d e:K}(c:Mn A d)(h:Mn B e):Mn (A*B) (d+e):=
 ⟨by rw[Uy c.2 h.2,c.1,h.1];rfl,λk l=>uX (n:=d+1) (m:=e+1) (λj i=>c.2 j W)<|λj i=>h.2 j W⟩
def zhr:∀{l:N R},(∀A∈l,∃d,Mn A d)->∃d,Mn (prZ l) d
 |[],_=>⟨0,O,λk j=>by show D 1 k=0;unfold D;rw[zF]⟩
 |A::l,h=>by
  have⟨d,hd⟩:=h A<|IR;have⟨e,c⟩:=zhr λB i=>h B<|FS _ i;exact⟨d+e,zmu hd c⟩
def nD{α:Type}(F:α->R)(P:α->uS):∀l:N α,prZ (l.map F)=prZ ((l.filter P).map F)*prZ ((l.filter λx=> !P x).map F)
 |[]=>(yu _).symm
 |x::l=>by
  have c:=nD F P l
  cases h:P x with
  |true=>
   rw[xfp h,xfq<|by rw[h];decide];show F x*_=F x*_*_;rw[c,zd]
  |false=>
   rw[xfq (by rw[h];decide),xfp<|by rw[h];rfl];show F x*_=_*(F x*_);rw[c,zG]
def zbh{P:J}(hp:qO P=qR){a b:R}{c:J}(s:Fs a)(t:Fs b)(h:Cg P (a*b) (D c))(hc:¬P∣c):∃x,Cg P a (D x):=by
 have⟨G,H⟩:=zB hp;obtain⟨Q,rfl⟩:=xaE (W:0<=P);have l:=WA hp;rw[xbb]at l;have d:∀f:R,Fs f->¬Cg (Q:J) f (D 0)->∃g n,Tp g n/\Cg (Q:J) g f/\¬(Q:J)∣g n:=λf w hn=>by
  have f2:Fs (λk=>f k%(Q:J)):=by have⟨n,hn⟩:=w;exact⟨n,λk y=>by show f k%_=0;rw[hn k y,xar]⟩
  have⟨n,h1⟩:=Tp.ex f2 (xad λz=>hn λk=>by
   have:=Nz.not z k;rw[zV,xar];exact this)
  exact⟨_,n,h1,λk=>xaT _ _,λhd=>h1.1 (by show f n%_=0;have:=xax hd;rwa[xaT]at this)⟩
 have A:¬Cg (Q:J) a (D 0):=λe=>hc (by have:=(h.symm.trans<|e.mul_zero_r b).dvd 0;unfold D at this;rwa[E O]at this)
 have B:¬Cg (Q:J) b (D 0):=λe=>hc (by have:=(h.symm.trans<|e.mul_zero_l a).dvd 0;unfold D at this;rwa[E O]at this)
 have⟨u,i,m,o,K⟩:=d a s A;have⟨v,j,v1,C,v3⟩:=d b t B;have h1:=(o.mul C).trans h;by_cases F:i=0
 subst F;obtain⟨x,rfl⟩:=((ot.tp m).2 O).ex;exact⟨x,o.symm⟩;exfalso;have r:=h1<|i+j;rw[Uy m.2 v1.2,show D c (i+j)=0 from zF,xar]at r;rcases LX W l (xaG r)with h3|h3
 lia;exact v3 h3
theorem si{p a:J}(hp:qO p=qR)(d:a%p≠0):∀k,∃w,p^k∣w*a-1
 |0=>⟨0,by rw[xck];exact Int.one_dvd _⟩
 |k+1=>by
  have⟨l,m⟩:=zB hp;by_cases i:k=0
  subst i;obtain⟨Q,rfl⟩:=xaE (W:0<=p);have⟨w,c⟩:=za2 hp λh=>d<|xax h;grind;have⟨w,c⟩:=si hp d k;refine⟨w*(2-w*a),?_⟩;have e:w*(2-w*a)*a-1= -((w*a-1)*(w*a-1)):=by grind
  rw[e];refine Int.dvd_neg.2<|xbv (iK (j:=k+k)) ?_;rw[Int.pow_add];exact xfU c c
abbrev Lx:=N U×N J
def pu(xs:N Lx):R:=prZ<|xs.map λx=>(M x.1:R)
def pl(xs:N Lx):R:=prZ<|xs.map λx=>(C x.2:R)
def zl5(xs:N Lx):Fs (pu xs):=Fs.prZ λf c=>by
 obtain⟨x,_,rfl⟩:=xat.1 c;exact Fs.cf _
def zqe(xs:N Lx):Fs (pl xs):=Fs.prZ λf c=>by
 obtain⟨x,_,rfl⟩:=xat.1 c;exact Fs.ci _
structure Lc(p:J)(k:K)(f:R)(n:K)(xs:N Lx):Prop where
 hp:qO p=qR
 k1:1<=k
 el:∀x∈xs,Up p k x.1 x.2/\QY p x.2/\x.2.length<=66
 pw:xs.Pairwise λa b=>kM p (C a.2)<|C b.2
 tp:Tp f n
 nb:n<=64
 ps:0<f n
 lc:f n%p≠0
 pm:Pm f
 cg:Cg (p^k) f (D (f n)*pu xs)
def zpP{x:Lx}(h:Up p k x.1 x.2/\QY p x.2/\X x.2<=66):Mn (M x.1) (X x.2-1):=by have⟨h1,d,_⟩:=h;have c:=h1.top;rw[h1.len]at c;exact⟨c,λj e=>yq<|by rw[h1.len];lia⟩
def S5{p:J}{k:K}:∀{xs:N Lx},(∀x∈xs,Up p k x.1 x.2/\QY p x.2/\X x.2<=66)->Cg p (pu xs) (pl xs)
 |[],_=>Cg.rfl
 |x::xs,h=>(h x<|IR).1.cg.mul<|S5 λy c=>h y<|FS _ c
def zrO{xs:N Lx}(h:∀x∈xs,Up p k x.1 x.2/\QY p x.2/\X x.2<=66):∃d,Mn (pu xs) d:=zhr λA c=>by
 obtain⟨x,e,rfl⟩:=xat.1 c;exact⟨_,zpP<|h x e⟩
def zik{xs:N Lx}(h:∀x∈xs,Up p k x.1 x.2/\QY p x.2/\X x.2<=66):∃d,Mn (pl xs) d:=zhr λA c=>by
 obtain⟨x,e,rfl⟩:=xat.1 c;exact⟨_,(h x e).2.1.mn.mn⟩
def Lc.lcp{n:K}{xs:N Lx}(h:Lc p k f n xs):Cg p f (D (f n)*pl xs):=
 (h.cg.down<|kY h.k1).trans (Cg.rfl.mul<|S5 h.el)
def Lc.sf{n:K}{xs:N Lx}(h:Lc p k f n xs):∃(m:N J) (w:J),Sf p m (xs.map (·.2))/\Cg p (C m) (D w*f):=by
 have⟨A,B⟩:=zB h.hp;have⟨w,i⟩:=si h.hp h.lc 1;rw[xbS,xck,xdh]at i;have o:∀k,n+1<=k->(λk=>(w*f k)%p) k=0:=λk E=>by
  show(w*f k)%p=0;rw[h.tp.2 k W,xaz,xar]
 have hc:(w*f n)%p=1:=by have:=(xcE (w*f n)<|xer p);have d:(w*f n)%p=1%p:=xaN.2<|xax i;rw[d,xaJ m6 W]
 have c:=EO o;have hd:=Bc (n+1)<|λk=>(w*f k)%p;have r:=HN (n+1)<|λk=>(w*f k)%p;have⟨m,s⟩:∃m,m=nl (n+1) (λk=>(w*f k)%p):=⟨_,O⟩;rw[<-s]at c hd r;have t:X m=n+1:=by
  by_cases e:X m=n+1
  exact e;have:=c n;rw[yB W]at this;lia
 have l:Cg p (C m) (D w*f):=λk=>by rw[c k,zS];exact xaT _ _
 refine⟨m,w,⟨h.hp,⟨⟨λk=>by rw[c k];exact(xo).1,λk=>by rw[c k];exact(xo).2,hd⟩,W,by rw[c];show(w*f (X m-1))%p=1;rw[t];exact hc⟩,by have:=h.nb;lia,λu y=> ?_,?_,?_⟩,l⟩;obtain⟨x,z,rfl⟩:=xat.1 y;have⟨_,d,F⟩:=h.el x z;exact⟨d,W⟩;exact xeD.2 h.pw;refine l.trans<|(Cg.rfl.mul h.lcp).trans ?_;rw[<-zd,jR,xdj];refine Cg.trans (Cg.mul (f':=D 1) (λj=> ?_) Cg.rfl)<|Cg.of<|zE _;unfold D;split;rw[hc];exact(xaJ m6 W).symm;rfl
noncomputable def own(p:J)(u:R)(xs:N Lx):N Lx:=by
 classical exact xs.filter λx=>decide<|Di p (C x.2) u
noncomputable def Tt(p:J)(u:R)(xs:N Lx):N Lx:=by
 classical exact xs.filter λx=> !decide (Di p (C x.2) u)
theorem bN{xs:N Lx}{x:Lx}:x∈own p u xs↔x∈xs/\Di p (C x.2) u:=by grind [own]
def zcy(p:J)(u:R)(xs:N Lx):pu xs=pu (own p u xs)*pu (Tt p u xs)/\pl xs=pl (own p u xs)*pl (Tt p u xs):=by exact⟨nD _ _ xs,nD _ _ xs⟩
def Lc.or{n:K}{xs:N Lx}(h:Lc p k f n xs)(fu:Fs u)(d:Fs v)(l:∀j,b<=j->u j=0)(o:b<=290)(e:f=u*v){x:Lx}(c:x∈xs):(Di p (C x.2) u\/Di p (C x.2) v)/\¬(Di p (C x.2) u/\Di p (C x.2) v):=by
 have⟨m,w,r,s⟩:=h.sf;have⟨h1,t,E⟩:=h.el x c;have A:x.2∈xs.map (·.2):=xbH c;constructor;obtain hd|hc:=t.or' h.hp W l o
 simp_all;right;have i:Di p (C x.2) f:=by refine Di.cg ?_ h.lcp.symm;exact(bF (λy B=>by obtain⟨z,_,rfl⟩:=xat.1 B;exact Fs.ci _)<|xbH c).mul _<|Fs.pc _
 rw[e]at i;exact Di.euclid d hc i;rintro⟨d1,d2⟩;exact r.apart fu d ⟨D w,Fs.pc w,by rw[<-e];exact s⟩ A d1 d2
def Lc.oth_own{n:K}{xs:N Lx}(h:Lc p k f n xs)(fu:Fs u)(c:Fs v)(d:∀j,b<=j->u j=0)(i:b<=290)(e:f=u*v):Tt p u xs=own p v xs:=by refine List.filter_congr λx l=> ?_;have⟨h1,m⟩:=h.or fu c d i e l;by_cases hd:Di p (C x.2) u;simp_all;simp_all
def Lc.pcop{n:K}{xs:N Lx}(h:Lc p k f n xs):(own p u xs).Pairwise (λa b=>kM p (C a.2)<|C b.2):=by exact h.pw.sublist List.filter_sublist
def Lc.odv{n:K}{xs:N Lx}(h:Lc p k f n xs)(fu:Fs u):Di p (pl<|own p u xs) u:=by refine Di.prz fu (λy c=>by obtain⟨z,_,rfl⟩:=xat.1 c;exact Fs.ci _) (xeD.2 h.pcop) λy c=> ?_;obtain⟨z,d,rfl⟩:=xat.1 c;exact(bN.1 d).2
def Dm{n:K}{xs:N Lx}(h:Lc p k f n xs)(u:R):∀x∈own p u xs,Up p k x.1 x.2/\QY p x.2/\X x.2<=66:=λx c=>h.el x (bN.1 c).1
def Lc.loc{n:K}{xs:N Lx}(h:Lc p k f n xs)(c:Tp u a)(hv:Tp v b)(e:f=u*v):Cg p u (D (u a)*pl (own p u xs))/\Mn (pl<|own p u xs) a:=by
 have⟨t,G⟩:=zB h.hp;have fu:=c.fs;have o:=hv.fs;have w:a+b=n:=by have:=c.mul hv;rw[<-e]at this;exact this.uniq h.tp
 have y:f n=u a*v b:=by rw[<-w,e,Uy c.2 hv.2]
 have z:Tt p u xs=own p v xs:=h.oth_own fu o (b:=a+1) (λj H=>c.2 j W) (by have:=h.nb;lia) e;have⟨α,i,h1⟩:=h.odv fu;have⟨β,l,A⟩:=h.odv o;have⟨d0,hi⟩:=zik h.el;have r:=(zcy p u xs).2;rw[z]at r;have B:Cg p ((α*β-D (f n))*pl xs) (D 0):=by rw[kh];refine Cg.iff_sub.1<|Cg.trans ?_ h.lcp;rw[e];refine Cg.trans (Cg.of ?_) (h1.mul A).symm;rw[r,zd α,zd α,zG (pl<|own p u xs) β]
 have C:=hi.zero t ((i.mul l).subt<|Fs.pc _) λj _=>by rw[B j,zV,xar]
 have hc:¬p∣f n:=λhd=>h.lc<|xax hd;have⟨x,E⟩:=zbh h.hp i l (Cg.iff_sub.2 C) hc;have m:Cg p u (D x*pl (own p u xs)):=h1.trans<|E.mul Cg.rfl;have⟨d,hd⟩:=zik<|Dm h u;have s:¬p∣u a:=λhd=>hc (by rw[y];exact xbv hd<|xcd _ _);have t1:=m a;have t2:=m d;rw[zS]at t1 t2;rw[hd.1,xcU]at t2;have F:a=d:=by by_cases c1:a<d;exfalso;rw[c.2 d c1,xar]at t2;refine s<|xaG ?_;rw[t1,xcj,<-t2,xba,xar];by_cases c2:d<a;exfalso;rw[hd.2 a c2,xaz,xar]at t1;exact s<|xaG t1;lia
 subst F;refine⟨m.trans<|Cg.mul (λj=> ?_) Cg.rfl,hd⟩;unfold D;split;exact t2.symm;rfl
theorem Lc.up{n:K}{xs:N Lx}(h:Lc p k f n xs)(i:Tp u a)(hv:Tp v b)(e:f=u*v):Cg (p^k) u (D (u a)*pu (own p u xs)):=by
 have⟨U,p2⟩:=zB h.hp;have fu:=i.fs;have s:=hv.fs;have V:a+b=n:=by have:=i.mul hv;rw[<-e]at this;exact this.uniq h.tp
 have t:f n=u a*v b:=by rw[<-V,e,Uy i.2 hv.2]
 have Q:¬p∣f n:=λhd=>h.lc<|xax hd;have Y:u a%p≠0:=λhd=>Q (by rw[t];exact xbv (xaG hd)<|xcd _ _);have ht:v b%p≠0:=λhd=>Q (by rw[t];exact xbv (xaG hd)<|xcP _ _);have ho:Tt p u xs=own p v xs:=h.oth_own fu s (b:=a+1) (λj m=>i.2 j W) (by have:=h.nb;lia) e;have⟨l1,m1⟩:=h.loc i hv e;have⟨l2,m2⟩:=h.loc hv i (by rw[e,zm]);have⟨w,o⟩:=si h.hp Y k;have⟨z,S⟩:=si h.hp ht k;have C:=kY (p:=p) h.k1;have one:∀{M c d:J},M∣c*d-1->Cg M (D c*D d) (D 1):=λ{M c d} hd j=>by
  rw[jR];unfold D;split;exact xaN.2<|xax hd;rfl
 have hA:∃A:R,Mn A a/\Fs A/\Cg (p^k) A (D w*u):=by refine⟨λj=>if j=a then 1 else w*u j,⟨E O,λj m=> ?_⟩,⟨a+1,λj m=> ?_⟩,λj=> ?_⟩;show(if j=a then(1:J)else w*u j)=0;rw[zF,i.2 j m,xaz];show(if j=a then(1:J)else w*u j)=0;rw[zF,i.2 j W,xaz];show(if j=a then(1:J)else w*u j)%_=_;rw[zS];by_cases c:j=a;rw[E c,c];exact(xaN.2<|xax o).symm;rw[P c]
 have⟨A,F,fA,G⟩:=hA;have⟨l,H⟩:=zrO<|Dm h u;have L:=S5<|Dm h u;have hB:=S5<|Dm h v;have r:Cg p A (pl<|own p u xs):=by refine(G.down C).trans<|(Cg.rfl.mul l1).trans ?_;rw[<-zd];exact(Cg.mul (one<|xbv C o) Cg.rfl).trans<|Cg.of<|zE _
 have cv:Cg p (D z*v) (pl<|own p v xs):=by refine(Cg.rfl.mul l2).trans ?_;rw[<-zd];exact(Cg.mul (one<|xbv C S) Cg.rfl).trans<|Cg.of<|zE _
 have mu:Mn (pu<|own p u xs) a:=by
  have t1:=(L.trans r.symm) a;have t2:=(L.trans r.symm) l;rw[F.1]at t1;rw[H.1]at t2;have T:(1:J)%p=1:=xaJ m6 W;have:l=a:=by
   by_cases c1:l<a;rw[H.2 a c1,xar,T]at t1;cases t1
   by_cases c2:a<l;rw[F.2 l c2,xar,T]at t2;cases t2
   lia
  rw[<-this];exact H
 have hn:kM p (pl<|own p u xs) (pl<|own p v xs):=by
  have:=Hy (p:=p) (A:=(own p u xs).map (·.2)) (B:=(own p v xs).map (·.2)) λc hc d hd=>by
   obtain⟨x,hx,rfl⟩:=xat.1 hc;obtain⟨y,hy,rfl⟩:=xat.1 hd;have hi:=bN.1 hx;have hp:=bN.1 hy;have⟨_,i1,i2⟩:=h.el x hi.1;have⟨_,i3,i4⟩:=h.el y hp.1;refine i1.cop h.hp i3 W W λee=> ?_;have:=(h.or fu s (b:=a+1) (λj m=>i.2 j W) (by have:=h.nb;lia) e hi.1).2;exact this ⟨hi.2,by rw[ee];exact hp.2⟩
  rw[xdj,xdj]at this;exact this
 have hl:Cg (p^k) (A*(D z*v)) (pu (own p u xs)*pu (own p v xs)):=by
  have e1:=(zcy p u xs).1;rw[ho]at e1;rw[<-e1];refine(G.mul Cg.rfl).trans ?_;have e2:D w*u*(D z*v)=D w*(D z*f):=by rw[e,zd,zG u (D z) v]
  rw[e2];refine(Cg.mul Cg.rfl<|Cg.mul Cg.rfl h.cg).trans ?_;have e3:D w*(D z*(D (f n)*pu xs))=(D w*D (u a))*((D z*D (v b))*pu xs):=by rw[t,<-zd,<-zd,<-zd,jR,jR,jR,jR,jR];congr 2;grind
  rw[e3];exact(Cg.mul (one o)<|(Cg.mul (one S) Cg.rfl).trans<|Cg.of<|zE _).trans<|Cg.of<|zE _
 have⟨r1,_⟩:=PR U F mu fA (zl5 _) ((Fs.pc z).mul s) (zl5 _) (hn.congr r.symm cv.symm) (r.trans L.symm) (cv.trans hB.symm) k hl;refine Cg.trans ?_<|Cg.rfl.mul r1;refine Cg.trans ?_<|Cg.rfl.mul G.symm;rw[<-zd];refine Cg.symm<|(Cg.mul (one (d:=w) ?_) Cg.rfl).trans<|Cg.of<|zE _;rw[xbB];exact o
def Lc.step{n:K}{xs:N Lx}(h:Lc p k f n xs)(c:Tp g a)(d:Tp q b)(m:0<g a)(e:f=q*g):Lc p k q b (Tt p g xs):=by
 have i:f=g*q:=by rw[e,zm]
 have o:a+b=n:=by have:=c.mul d;rw[<-i]at this;exact this.uniq h.tp
 have l:f n=g a*q b:=by rw[<-o,i,Uy c.2 d.2]
 have r:=h.oth_own c.fs d.fs (b:=a+1) (λj s=>c.2 j W) (by have:=h.nb;lia) i;have hc:=h.ps;rw[r];refine⟨h.hp,h.k1,Dm h q,h.pcop,d,by have:=h.nb;lia,?_,λhd=> ?_,?_,h.up d c e⟩;rw[l]at hc;exact Int.pos_of_mul_pos_right hc m;exact h.lc<|by rw[l];exact xax<|xbv (xaG hd)<|xcP _ _
 have:=h.pm;rw[e]at this;exact this.left
def Lc.pick{n:K}{xs S:N Lx}(h:Lc p k f n xs)(o:∀x∈S,x∈xs)(H:Tp g a)(Y:Tp q b)(e:f=g*q){γ:J}(hc:Cg p (D γ*g) (D (f n)*pl S)){x:Lx}(r:x∈xs):Di p (C x.2) g↔x∈S:=by
 have⟨s,p2⟩:=zB h.hp;have E:¬p∣f n:=λhd=>h.lc<|xax hd;have l:=λy i=>h.el y<|o y i;have⟨d,hd⟩:=zik l;have m:¬p∣γ:=λhi=>E (by have t:=hc d;rw[zS,zS,hd.1,xcU]at t;refine xaG ?_;rw[<-t];exact xax<|xbv hi<|xcd _ _)
 have⟨_,i1,i2⟩:=h.el x r;have j:∀{c:J}{y:R},¬p∣c->Fs y->Di p (C x.2) (D c*y)->Di p (C x.2) y:=λ{c y} hc L hd=>by
  rcases i1.or' h.hp W (f:=D c) (n:=1) (λk hk=>by unfold D;rw[zF]) m6 with h1|h1
  exact kW (i1.const s h1) hc;exact Di.euclid L h1 hd
 constructor
 intro h1;have M:Di p (C x.2) (pl S):=j E (zqe S)<|(h1.mul (D γ)<|Fs.pc γ).cg hc;have P:=i1.mem h.hp (us:=S.map (·.2)) W (λw Q=>by
  obtain⟨y,i,rfl⟩:=xat.1 Q;have⟨_,T,j2⟩:=l y i;exact⟨T,W⟩) (by rw[xdj];exact M)
 have⟨y,i,U⟩:=xat.1 P;have:x=y:=by
  by_cases ne:x=y;exact ne;exfalso;have J4:=h.pw;have F:kM p (C x.2) (C y.2):=by
   have⟨A,B,V⟩:=xev r;have G:=o y i;rw[V]at G J4;rw[xdu,xdo]at J4;obtain h4|h4:=xab.1 G
   exact(J4.2.2 y h4 x<|IR).symm;obtain h5|h5:=xal.1 h4
   exact kW h5.symm ne;exact J4.2.1.1 y h5
  rw[U]at F;exact i1.self s F
 rw[this];exact i;intro h1;refine j m H.fs<|Di.cg ?_ hc.symm;exact(bF (λy i=>by obtain⟨z,_,rfl⟩:=xat.1 i;exact Fs.ci _)<|xbH (f:=λx:Lx=>(C x.2:R)) h1).mul _<|Fs.pc _
end
section
variable{f u v g q:Pz}{p:wN}{k N:wP}{xs:wF Lx}{a:wF wN}
theorem zqx{α:Type}{P Q R:α->uS}:∀{l:wF α},(∀x∈l,P x=qR->R x=qR)->(∀x∈l,Q x=qR->R x=qR)->(∀x∈l,¬(P x=qR/\Q x=qR))->X (l.filter P)+X (l.filter Q)<=X (l.filter R)
 |[],_,_,_=>Nm _
 |x::l,h1,c,d=>by
  have e:=zqx (λy b=>h1 y<|FS _ b) (λy b=>c y<|FS _ b) λy b=>d y<|FS _ b;grind
def Ls(p:J)(f:R)(xs:wF Lx)(c:K):Prop:=∀u v,Fs u->Fs v->f=u*v->¬ot u->c<=X (own p u xs)
def Qw(c:Nz f)(e:f=u*v):Nz u/\Nz v:=by have⟨k,b⟩:=c;rw[e]at b;exact⟨xad λhn=>b (yU λi _=>by rw[Nz.not hn i,xba]),xad λhn=>b<|yU λi _=>by rw[Nz.not hn _,xaz]⟩
def Ls.one{n:K}(h:Lc p k f n xs):Ls p f xs 1:=λu v fu i e j=>by
 have⟨l,A⟩:=Qw h.tp.nz e;have⟨a,c⟩:=Tp.ex fu l;have⟨b,m⟩:=Tp.ex i A;have⟨_,d⟩:=h.loc c m e
 cases o:own p u xs with
 |nil=>
  exfalso;rw[o]at d;have h1:=d.1;refine j<|(ot.tp c).2<|xad λh0=> ?_;rw[show pl [] a=0 from P h0]at h1;cases h1
 |cons x r=>exact Nat.succ_le_succ<|xah _
def Ls.two{w:R}{n:K}(h:Lc p k f n xs)(fu:Fs u)(c:Fs v)(d:Fs w)(e:f=u*v*w):X (own p u xs)+X (own p v xs)<=X (own p (u*v) xs):=by
 classical
 have⟨n1,nw⟩:=Qw h.tp.nz e;have⟨l,A⟩:=Qw n1 O;have⟨a,i⟩:=Tp.ex fu l;have⟨b,m⟩:=Tp.ex (c.mul d)<|Nz.mul c d A nw;have hc:a+b=n:=by have:=i.mul m;rw[<-zd,<-e]at this;exact this.uniq h.tp
 refine zqx (λx _ h1=> ?_) (λx _ h1=> ?_) λx o ⟨h1,r⟩=> ?_;refine Ww ?_;rw[zm];exact(WP h1).mul v c;exact Ww<|(WP h1).mul u fu;refine(h.or fu (c.mul d) (b:=a+1) (λj s=>i.2 j W) (by have:=h.nb;lia) (by rw[e,zd]) o).2 ⟨WP h1,?_⟩;rw[zm];exact(WP r).mul w d
def Ls.ir{n c:K}(h:Lc p k f n xs)(hl:Ls p f xs c)(hc:1<=c)(i:Fs g)(fq:Fs q)(e:f=g*q)(pm:Pm g)(j:¬ot g)(hn:X (own p g xs)<2*c):Ir g:=by refine⟨i,pm,j,λu v fu b l=>xad λd=> ?_⟩;have m:=λh=>d (.inl h);have cv:=λh=>d (.inr h);subst l;have h1:=hl u (v*q) fu (b.mul fq) (by rw[e,zd]) m;have o:=hl v (u*q) b (fu.mul fq) (by rw[e,zd,zG]) cv;have r:=Ls.two h fu b fq e;lia
def Ls.step{n c:K}(h:Lc p k f n xs)(hl:Ls p f xs c)(d:Fs g)(fq:Fs q)(e:f=q*g):Ls p q (Tt p g xs) c:=λu v fu i m o=>by
 classical
 subst m;have h1:=hl u (v*g) fu (i.mul d) (by rw[e,zd]) o;have⟨n1,r⟩:=Qw h.tp.nz e;have⟨a,l⟩:=Tp.ex d r;have⟨b,s⟩:=Tp.ex fq n1;have hc:b+a=n:=by have:=s.mul l;rw[<-e]at this;exact this.uniq h.tp
 have:own p u (Tt p g xs)=own p u xs:=by unfold own Tt;rw[List.filter_filter];refine List.filter_congr λx t=> ?_;by_cases hd:Di p (C x.2) u;have w:=(h.or d fq (b:=a+1) (λj z=>l.2 j W) (by have:=h.nb;lia) (by rw[e,zm]) t).2;rw[Ww hd,WF λy=>w ⟨y,by rw[zm];exact hd.mul v i⟩];rfl;simp_all
 simp_all
structure BL(N c:K)(a:wF J):Prop where
 ln:a.length=c
 lo:∀i,i<c->(i:J)<=C a i
 hi:∀i,i<c->C a i+c<=N+i
 st:∀i,i+1<c->C a i<C a (i+1)
def Lt(f g:K->J)(c:K):Prop:=∃j,j<c/\f j<g j/\∀k,k<j->f k=g k
def Et(f g:K->J)(c:K):(∀k,k<c->f k=g k)\/Lt f g c\/Lt g f c:=by by_cases h:∃k,k<c/\f k≠g k;have⟨j,⟨d,m⟩,i⟩:=zml h;have e:=λk b=>xad λhn=>i k b ⟨W,hn⟩;by_cases l:f j<g j;exact .inr (.inl ⟨j,d,l,e⟩);exact .inr (.inr ⟨j,d,W,λk b=>(e k b).symm⟩);simp_all
theorem Lt.asy{f g:K->J}{c:K}(h:Lt f g c)(b:Lt g f c):UT:=by have⟨i,i1,i2,d⟩:=h;have⟨j,l,m,n⟩:=b;by_cases e:i<j;simp_all;grind
def nxA(c k:K)(a:wF J):wF J:=zl c λi=>if i<k then C a i else C a k+1+((i:J)-k)
theorem BL.up{N c:K}{T:wF J}(b:BL N c T){i:K}:∀d,i+d<c->C T i+d<=C T (i+d)
 |0,_=>by rw[xbV];lia
 |d+1,h=>by
  have h1:=b.up (i:=i) d W;have e:=b.st (i+d) W;grind
def U6{c:K}{i:K}(h:i<c:=by lia):C (nxA c k a) i=if i<k then C a i else C a k+1+((i:J)-k):=ZJ h
theorem BL.next{c:K}(h:BL N c a)(b:k<c)(h1:C a k+c<N+k):BL N c (nxA c k a):=by refine⟨yj _ _,λi hi=> ?_,λi hi=> ?_,λi hi=> ?_⟩;rw[U6 hi];have:=h.lo i hi;have:=h.lo k b;lia;rw[U6 hi];have:=h.hi i hi;lia;rw[U6,U6 hi];by_cases e:i+1<k;rw[yg,E e];exact h.st i hi;by_cases d:i<k;have:=h.st i hi;grind;lia
def zp7{c:K}{T:wF J}(l:BL N c T)(r:k<c)(n:∀i,k<i->i<c->C a i+c=N+i)(h:Lt (C a) (C T) c):(∀i,i<c->C (nxA c k a) i=C T i)\/Lt (C<|nxA c k a) (C T) c:=by
 have⟨j,b,o,m⟩:=h;have hc:j<=k:=by by_cases e:j<=k;exact e;have:=n j W b;have:=l.hi j b;lia
 by_cases e:j<k;exact .inr ⟨j,b,by rw[U6 b,E e];exact o,λi hi=>by rw[U6,yg];exact m i hi⟩;obtain rfl:j=k:=W
 rcases Et (C<|nxA c j a) (C T) c with h1|h1|h1
 simp_all;simp_all;exfalso;have⟨i,i1,i2,s⟩:=h1;rw[U6 i1]at i2;by_cases d:i<j;rw[E d,m i d]at i2;lia;rw[P d]at i2;have:=l.up (i:=j) (i-j) W;rw[(W:j+(i-j)=i)]at this;lia
def msr(N:K)(f:K->J):K->K
 |0=>0
 |n+1=>msr N f n*(N+1)+(N-(f n).toNat)
def zg5(N:K)(f:K->J):∀n,msr N f n+1<=(N+1)^n
 |0=>Nm _
 |n+1=>by
  have b:=xag (N+1)<|zg5 N f n;rw[xbl]at b;show msr N f n*(N+1)+(N-(f n).toNat)+1<=(N+1)^n*(N+1);lia
def zhL{N:K}{f g:K->J}:∀n,(∀k,k<n->f k=g k)->msr N f n=msr N g n
 |0,_=>rfl
 |n+1,h=>by
  show msr N f n*(N+1)+_=msr N g n*(N+1)+_;rw[zhL n λk b=>h k W,h n W]
def zhv{N:K}{f g:K->J}{j:K}(h0:∀k,k<j->f k=g k)(h1:0<=g j)(b:f j=g j+1)(c:f j<=N):∀d,msr N f (j+1+d)+1<=msr N g (j+1+d)
 |0=>by
  show msr N f j*(N+1)+_+1<=msr N g j*(N+1)+_;rw[zhL j h0];lia
 |d+1=>by
  have e:=xag (N+1)<|zhv h0 h1 b c d;rw[xbl]at e;show msr N f (j+1+d)*(N+1)+(N-(f<|j+1+d).toNat)+1<=msr N g (j+1+d)*(N+1)+(N-(g<|j+1+d).toNat);lia
end
section
variable{B R Q:Pz}{la lb ql K J fu:wP}{b a:wF Zr}
structure DvZ(A B Q R:Pz)(la lb n ql K J:wP):Prop where
 eq:A=Q*B+R
 q1:∀k,k<n->Q k=0
 q2:∀k,ql<=k->Q k=0
 r:∀k,n+(lb-1)<=k->R k=0
 bz:∀k,Bz (K+(ql-n)*(J+1))<|R k
 bq:∀k,Bz (K+(ql-n)*(J+1))<|Q k
theorem Ox{n m:wP}(e:Tp B m)(h:Zd B R)(g:∀k,n+m<=k->R k=0):∃w:Pz,R=w*B/\∀k,n<=k->w k=0:=by
 obtain⟨w,f,rfl⟩:=h;refine⟨w,O,?_⟩;by_cases nw:Nz w
 ·obtain⟨d,hd⟩:=Tp.ex f nw;have h1:=(hd.mul e).1;intro k i;refine hd.2 k ?_;by_cases c:d<n
  ·lia
  ·simp_all
 ·exact λk _=>Nz.not nw k
theorem DvZ.step{A:Pz}{n:wP}(h:DvZ A B Q R la lb (n+1) ql K J)(f:Tp B (lb-1))(hn:n+1<=ql){c:wN}(hc:R (n+(lb-1))=c*B (lb-1))(i:∀k,Bz J<|B k):
 DvZ A B (XA Q n c) (λk=>R k-c*sh B n k) la lb n ql K J:=by
 have hd:Bz (K+(ql-(n+1))*(J+1)) c:=(h.bz<|n+(lb-1)).le (by
  rw[hc,xcl];exact xcp _ (by have:=f.1;lia))
 have g:K+(ql-n)*(J+1)=K+(ql-(n+1))*(J+1)+J+1:=by rw[(W:ql-n=ql-(n+1)+1),xbl];lia
 have e1:XA Q n c=Q+mono n c:=Z0 λk=>by
  rw[zW];unfold XA mono;by_cases e:k=n
  ·rw[E e,E e,e,h.q1 n W];lia
  ·lia
 refine⟨?_,λk d=> ?_,λk d=> ?_,λk d=> ?_,λk=> ?_,λk=> ?_⟩
 ·rw[e1,yY];funext k;have:=WS h.eq k;rw[zW]at this;rw[zW,zW,VO];show _=_+_+(R k-c*sh B n k);lia
 ·unfold XA;rw[zF];exact h.q1 k W
 ·unfold XA;rw[zF];exact h.q2 k d
 ·show R k-c*sh B n k=0;unfold sh;rw[yg];by_cases e:k=n+(lb-1)
  ·rw[e,hc,(W:n+(lb-1)-n=lb-1)];lia
  ·rw[h.r k W,f.2 _ W];lia
 ·rw[g];refine Bz.sub ((h.bz k).mono W)<|hd.mul ?_;unfold sh;split
  ·exact i _
  ·exact Bz.zero _
 ·rw[g];unfold XA;split
  ·exact hd.mono W
  ·exact(h.bq k).mono W
theorem zjD{n:wP}{c:wN}(d:xf J b)(o:X b=lb)(hn:n+lb<=la)(hl:la<=1000)(i:∀k,Bz K<|R k)(hc:Bz K c)(p:K+J+1<=40000)(f:3000000<=fu):
 zg (UA fu (n:wN) b) fu ((0:wN),b,zi la R,zi ql Q,yK c)=Z (b,zi la<|λk=>R k-c*sh (M b) n k,zi ql Q):=by
 refine zC (λs:wN×N U×N U×N U×U=>∃j:wP,j<=lb/\s=((j:wN),b,zi la (λk=>if k<n+j then R k-c*sh (M b) n k else R k),zi ql Q,yK c)) (λs=>lb-s.1.toNat) _ ?_ _ _ ⟨0,xah _,?_⟩ (by show lb-0<fu;lia)
 ·rintro s L ⟨j,q,rfl⟩ l;unfold UA;simp only;by_cases h1:j<lb
  ·rw[yg,Y O];simp only[Xs];have hd:=d.get j;rw[yn,F,(W:(n:wN)+(j:wN)=((n+j:wP):wN)),zb,zb,zp (by rw[yA];lia),F,YR W,zF,Y<|ya (hc.ok W) (lF.of hd W) f,zt,Qi];have m:Bz (K+J) (c*M b j):=hc.mul<|d.bz j;rw[Y<|qx ((i _).ok W) (m.ok W) f,zt,zt,zp (by rw[yA];lia),F,bj,zb];refine l _ ⟨j+1,W,?_⟩ (by show lb-((j:wN)+1).toNat<lb-(j:wN).toNat;lia);rw[(W:((j:wN)+1)=((j+1:wP):wN))];refine xfr O<|xfr O<|xfr ?_ O;refine xe λk g=> ?_;unfold XA;by_cases e:k=n+j
   ·rw[E e,yg,e];unfold sh;rw[yg,(W:n+j-n=j)]
   ·rw[P e];show(if k<n+j then R k-c*sh (M b) n k else R k)=_;by_cases h:k<n+j
    ·rw[E h,yg]
    ·rw[P h,zF]
  ·rw[zF,Y O];simp only[xam,Z9];obtain rfl:j=lb:=W
   refine Z4 Z<|xfr O<|xfr ?_ O;refine xe λk g=> ?_;by_cases e:k<n+j
   ·rw[E e]
   ·rw[P e];unfold sh;rw[yg,yq W];lia
 ·refine xfr O<|xfr O<|xfr ?_ O;refine xe λk g=> ?_;by_cases e:k<n+0
  ·rw[E e];unfold sh;rw[zF];lia
  ·rw[P e]
theorem zoR(a:N U):yx a=zi (X (yx a)) (M a):=by
 have h:yx a=zi (dg (M a) (X a)) (M a):=O;rw[show(yx a).length=dg (M a) (X a) from xJ _ _];exact h
theorem WE(h:X (yx a)≠0):Tp (M a) (X (yx a)-1):=by
 have h1:=X3 (bH a) h;rw[Yu]at h1;exact⟨h1,λk c=>by rw[<-Yu];exact yq W⟩
theorem Vo(h:X (yx a)=0)(k:wP):M a k=0:=by rw[<-Yu];exact yq W
theorem Kf(H:xf K a)(y:xf J b)(hK:K+(X a+1)*(J+1)<=30000)(hJ:X a<=1000)(hL:X b<=1000)(h0:X (yx b)≠0)(o:3000000<=fu):
 ∃q e,wK fu a b=Z (q,e)/\(e=0↔Zd (M b) (M a))/\(e=0->(M a:Pz)=M q*M b/\yx q=q/\X q<=X a):=by
 have hn:=gI y;have hM:=ZZ b;have hN:=ZZ a;have l:=WE h0;have hO:J+1<=(X a+1)*(J+1):=xei _ W;obtain⟨la,hi⟩:∃la,la=X (yx a):=⟨_,O⟩;obtain⟨lb,t⟩:∃lb,lb=X (yx b):=⟨_,O⟩;obtain⟨ql,hP⟩:∃ql,ql=la+1-lb:=⟨_,O⟩;have u:=zoR a;rw[<-hi]at u;rw[<-t]at l h0;unfold wK;rw[Y<|zM H W W o,Y<|zM y W W o,show w8 (X a) (M a)=yx a from O,show w8 (X b) (M b)=yx b from O,<-hi,<-t,zF];by_cases hR:0<la/\la<lb
 ·rw[Y (v:=Sum.inr ())<|by rw[yg,yg]];refine⟨[],4,O,⟨λh=>kW h m6,λh=> ?_⟩,λh=>kW h m6⟩;exfalso;have z:=WE (a:=a) W;rw[<-hi]at z;obtain⟨w,p,w0⟩:=Ox (n:=0) l h λk A=>z.2 k W;exact z.1<|by rw[p,w7,yU λi _=>by rw[w0 i W,xba]]
 ·rw[Y (v:=Sum.inl ()) (by
   by_cases h1:0<la
   ·rw[yg,zF]
   ·rw[zF])]
  simp only;have hp:max ((la:wN)-lb+1) 0=(ql:wN):=W
  rw[zb,zb,F,hp,yH,y9,F,aZ,yA,zb]
  obtain⟨s,C,hQ⟩:=zU (f:=UI fu) (λs:wN×N U×N U×N U=>∃(n:wP) (Q R:Pz),n<=ql/\s=((n:wN)-1,yx b,zi la R,zi ql Q)/\DvZ (M a) (M b) Q R la lb n ql K J) (λs=>(s.1+1).toNat)
   (λr=>(∃Q R:Pz,r=.inl (zi la R,zi ql Q)/\DvZ (M a) (M b) Q R la lb 0 ql K J)\/(r=.inr 4/\¬Zd (M b) (M a))) (by
   rintro s L ⟨n,Q,R,hy,rfl,d⟩ ih
   unfold UI
   simp only
   cases n with
   |zero=>
    rw[zF]
    exact⟨_,O,.inl ⟨Q,R,O,d⟩⟩
   |succ n=>
    have hA:(ql-(n+1))*(J+1)<=(X a+1)*(J+1):=xag _ W
    have hH:(ql-(n+1))*(J+1)+(J+1)<=(X a+1)*(J+1):=by
     have:=xag (J+1) (W:ql-(n+1)+1<=X a+1);rw[xbl,xcH]at this;exact this
    have hl:=d.bz
    rw[(W:((n+1:wP):wN)-1=(n:wN)),yg,<-t,zb,(W:(n:wN)+(lb:wN)-1=((n+(lb-1):wP):wN)),zb,zp (by rw[yA];lia),F,YR W,(W:(lb:wN)-1=((lb-1:wP):wN)),zb,yn,F]
    have S:=hn.get<|lb-1
    rw[Y<|uI ((hl _).okS W) ⟨S.1,by have:=S.2;lia⟩ o,zt,Qi,Yu]
    simp only
    have T:=l.1
    have x:exE (R<|n+(lb-1)) (M b<|lb-1)=if R (n+(lb-1))%M b (lb-1)=0 then 0 else 4:=by unfold exE;rw[P T]
    have V:exI (R<|n+(lb-1)) (M b<|lb-1)=if R (n+(lb-1))%M b (lb-1)=0 then R (n+(lb-1))/M b (lb-1)else 0:=by unfold exI;rw[P T]
    by_cases hd:R (n+(lb-1))%M b (lb-1)=0
    ·rw[E hd]at x V
     obtain⟨c,hu⟩:∃c,c=R (n+(lb-1))/M b (lb-1):=⟨_,O⟩
     have hc:R (n+(lb-1))=c*M b (lb-1):=by rw[hu,Int.ediv_mul_cancel<|xaG hd]
     have hB:Bz (K+(ql-(n+1))*(J+1)) c:=(hl<|n+(lb-1)).le (by
      rw[hc,xcl];exact xcp _ W)
     rw[x,V,<-hu,E O,zp (by rw[yA];lia),F,bj,Y<|zjD hn t.symm W W hl hB W o]
     simp only
     rw[zb]
     have C:=d.step l hy hc y.bz
     have e:(λk=>R k-c*sh (M<|yx b) n k)=λk=>R k-c*sh (M b) n k:=by rw[show M (yx b)=M b from Z0 (Yu b)]
     rw[e]
     exact ih _ ⟨n,_,_,W,O,C⟩ (by show((n:wN)-1+1).toNat<(((n+1:wP):wN)-1+1).toNat;lia)
    ·rw[P hd]at x
     rw[x,P m6]
     refine⟨_,O,.inr ⟨O,λu=>hd ?_⟩⟩
     have D:Zd (M b) R:=by
      have e:R=(M a:Pz)-Q*M b:=Z0 λk=>by
       have:=WS d.eq k;rw[zW]at this;rw[xd];lia
      rw[e];exact u.sub ⟨Q,⟨ql,d.q2⟩,O⟩
     obtain⟨w,p,w0⟩:=Ox (n:=n+1) l D d.r
     have:=Uy (f:=w) (g:=M b) (n:=n) (m:=lb-1) (λk A=>w0 k W) l.2
     rw[<-p]at this
     rw[this,Int.mul_emod_left]) fu ((ql:wN)-1,yx b,yx a,zi ql λ_=>0) ⟨ql,λ_=>0,M a,Nm _,by rw[u],⟨Z0 λk=>by
    rw[zW,w7,yU λi _=>xba _,xcO],λ_ _=>O,λ_ _=>O,λk A=>by
    by_cases e:la=0
    ·exact Vo W k
    ·rw[<-Yu];exact yq W,λk=>(H.bz k).mono W,λk=>Bz.zero _⟩⟩ (by show((ql:wN)-1+1).toNat<fu;lia)
  rw[Y C];rcases hQ with⟨Q,R,rfl,d⟩|⟨rfl,hC⟩
  ·have hA:(ql-0)*(J+1)<=(X a+1)*(J+1):=xag _ W;have hD:xf 30000 (zi la R):=Xy λj=>(d.bz j).mono W;have hF:xf 30000 (zi ql Q):=Xy λj=>(d.bq j).mono W;have hv:∀k,la<=k->R k=0:=λk A=>by
    by_cases e:la=0
    ·have h1:=WS d.eq k;rw[zW,w7,yU (n:=k+1) λi _=>by rw[d.q2 i W,xba],Vo W]at h1;lia
    ·exact d.r k W
   simp only;rw[Y<|zM hD m6 (by rw[yA];lia) o,yA,DJ];by_cases hr:X (w8 la R)=0
   ·have G:∀k,R k=0:=λk=>by rw[<-km hv k];exact yq W
    have hG:(M (w8 ql Q):Pz)=Q:=Z0 λk=>km d.q2 k;have he:(M a:Pz)=M (w8 ql Q)*M b:=by
     rw[hG];funext k;have:=WS d.eq k;rw[zW,G k,xcc]at this;exact this
    rw[zF,Y<|zM hF m6 (by rw[yA];lia) o,yA,DJ];refine⟨_,0,O,⟨λ_=>⟨_,Fs.cf _,he⟩,λ_=>O⟩,λ_=>⟨he,(Jk _ _).symm,?_⟩⟩;rw[xJ];have:=jc Q ql;lia
   ·rw[yg];refine⟨[],4,O,⟨λh=>kW h m6,λh=> ?_⟩,λh=>kW h m6⟩;exfalso;have e:R=(M a:Pz)-Q*M b:=Z0 λk=>by
     have:=WS d.eq k;rw[zW]at this;rw[xd];lia
    have D:Zd (M b) R:=by
     rw[e];exact h.sub ⟨Q,⟨ql,d.q2⟩,O⟩
    obtain⟨w,p,w0⟩:=Ox (n:=0) l D d.r;have G:∀k,R k=0:=λk=>by rw[p,w7,yU λi _=>by rw[w0 i W,xba]]
    have ht:=X3 (Jk la R) hr;rw[km hv]at ht;exact ht<|G _
  ·exact⟨[],4,O,⟨λh=>kW h m6,λh=>kW h hC⟩,λh=>kW h m6⟩
theorem B0(c:xf K a)(d:xf J b)(e:K<=40000)(f:J<=40000)(hc:X a<=1000)(hd:X b<=1000)(h0:X (yx b)=0)(g:3000000<=fu):wK fu a b=Z ([],3):=by grind [wK,yx,Y,zM]
end
section
variable{N fu:wP}{a:wF wN}
theorem BL.ext{c:K}{b:wF J}(d:BL N c a)(e:BL N c b)(h:∀k,k<c->C a k=C b k):a=b:=by
 rw[<-PA a,<-PA b,d.ln,e.ln];exact xc h
theorem Gy{c:K}(hc:c<=1000)(f:3000000<=fu):zg (λL (z:wF J×J)=>
 if z.2<(X (zl c λ_=>0):J)then
  zI z.2 (X z.1) λj=>
  B (z.1.set j z.2) λxs=>
  S (z.2+1) λi=>L (xs,i)
 else Z z.1) fu (zl c λ_=>0,0)=Z (zl c λi=>(i:J)):=by
 refine zC (λs:wF J×J=>∃j:K,j<=c/\s=(zl c (λk=>if k<j then(k:J)else 0),(j:J))) (λs=>c-s.2.toNat) _ ?_ _ _ ⟨0,xah _,?_⟩ (by show c-0<fu;lia)
 ·rintro s L ⟨j,g,rfl⟩ d
  simp only[yj]
  by_cases h1:j<c
  ·rw[yg,zp h1,F,Yt,zb]
   refine d _ ⟨j+1,W,?_⟩ (by show c-((j:J)+1).toNat<c-(j:J).toNat;lia)
   refine xfr (xc λk b=> ?_) O
   unfold XA
   by_cases e:k=j
   ·lia
   ·grind
  ·rw[zF]
   obtain rfl:j=c:=W
   exact Z4 Z<|xc λk b=>E b
 ·exact xfr (xc λk b=>(P<|xbc k).symm) O
theorem Oa{c:K}(b:BL N c a)(o:N<=1000)(p:3000000<=fu):
 ∃i:J,zg (λL i=>
 if 0<=i then
  zI i (X a) λj=>
  B (a.getD j 0) λy=>
  S ((N:J)-c) λe=>
  S (e+i) λe=>
  if y=e then S (i-1) λi=>L i
  else Z i
 else Z i) fu ((c:J)-1)=Z i/\ -1<=i/\i<c/\(∀j:K,i<j->j<c->C a j+c=N+j)/\∀k:K,i=k->C a k+c<N+k:=by
 have hd:c<=N\/c=0:=by
  by_cases h:c=0
  ·lia
  ·have:=b.hi 0 W;have:=b.lo 0 W;exact .inl W
 obtain⟨r,h1,l⟩:=zU (f:=λL (i:J)=>
  if 0<=i then
   zI i (X a) λj=>
   B (a.getD j 0) λy=>
   S ((N:J)-c) λe=>
   S (e+i) λe=>
   if y=e then S (i-1) λi=>L i
   else Z i
  else Z i) (λi:J=> -1<=i/\i<c/\∀j:K,i<j->j<c->C a j+c=N+j) (λi=>(i+1).toNat) (λi=> -1<=i/\i<c/\(∀j:K,i<j->j<c->C a j+c=N+j)/\∀k:K,i=k->C a k+c<N+k) (by
   rintro i L ⟨i1,i2,d⟩ m;by_cases h0:0<=i
   ·obtain⟨k,rfl⟩:=xaE h0;have q:=b.ln;rw[E h0,yn,F,zb,zb,Jh];by_cases e:C a k=(N:J)-c+k
    ·rw[E e,zb];refine m _ ⟨W,W,λj g hc=> ?_⟩ W;by_cases n:j=k
     ·rw[n];lia
     ·exact d j W hc
    ·rw[P e];refine⟨_,O,i1,i2,d,λj g=> ?_⟩;obtain rfl:k=j:=W
     have:=b.hi k W;lia
   ·rw[P h0];exact⟨_,O,i1,i2,d,λj g=>by lia⟩) fu ((c:J)-1) ⟨W,W,λj g hc=>by lia⟩ W
 exact⟨r,h1,l⟩
theorem R5{c k:K}(f:BL N c a)(o:N<=1000)(d:k<c)(h1:C a k+c<N+k)(p:3000000<=fu):
 zg (λL (z:J×wF J)=>
 if z.1<(c:J)then
  S (z.1-1) λe=>
  zI e (X z.2) λj=>
  B (z.2.getD j 0) λy=>
  S (y+1) λe=>
  zI z.1 (X z.2) λj=>
  B (z.2.set j e) λxs=>
  S (z.1+1) λi=>L (i,xs)
 else Z z.2) fu ((k:J)+1,a.set k (C a k+1))=Z (nxA c k a):=by
 have hc:=f.hi k d;have hd:=f.lo k d;refine zC (λs:J×wF J=>∃j:K,k+1<=j/\j<=c/\s=((j:J),zl c (λi=>if i<k then C a i else if i<j then C a k+1+((i:J)-k)else C a i))) (λs=>c-s.1.toNat) _ ?_ _ _ ⟨k+1,Nm _,d,?_⟩ (by show c-((k:J)+1).toNat<fu;lia)
 ·rintro s L ⟨j,q,r,rfl⟩ l;simp only[yj];by_cases n:j<c
  ·obtain⟨i,rfl⟩:∃i,j=i+1:=⟨j-1,W⟩;rw[yg,(W:((i+1:K):J)-1=(i:J)),zb,yn,F,uc,zF,yg,zb,zp n,F,Yt,zb];refine l _ ⟨i+1+1,W,W,?_⟩ (by show c-(((i+1:K):J)+1).toNat<c-((i+1:K):J).toNat;lia);refine xfr O<|xc λm g=> ?_;unfold XA;by_cases e:m=i+1
   ·rw[E e,zF,yg];lia
   ·rw[P e];show(if m<k then C a m else if m<i+1 then C a k+1+((m:J)-k)else C a m)=_;by_cases b:m<k
    ·rw[E b,E b]
    ·rw[P b,P b];by_cases h:m<i+1
     ·rw[E h,yg]
     ·rw[P h,zF]
  ·rw[zF];obtain rfl:j=c:=W
   refine Z4 Z<|xc λm g=> ?_;by_cases b:m<k
   ·rw[E b,E b]
   ·rw[P b,P b,E g]
 ·refine xfr (by show(k:J)+1=((k+1:K):J);lia) ?_;show a.set k (C a k+1)=_;conv=>lhs;rw[<-PA a,f.ln]
  rw[Yt];refine xc λm g=> ?_;unfold XA;by_cases e:m=k
  ·rw[E e,zF,yg,e];rw[show C (zl c<|C a) k=C a k from ZJ d];lia
  ·rw[P e];by_cases b:m<k
   ·rw[E b]
   ·rw[P b,zF]
theorem Ov{X Y:Type}{c:K}{g:wF J->X->V (wF J×(X⊕Y))}{x0:X}{Rej:wF J->Prop}{Acc:wF J->Y->Prop}(hl:1<=c)(hn:c<=N)(hN:N<=10)(G:c<=5)(p:3000000<=fu)(H:∀a,BL N c a->(g a x0=Z (a,.inl x0)/\Rej a)\/∃y v,g a x0=Z (v,.inr y)/\Acc a y):
 (vu fu (c:J) (N:J) g x0=Z (.inl x0)/\∀a,BL N c a->Rej a)\/∃a y,BL N c a/\Acc a y/\vu fu (c:J) (N:J) g x0=Z (.inr y):=by
 have h0:BL N c (zl c λi=>(i:J)):=⟨yj _ _,λi hi=>by rw[ZJ hi];lia,λi hi=>by rw[ZJ hi];lia,λi hi=>by rw[ZJ W,ZJ hi];lia⟩;have M:∀T,BL N c T->¬Lt (C T) (C<|zl c λi=>(i:J)) c:=λT b ⟨j,n,o,_⟩=>by
  rw[ZJ n]at o;have:=b.lo j n;lia
 have Q:msr N (C<|zl c λi=>(i:J)) c<fu:=by
  have h1:=zg5 N (C<|zl c λi=>(i:J)) c;have w:(N+1)^c<=11^5:=xao (xeh W c)<|xai m6 G;lia
 obtain⟨r,R,S⟩:=zU (f:=λL (q:X×wF J)=>qK fu (c:J) (N:J) g q.1 q.2 (λx xs _ _ _ _ _=>L (x,xs)) (λx _ _ _=>Z (.inl x)) λy _=>Z (.inr y))
  (λs:X×wF J=>s.1=x0/\BL N c s.2/\∀T,BL N c T->Lt (C T) (C s.2) c->Rej T) (λs=>msr N (C s.2) c) (λr:X⊕Y=>(r=.inl x0/\∀a,BL N c a->Rej a)\/∃a y,BL N c a/\Acc a y/\r=.inr y) (by
  rintro⟨x,a⟩ L ⟨z,l,t⟩ U
  simp only at z l t
  subst z
  simp only
  unfold qK
  rcases H a l with⟨e,A⟩|⟨y,v,e,ac⟩
  ·rw[za e]
   simp only[Sum.elim_inl]
   obtain⟨i,l1,l2,l3,B,l5⟩:=Oa l W p
   rw[zb,za l1]
   by_cases hi:i<0
   ·rw[E hi]
    refine⟨_,O,.inl ⟨O,λT b=> ?_⟩⟩
    rcases Et (C T) (C a) c with h|h|h
    ·rw[b.ext l h];exact A
    ·exact t T b h
    ·exfalso
     obtain⟨j,n,o,_⟩:=h
     have:=B j W n
     have:=b.hi j n
     lia
   ·obtain⟨k,rfl⟩:=xaE (W:0<=i)
    have ho:=l.ln
    have D:=l5 k O
    have hp:=l.lo k W
    rw[P hi,yn,F,Jh,zb,yn,F,zb,za<|R5 l W W D p]
    refine U _ ⟨O,l.next W D,λT b u=> ?_⟩ ?_
    ·rcases Et (C T) (C a) c with h|h|h
     ·rw[b.ext l h];exact A
     ·exact t T b h
     ·exfalso
      simp only at u
      rcases zp7 (k:=k) b W (λi hi hc=>B i W hc) h with h6|h6
      ·obtain⟨j,n,o,_⟩:=u
       rw[h6 j n]at o
       lia
      ·exact u.asy h6
    ·obtain⟨d,hd⟩:∃d,c=k+1+d:=⟨c-k-1,W⟩
     have:=zhv (N:=N) (f:=C<|nxA c k a) (g:=C a) (j:=k) (λm hm=>by rw[U6,E hm]) W (by rw[U6,zF];lia) (by rw[U6,zF];lia) d
     rw[<-hd]at this
     exact this
  ·rw[za e]
   simp only[Sum.elim_inr]
   exact⟨_,O,.inr ⟨a,y,l,ac,O⟩⟩) fu (x0,zl c λi=>(i:J)) ⟨O,h0,λT b h=>kW h (M T b)⟩ Q
 have hM:vu fu (c:J) (N:J) g x0=Z r:=by
  unfold vu;rw[yH,y9,F,dR,za<|Gy W p];exact R
 rw[hM];rcases S with⟨rfl,h⟩|⟨a,y,h1,w,rfl⟩
 ·exact .inl ⟨O,h⟩
 ·exact .inr ⟨a,y,h1,w,O⟩
end
section
variable{a:wF wN}{m:wN}{xs:wF Lx}{i fu:wP}
theorem zkR{a:N U}(h:¬m<=0):zdP a m=(vJ a m,0):=by unfold zdP;rw[P h]
theorem Ad(a:N U):(yF a).natAbs=WG (M a) (X (yx a)):=by grind [yF]
theorem lu(a:N U):D (yF a)*(M (xa a):R)=M a:=by grind [zS,YC,WH,Int.mul_ediv_cancel']
theorem VJ{a:N U}(h:X (yx a)≠0):Pm (M<|xa a)/\Po (M<|xa a):=by
 have h0:=o9 h;have e:=lu a;constructor
 ·intro d hd;have h1:(yF a).natAbs*d∣WG (M a) (X (yx a)):=Oq _ λk _=>by
   have b:=WS e k;rw[zS]at b;have c:=xcq.2<|xfU (xer<|yF a)<|hd k;rw[b,xcl,xaH]at c;exact c
  rw[<-Ad]at h1;have f:(yF a).natAbs*d∣(yF a).natAbs*1:=by rw[xdQ];exact h1
  exact Nat.dvd_one.1<|Nat.dvd_of_mul_dvd_mul_left W f
 ·have ht:=WE h;refine⟨X (yx a)-1,?_,λk g=>by rw[YC,ht.2 k g,xet]⟩;have b:=WS e<|X (yx a)-1;rw[zS]at b;have c:=ht.1;obtain⟨x,j⟩:∃x,x=M (xa a) (X (yx a)-1):=⟨_,O⟩;rw[<-j]at b⊢;have n:(0:J)<(WG (M a) (X (yx a)):K):=by
   have:=Ad a;lia
  have hc:yF a=if M (yx a) (X (yx a)-1)<0 then-((WG (M a) (X (yx a)):K):J)else((WG (M a) (X (yx a)):K):J):=O;rw[Yu]at hc;by_cases hn:M a (X (yx a)-1)<0
  ·rw[E hn]at hc;refine xad λl=> ?_;have:=Int.mul_nonneg_of_nonpos_of_nonpos (W:yF a<=0) (W:x<=0);lia
  ·rw[P hn]at hc;refine xad λl=> ?_;have:=Int.mul_nonpos_of_nonneg_of_nonpos (W:0<=yF a) (W:x<=0);lia
theorem jm(a:N U):yx (xa a)=xa a:=(Jk _ _).symm
theorem ziL(a:N U)(c:0<m)(k:K):M (oI a m) k=near (M a k) m:=km (λj b=>by
 rw[yq b];unfold near;rw[xar,zF]) k
theorem ze9(x:J):near x m%m=x%m:=by
 unfold near;split
 ·simp_all
 ·simp_all
theorem zj1{x y:J}(h:x%m=y%m)(c:2*y.natAbs<m):near x m=y:=by
 unfold near;rw[h];by_cases b:0<=y
 ·rw[xaJ b W,zF]
 ·have e:y%m=y+m:=by
   rw[<-Int.add_emod_right];exact xaJ W W
  lia
def IK(xs:N Lx)(a:N J)(c:K):N Lx:=(xaL c).map λi=>xs.getD (C a i).toNat ([],[])
theorem zhV(xs:N Lx)(a:N J)(c:K):IK xs a (c+1)=IK xs a c++[xs.getD (C a c).toNat ([],[])]:=by grind [IK,xdm]
theorem zes(a b:N Lx):pu (a++b)=pu a*pu b:=by grind [pu,vz]
theorem O5:(xs.map (·.1)).getD i []=(xs.getD i ([],[])).1:=by grind
theorem Ih(h:i<X xs):xs.getD i ([],[])∈xs:=by grind
theorem zde{c k:K}{p:J}{f:N U}(hp:qO p=qR)(o:1<=k)(q:k<=1000)(hn:∀x∈xs,Up p k x.1 x.2/\QY p x.2/\X x.2<=66)(G:X xs<=1000)(b:BL (X xs) c a)(hc:c<=5)(u:xf 250 f)(ht:0<X f)(H:X f<=66)(d:3000000<=fu):
 ∃t,jX fu f (xs.map (·.1)) a (yK<|p^k)=Z (xa<|oI t<|p^k,a)/\xf 250 t/\X t<=1+c*66/\Cg (p^k) (M t) (D (M f<|X f-1)*pu (IK xs a c)):=by
 obtain⟨P,Q⟩:=zB hp;have hd:=tH hp q;have hv:=nA hp o;have e:eJ (yK<|p^k):=hd.okS m6;have R:=b.ln
 obtain⟨s,v,t,rfl,t1,t2,t3⟩:=zU (f:=uZ fu (xs.map (·.1)) a<|yK<|p^k) (λs:N U×J×N J=>∃(i:K) (t:N U),i<=c/\s=(t,(i:J),a)/\xf 250 t/\X t<=1+i*66/\Cg (p^k) (M t) (D (M f<|X f-1)*pu (IK xs a i))) (λs=>c-s.2.1.toNat)
  (λr=>∃t:N U,r=(t,a)/\xf 250 t/\X t<=1+c*66/\Cg (p^k) (M t) (D (M f<|X f-1)*pu (IK xs a c))) (by
  rintro s L ⟨i,t,hi,rfl,h1,w,g⟩ y
  unfold uZ
  simp only
  by_cases h:i<c
  ·have S:=b.lo i h
   have T:=b.hi i h
   obtain⟨j,l⟩:=xaE (W:0<=C a i)
   have A:=Ih (xs:=xs) (i:=j) W
   obtain⟨n,V,hl⟩:=hn _ A
   have hB:=n.len
   rw[yg,Y O]
   simp only[Xs]
   rw[yn,F,Jh,l,zp (by rw[xaj];lia),F,O5,Y<|BB h1 n.rd.ok W W e d,zt,zkR W]
   simp only
   rw[zb]
   have l1:=XX (xg t (xs.getD j ([],[])).1)<|p^k
   have l2:=uC t (xs.getD j ([],[])).1
   refine y _ ⟨i+1,_,W,O,bu hd W,W,?_⟩ (by show c-((i:J)+1).toNat<c-(i:J).toNat;lia)
   refine(Wh _ _).trans ?_
   rw[uH,zhV,zes,l,xbb,<-zd]
   refine g.mul<|Cg.of ?_
   exact(yu _).symm
  ·rw[zF,Y O]
   simp only[xam,Z9]
   obtain rfl:i=c:=W
   exact⟨_,O,t,O,h1,w,g⟩) fu (f.drop (X f-1),0,a) ⟨0,_,xah _,O,λz B=>u z (xfM B),by rw[xcn];lia,by
   rw[IB]
   refine Cg.of<|funext λj=> ?_
   rw[show IK xs a 0=[]from O,show pu []=D 1 from O,yu]
   cases j with
   |zero=>rfl
   |succ j=>exact yq (p:=[f.getD (X f-1) (I,[])]) m7⟩ (by show c-(0:J).toNat<fu;lia)
 refine⟨t,?_,t1,t2,t3⟩;unfold jX;rw[(W:(X f:J)-1=((X f-1:K):J)),zb,yH,y9,F,Y v];simp only;have E:xf 250 (oI t<|p^k):=xp λj=>Bz.near hd W;have hC:X (oI t<|p^k)<=X t:=by unfold oI;rw[xJ];exact jc _ _
 rw[Y<|Ax t1 m6 e W d,zt];unfold zbf;rw[zF];simp only;rw[Y<|qd E]
theorem RR{x:J}(hl:X a<=1000)(p:3000000<=fu):wx fu a x=Z (decide<|x∈a,a):=by
 unfold wx jd;obtain⟨s,g,l⟩:=zU (f:=qu fu a x) (λi:J=>0<=i/\i<=X a/\∀j:K,j<i->C a j≠x) (λi=>(X a-i).toNat) (λr:Wl⊕J=>(r=.inl ()/\¬x∈a)\/∃i:K,r=.inr (i:J)/\x∈a) (by
  rintro i L ⟨i1,i2,d⟩ n;obtain⟨k,rfl⟩:=xaE i1;unfold qu;by_cases h1:k<X a
  ·rw[yg,zp h1,F,Jh];by_cases b:x=C a k
   ·rw[E b];refine⟨_,O,.inr ⟨k,O,?_⟩⟩;rw[b,<-Jh,UV,xaa h1];simp_all
   ·rw[P b,zb];refine n _ ⟨W,W,λj c=> ?_⟩ W;by_cases e:j=k
    ·rw[e];exact λh=>b h.symm
    ·exact d j W
  ·rw[zF];refine⟨_,O,.inl ⟨O,λo=> ?_⟩⟩;obtain⟨j,c,e⟩:=xbZ.1 o;refine d j W ?_;rw[<-Jh,UV,xaa c];exact e) fu 0 ⟨W,W,λj c=>by lia⟩ W
 rw[g];rcases l with⟨rfl,h⟩|⟨i,rfl,h⟩
 ·rw[WF h];rfl
 ·rw[Ww h];show(if(0:J)<=(i:J)then Z (qR,a)else Z (I,a))=Z (qR,a);rw[yg]
theorem Lr{us:N (N U)}(hl:X us<=1000)(d:X a<=1000)(e:3000000<=fu):
 xV fu us a=Z (((xaL (X us)).filter λi:K=> !decide ((i:J)∈a)).map λi=>us.getD i [],a):=by
 unfold xV;rw[Y (v:=(((xaL (X us)).filter λi:K=> !decide ((i:J)∈a)).map λi=>us.getD i [],a))];refine zC (λs:N (N U)×J×N J=>∃j:K,j<=X us/\s=(((xaL j).filter λi:K=> !decide ((i:J)∈a)).map λi=>us.getD i [],(j:J),a)) (λs=>X us-s.2.1.toNat) _ ?_ _ _ ⟨0,xah _,O⟩ (by show X us-0<fu;lia);rintro s L ⟨j,f,rfl⟩ c;unfold Zk;simp only;by_cases h1:j<X us
 ·rw[yg,Y O];simp only[Xs];rw[zp h1,F,Y<|RR d e];simp only;have hc:X ((xaL j).filter λi:K=> !decide ((i:J)∈a))<=j:=xao (xfG _ _) (by rw[xeC];exact Nm j);by_cases b:(j:J)∈a
  ·rw[Ww b,P m6,zb];refine c _ ⟨j+1,W,?_⟩ (by show X us-((j:J)+1).toNat<X us-(j:J).toNat;lia);rw[xdm,List.filter_append,xfq (by rw[Ww b];decide),List.filter_nil,xbo];rfl
  ·rw[WF b,E m6,va (by rw[xaj];simp only[xaw,xbR];lia),F,zb];refine c _ ⟨j+1,W,?_⟩ (by show X us-((j:J)+1).toNat<X us-(j:J).toNat;lia);rw[xdm,List.filter_append,xfp (by rw[WF b];decide),List.filter_nil,xaU];rfl
 ·rw[zF,Y O];simp only[xam,Z9];obtain rfl:j=X us:=W
  rfl
end
section
variable{M p:wN}{f q g f0:Pz}{k i fu:wP}{xs:wF Lx}{a:wF wN}
def Bdz(M:J)(f:R):Prop:=∀(u v:R) (b:K),Fs u->Tp v b->f=u*v->∀j,2*((v b*u j).natAbs:J)<M
theorem Bdz.dv(h:Bdz M f)(d:Nz g)(l:Fs g)(e:f=q*g):Bdz M q:=λu v b fu hv m j=>by
 obtain⟨a,c⟩:=Tp.ex l d;have h1:=h u (v*g) (b+a) fu (hv.mul c) (by rw[e,m,zd]) j;rw[Uy hv.2 c.2]at h1;have n:(v b*u j).natAbs<=(v b*g a*u j).natAbs:=by
  rw[Int.mul_right_comm,xcl<|v b*u j];exact xcp _ (by have:=c.1;lia)
 lia
theorem zrG{K:wP}(h:Bdz M f)(c:Nz g)(d:Fs g)(fq:Fs q)(e:f=q*g)(j:Bz K M)(k:wP):Bz K (q k):=by
 obtain⟨a,b⟩:=Tp.ex d c;have h1:=h q g a fq b e k;have l:(q k).natAbs<=(g a*q k).natAbs:=by
  rw[xcl];exact xei _ (by have:=b.1;lia)
 exact j.le W
structure Gd(g:N U):Prop where
 can:yx g=g
 ir:Ir (cf g)
 ps:Po (cf g)
 ok:xf 250 g
 ln:g.length<=11
structure Ch(p:J)(k:K)(f0:R)(F:N U)(xs:N Lx)(out:N (N U))(c:K):Prop where
 lc:Lc p k (cf F) (F.length-1) xs
 k2:k<=1000
 can:yx F=F
 ok:xf 250 F
 ln:F.length<=11
 bd:Bdz (p^k) (cf F)
 ls:Ls p (cf F) xs c
 ct:xs.length+out.length<=10
 pr:f0=prZ (out.map λg=>(cf g:R))*cf F
 gd:∀g∈out,Gd g
theorem Ch.l0{c:K}{F:N U}{out:N (N U)}(h:Ch p k f0 F xs out c):0<X F:=by
 have h1:=h.lc.tp.1;by_cases e:X F=0
 ·exact kW (yq W) h1
 ·lia
theorem zoc(c:2<=p)(d:∀x∈xs,QY p x.2)(J4:xs.Pairwise λa b=>kM p (C a.2)<|C b.2){j:K}(hi:i<X xs)(e:j<X xs)(h:xs.getD i ([],[])=xs.getD j ([],[])):i=j:=by grind [QY.self,xcY]
theorem zf4(c:2<=p)(d:∀x∈xs,QY p x.2)(J4:xs.Pairwise λa b=>kM p (C a.2)<|C b.2):xs.Nodup:=by grind [QY.self,xcY]
theorem zaM{α:Type}(d:α)(xs:N α):xs=(xaL (X xs)).map λi=>xs.getD i d:=by
 refine xdR m7 λi h1 b=> ?_;simp_all
theorem zck{c:K}(d:BL (X xs) c a):∀x∈IK xs a c,x∈xs:=λx e=>by
 obtain⟨j,b,rfl⟩:=xat.1 e;have b:=xbf.1 b;have h1:=d.hi j b;have h:=d.lo j b;grind
theorem zoi{c:K}(n:2<=p)(hc:∀x∈xs,QY p x.2)(J4:xs.Pairwise λa b=>kM p (C a.2)<|C b.2)(l:BL (X xs) c a)(hi:i<X xs):xs.getD i ([],[])∈IK xs a c↔(i:J)∈a:=by
 have hd:=l.ln;constructor
 ·intro h;obtain⟨j,d,e⟩:=xat.1 h;have d:=xbf.1 d;have h1:=l.hi j d;have r:=l.lo j d;have m:=zoc n hc J4 W hi e;have o:i=C a j:=W
  rw[o,<-Jh];simp_all
 ·intro h;obtain⟨j,d,e⟩:=xbZ.1 h;have m:C a j=i:=by
   rw[<-Jh,UV,xaa d];exact e
  exact xat.2 ⟨j,xbf.2 W,by rw[m];rfl⟩
theorem zbH{α:Type}(P:α->uS):∀l:N α,X (l.filter P)+X (l.filter λx=> !P x)=X l
 |[]=>rfl
 |x::l=>by
  have b:=zbH P l;grind
theorem TS{c:K}{F:N U}{out:N (N U)}(h:Ch p k f0 F xs out c)(hH:1<=c)(hI:c<=5)(S:BL (X xs) c a)(V:3000000<=fu):
 (jl fu (yK<|p^k) a (F,xs.map (·.1),out)=Z (a,.inl (F,xs.map (·.1),out))/\∀u v,Fs u->Fs v->cf F=u*v->¬ot u->own p u xs≠IK xs a c)\/
 ∃y a',jl fu (yK<|p^k) a (F,xs.map (·.1),out)=Z (a',.inr y)/\∃F' Q L,y=(F',Q.map (·.1),L)/\Ch p k f0 F' Q L c/\X Q<X xs:=by
 have l:=h.lc;have hp:=l.hp;obtain⟨p1,p2⟩:=zB hp;have hz:=tH hp h.k2;have hZ:=nA hp l.k1;have hJ:=h.l0;have h0:=h.ln;have h8:=h.ct;have hA:=λx hx=>(l.el x hx).2.1;obtain⟨t,t1,t2,t3,t4⟩:=zde (fu:=fu) hp l.k1 h.k2 l.el W S hI h.ok hJ W V;obtain⟨G,hG⟩:∃G,G=oI t (p^k):=⟨_,O⟩;rw[<-hG]at t1;have hC:∀j,cf G j=near (cf t j) (p^k):=λj=>by rw[hG];exact ziL t W j
 have hK:Cg (p^k) (cf G) (D (cf F<|X F-1)*pu (IK xs a c)):=Cg.trans (λj=>by rw[hC];exact ze9 _) t4;have hM:xf 250 G:=by rw[hG];exact xp λj=>Bz.near hz W
 have h9:X G<=400:=by
  have:X (oI t<|p^k)<=X t:=by unfold oI;rw[xJ];exact jc _ _
  rw[hG];lia
 have hk:=Fg hM;have hN:=Ye G;have h':=ZZ G;have hm:=lu G;have hn:=jm G;obtain⟨g,hg⟩:∃g,g=xa G:=⟨_,O⟩;rw[<-hg]at t1 hk hN hm hn;have r:∀u v,Fs u->Fs v->cf F=u*v->own p u xs=IK xs a c->∃b,Tp v b/\(cf G:R)=D (v b)*u:=λu v s fv e ho=>by
  obtain⟨nu,A⟩:=Qw l.tp.nz e;obtain⟨d,hd⟩:=Tp.ex s nu;obtain⟨b,z⟩:=Tp.ex fv A;refine⟨b,z,Z0 λj=> ?_⟩;have h1:=l.up hd z e;have hO:d+b=X F-1:=by
   have:=hd.mul z;rw[<-e]at this;exact this.uniq l.tp
  have hP:cf F (X F-1)=u d*v b:=by rw[<-hO,e,Uy hd.2 z.2]
  rw[hC,zS];refine zj1 ?_ ?_
  ·have h2:Cg (p^k) (cf t) (D (v b)*u):=by
    refine t4.trans ?_;rw[hP,<-ho,xbB,<-jR,zd];exact Cg.rfl.mul h1.symm
   rw[h2 j,zS]
  ·exact h.bd u v b s z e j
 have n:¬(Zd (cf g) (cf F)/\1<X g)->∀u v,Fs u->Fs v->cf F=u*v->¬ot u->own p u xs≠IK xs a c:=λhQ u v s fv e nc ho=>by
  obtain⟨b,z,H⟩:=r u v s fv e ho;obtain⟨nu,_⟩:=Qw l.tp.nz e;have hq:X (yx G)≠0:=λe0=>by
   obtain⟨j,hj⟩:=nu;have:=Vo e0 j;rw[H,zS]at this;exact(xcz z.1 hj) this
  obtain⟨q1,q2⟩:=VJ hq;rw[<-hg]at q1 q2;have z1:Zd (cf g) (cf G):=⟨D<|yF G,Fs.pc _,hm.symm⟩;rw[H]at z1;have z2:=Zd.pm (Fs.cf g) q1 z.1 z1;refine hQ ⟨z2.trans ⟨v,fv,by rw[e,zm]⟩,xad λhl=>nc λj hj=> ?_⟩;have h3:cf G j=0:=by rw[<-hm,zS,yq W,xaz]
  rw[H,zS]at h3;obtain h4|h4:=xeU.1 h3
  ·exact kW h4 z.1
  ·exact h4
 have hB:∀{q:N U}{e:J},wK fu F g=Z (q,e)->jl fu (yK<|p^k) a (F,xs.map (·.1),out)=if e=0 then(if 1<(X g:J)then ck ((X out+1)*24<=140737488355328)<|B (out++[g]) λpr=>bd (xV fu (xs.map (·.1)) a) λw=>Z (w.2,.inr (q,w.1,pr))else Z (a,.inl (F,xs.map (·.1),out)))else Z (a,.inl (F,xs.map (·.1),out)):=λ{q e} hd=>by
  unfold jl;simp only;rw[Y t1];simp only;rw[Y hd]
 by_cases hr:X (yx g)=0
 ·rw[hB<|B0 h.ok hk m6 m6 W W hr V,P m6];refine .inl ⟨O,n λhh=> ?_⟩;rw[hn]at hr;lia
 ·obtain⟨q,e,d1,d2,d3⟩:=Kf (fu:=fu) h.ok hk (by have:=xag (250+1) (W:X F+1<=12);lia) W W hr V;rw[hB d1];by_cases H:e=0
  ·by_cases hR:1<X g
   ·right;obtain⟨e1,e2,e3⟩:=d3 H;have hq:X (yx G)≠0:=W
    obtain⟨q1,q2⟩:=VJ hq;rw[<-hg]at q1 q2;have hc:Tp (cf g) (X g-1):=by
     have:=WE (a:=g) W;rwa[hn]at this
    obtain⟨nq,ng⟩:=Qw l.tp.nz e1;have hS:X (yx q)≠0:=λe0=>by
     obtain⟨j,hj⟩:=nq;exact hj<|Vo e0 j
    have ht:Tp (cf q) (X q-1):=by
     have:=WE hS;rwa[e2]at this
    have o:(cf F:R)=cf g*cf q:=by rw[e1,zm]
    have T:¬ot (cf g):=λhD=>by
     have:=(ot.tp hc).1 hD;lia
    have hE:∀x∈xs,Di p (C x.2) (cf g)↔x∈IK xs a c:=λx hx=>l.pick (zck S) hc ht o (γ:=yF G) (by
     rw[hm];exact(hK.down<|kY l.k1).trans<|Cg.rfl.mul<|S5 λy hy=>l.el y<|zck S y hy) hx
    have hT:=zf4 p1 hA l.pw;have hW:X (own p (cf g) xs)<=c:=by
     classical
     have h1:(own p (cf g) xs).Nodup:=by unfold own;exact hT.sublist List.filter_sublist
     have h2:=eY h1 (us:=IK xs a c) λx hx=>(hE x (bN.1 hx).1).1 (bN.1 hx).2;have h3:X (IK xs a c)=c:=by unfold IK;simp
     lia
    have hU:=h.ls (cf g) (cf q) (Fs.cf g) (Fs.cf q) o T;have hF:=Ls.ir l h.ls hH (Fs.cf g) (Fs.cf q) o q1 T W;have hu:0<cf g (X g-1):=by
     obtain⟨m,m1,m2⟩:=q2.tp;have:=m1.uniq hc;rw[<-this];exact m2
    have hv:=l.step hc ht hu e1;have hX:X (own p (cf g) xs)+X (Tt p (cf g) xs)=X xs:=by
     classical
     unfold own Tt;exact zbH (λx:Lx=>decide<|Di p (C x.2)<|cf g) xs
    have hY:0<p^k:=W
    have hw:(((xaL (X (xs.map (·.1)))).filter λi:K=> !decide ((i:J)∈a)).map λi=>(xs.map (·.1)).getD i [])=(Tt p (cf g) xs).map (·.1):=by
     classical
     have e4:Tt p (cf g) xs=((xaL (X xs)).filter λi:K=> !decide ((i:J)∈a)).map λi=>xs.getD i ([],[]):=by
      unfold Tt;conv=>lhs;rw[zaM ([],[]) xs]
      rw[List.filter_map];refine Z4 _<|List.filter_congr λi hi=> ?_;have hi:=xbf.1 hi;show(!decide (Di p (C (xs.getD i ([],[])).2)<|cf g))=_;have h5:=(hE _<|Ih hi).trans<|zoi p1 hA l.pw S hi;by_cases h6:(i:J)∈a
      ·rw[Ww h6,Ww<|h5.2 h6]
      ·rw[WF h6,WF λh7=>h6<|h5.1 h7]
     rw[e4,xdj,xaj];refine xch λi _=> ?_;exact O5
    have a0:=S.ln;refine⟨(q,(Tt p (cf g) xs).map (·.1),out++[g]),a,?_,q,Tt p (cf g) xs,out++[g],O,?_,W⟩
    ·rw[E H,yg,y9,ze,Y<|Lr (by rw[xaj];lia) W V,hw]
    ·have hV:∀j,Bz 250 (cf q j):=zrG h.bd ng (Fs.cf g) (Fs.cf q) e1 hz;refine⟨hv,h.k2,e2,by rw[<-e2];exact xp hV,W,h.bd.dv ng (Fs.cf g) e1,h.ls.step l (Fs.cf g) (Fs.cf q) e1,?_,?_,λx hx=> ?_⟩
     ·rw[xau,List.length_singleton];lia
     ·rw[xaU,vz,h.pr,o];show prZ _*(cf g*cf q)=prZ _*(cf g*D 1)*cf q;rw[yu,zd]
     ·obtain hx|hx:=xab.1 hx
      ·exact h.gd x hx
      ·obtain rfl:=xaf.1 hx;have:X x<=11:=by
        have:=(hc.mul ht).uniq (by rw[<-o];exact l.tp);lia
       exact⟨hn,hF,q2,hk,this⟩
   ·rw[E H,zF];exact .inl ⟨O,n λhh=>hR hh.2⟩
  ·rw[P H];exact .inl ⟨O,n λhh=>H<|d2.2 hh.1⟩
theorem zpu{is:N (Fin (X xs))}(hp:is.Pairwise (· < ·)):BL (X xs) (X is) (is.map λi=>(i.val:J))/\IK xs (is.map λi=>(i.val:J)) (X is)=is.map (xs[·]):=by
 have b:∀j (c:j<X is),C (is.map λi=>(i.val:J)) j=(is[j].val:J):=λj c=>by
  rw[<-Jh,UV,xco,xaa c];rfl
 have hc:∀i j (hi:i<X is) (c:j<X is),i<j->is[i].val<is[j].val:=λi j hi c h=>xcY.1 hp i j hi c h;have hd:∀d i (hi:i+d<X is),is[i].val+d<=is[i+d].val:=λd=>by
  induction d with
  |zero=>intro i hi;exact Nm _
  |succ d l=>
   intro i hi;have h1:=l i W;have e:=hc (i+d) (i+(d+1)) W hi W;lia
 refine⟨⟨m7,λi hi=> ?_,λi hi=> ?_,λi hi=> ?_⟩,?_⟩
 ·rw[b i hi];have:=hd i 0 W;simp only[xaM]at this;lia
 ·rw[b i hi];have h1:=hd (X is-1-i) i W;have e:=is[i+(X is-1-i)].isLt;lia
 ·rw[b i W,b (i+1) hi];have:=hc i (i+1) W hi W;lia
 ·unfold IK;refine xdR m7 λi h1 e=> ?_;rw[xaj]at e;rw[List.getElem_map,List.getElem_range,List.getElem_map,b i e,xbb,UV,xaa is[i].isLt];rfl
theorem PY{F:List Zr}(h0:Ch p k f0 F xs [] 1)(hf:3000000<=fu):
 ∃s,zg (fun L x=>YK fu (yK<|p^k) x L) fu (F,xs.map (·.1),[],1)=some s/\∃(F:List Zr) (xs:List Lx) (out:List (List Zr)) (c:Nat),s=(F,xs.map (·.1),out)/\Ch p k f0 F xs out c/\xs.length<2*c:=by
 exact zU (f:=fun L x=>YK fu (yK<|p^k) x L) (fun s:List Zr×List (List Zr)×List (List Zr)×Int=>∃(F:List Zr) (xs:List Lx) (out:List (List Zr)) (c:Nat),s=(F,xs.map (·.1),out,(c:Int))/\Ch p k f0 F xs out c/\1<=c/\c<=6) (fun s=>s.2.1.length*20+(20-s.2.2.2.toNat))
  (fun r=>∃(F:List Zr) (xs:List Lx) (out:List (List Zr)) (c:Nat),r=(F,xs.map (·.1),out)/\Ch p k f0 F xs out c/\xs.length<2*c) (by
  rintro s L ⟨F,xs,out,c,rfl,hC,hc,hi⟩ ih
  unfold YK
  simp only
  have hk:=hC.ct
  rw[zb,xaj]
  by_cases h2:2*c<=xs.length
  ·rw[yg]
   have hd:=fun a ha=>TS (fu:=fu) (a:=a) hC hc (show c<=5 by lia) ha hf
   rcases Ov (fu:=fu) (N:=xs.length) (c:=c) (g:=jl fu<|yK<|p^k) (x0:=(F,xs.map (·.1),out)) (Rej:=fun a=>∀u v,Fs u->Fs v->cf F=u*v->¬ot u->own p u xs≠IK xs a c) (Acc:=fun a y=>∃F' xs' out',y=(F',xs'.map (·.1),out')/\Ch p k f0 F' xs' out' c/\xs'.length<xs.length) hc (by lia) (by lia) (by lia) hf hd with⟨e,hr⟩|⟨a,y,ha,⟨F',xs',out',rfl,hj,hl⟩,e⟩
   ·rw[za e]
    rw[Sum.elim_inl]
    simp only
    rw[zb]
    refine ih _ ⟨F,xs,out,c+1,by rw[show((c+1:Nat):Int)=(c:Int)+1 by lia],?_,by lia,by lia⟩ (by
     show(xs.map (·.1)).length*20+(20-((c:Int)+1).toNat)<(xs.map (·.1)).length*20+(20-(c:Int).toNat);lia)
    refine⟨hC.lc,hC.k2,hC.can,hC.ok,hC.ln,hC.bd,fun u v fu' fv e nc=> ?_,hC.ct,hC.pr,hC.gd⟩
    have h3:=hC.ls u v fu' fv e nc
    by_cases h4:(own p u xs).length=c
    ·exfalso
     have he:(own p u xs).Sublist xs:=by unfold own;exact List.filter_sublist
     obtain⟨is,e5,e6⟩:=List.sublist_eq_map_getElem he
     obtain⟨i1,i2⟩:=zpu e6
     have hg:is.length=c:=by rw[<-h4,e5,xaj]
     rw[hg]at i1 i2
     exact hr _ i1 u v fu' fv e nc<|by rw[i2,e5]
    ·lia
   ·rw[za e]
    rw[Sum.elim_inr]
    refine ih _ ⟨F',xs',out',c,rfl,hj,hc,hi⟩ ?_
    show(xs'.map (·.1)).length*20+(20-(c:Int).toNat)<(xs.map (·.1)).length*20+(20-(c:Int).toNat)
    rw[xaj,xaj]
    lia
  ·rw[zF]
   exact⟨_,rfl,F,xs,out,c,rfl,hC,by lia⟩) fu (F,xs.map (·.1),[],1) ⟨F,xs,[],1,rfl,h0,by lia,by lia⟩ (by
   show(xs.map (·.1)).length*20+(20-(1:Int).toNat)<fu
   rw[xaj]
   have:=h0.ct
   lia)
theorem Sk{F:N U}(h0:Ch p k (cf F) F xs [] 1)(n:3000000<=fu):
 ∃out,YD fu F (xs.map (·.1)) (yK<|p^k)=Z out/\X out<=11/\(∀g∈out,Gd g)/\cf F=prZ (out.map λg=>(cf g:R)):=by
 obtain⟨f0,hc⟩:∃f0:R,f0=cf F:=⟨_,O⟩;rw[<-hc]at h0⊢;obtain⟨s,o,F',j,c,m,rfl,b,y⟩:=PY h0 n;unfold YD;rw[Y o];simp only;have hl:=b.ct;have z:=b.l0;have hn:=b.ln;have l:=b.lc.pm;by_cases h1:1<X F'
 ·have A:X (yx F')≠0:=by rw[b.can];lia
  have r:yF F'=1:=by
   have t:=Ad F';rw[b.can]at t;have u:=(l _ (pK λk v=>yq v):WG (cf F') (X F')=1);have a3:yF F'=if cf (yx F') (X (yx F')-1)<0 then-((WG (cf F') (X (yx F')):K):J)else((WG (cf F') (X (yx F')):K):J):=O;rw[b.can,P (by have:=b.lc.ps;lia),u]at a3;exact a3
  have w:xa F'=F':=Cx (jm F') b.can λk=>by rw[YC,r,Int.ediv_one]
  have hi:Ir (cf F'):=by
   have x:¬ot (cf F'):=λh=>by have:=(ot.tp b.lc.tp).1 h;lia
   have hc1:1<=m\/m=0:=W
   obtain hc1|hc1:=hc1
   ·refine Ls.ir b.lc b.ls hc1 (Fs.cf F') (Fs.pc 1) (yu _).symm l x ?_;have:X (own p (cf F') j)<=X j:=by unfold own;exact xfG _ _
    lia
   ·lia
  refine⟨c++[F'],?_,by rw[xau,List.length_singleton];lia,λg hg=> ?_,?_⟩
  ·rw[yg,Y<|qd b.ok,w,y9,ze]
  ·obtain hg|hg:=xab.1 hg
   ·exact b.gd g hg
   ·obtain rfl:=xaf.1 hg;exact⟨b.can,hi,⟨_,b.lc.ps,b.lc.tp.2⟩,b.ok,b.ln⟩
  ·rw[b.pr,xaU,vz];show _=prZ _*(cf F'*D 1);rw[yu]
 ·refine⟨c,by rw[zF],W,b.gd,?_⟩;obtain⟨d,hd⟩:=((ot.tp b.lc.tp).2 W).ex;rw[hd]at l;have B:=b.lc.ps;have C:cf F' (X F'-1)=d:=by rw[hd,(W:X F'-1=0)];exact E O
  rw[b.pr,hd];obtain e|e:=AY l
  ·rw[e,yu]
  ·lia
end
section
variable{a b K fu bx by_:wP}{y:wN}
def Bb(b:wP)(x:J):Prop:=x.natAbs<2^b
theorem Bb.mono{x:J}(h:Bb a x)(c:a<=b):Bb b x:=xac h<|xai m6 c
theorem Bb.mul{x:J}(c:Bb a x)(d:Bb b y):Bb (a+b) (x*y):=by
 unfold Bb at*
 rw[xcl,xbd];by_cases h:y.natAbs=0
 ·rw[h,xdv];exact xdn (xaS m6)<|xaS m6
 ·exact Nat.mul_lt_mul_of_lt_of_le c (xcJ d) W
theorem Bb.sub{x:J}(c:Bb b x)(d:Bb b y):Bb (b+1) (x-y):=by grind [Bb,xbe]
theorem Bb.zero(b:wP):Bb b 0:=xaS m6
theorem Bb.bz{x:J}(h:Bb b x)(c:b<=64*K):Bz K x:=by
 unfold Bz;rw[(m6:(18446744073709551616:wP)=2^64),<-xbM];exact xac h<|xai m6 c
theorem Bb.le{x:J}(c:Bb b y)(h:x.natAbs<=y.natAbs):Bb b x:=xaI h c
theorem Bb.pow{b:wP}{x:J}(h:Bb b x):∀n,Bb (n*b+1) (x^n)
 |0=>by rw[xck];unfold Bb;rw[xct];decide
 |n+1=>by
  rw[xbS,xbl,xcH,Nat.add_right_comm];exact(Bb.pow h n).mul h
theorem Bb.pow'{b:wP}{x y:J}{c:wP}(h:Bb b x)(d:Bb c y):∀n,Bb (n*b+c) (x^n*y)
 |0=>by rw[xck,xdh,xct,xaM];exact d
 |n+1=>by
  rw[xbS,Int.mul_right_comm,xbl,xcH,Nat.add_right_comm];exact(Bb.pow' h d n).mul h
theorem BY{n:wP}{a:J}(hn:n<=65536)(e:∀d,d<=n->Bz K (a^d))(h1:Bz K a)(g:K<=40000)(c:3000000<=fu):Jv fu (yK a) (n:J)=Z (yK<|a^n):=by
 unfold Jv;rw[Y<|yw m6 c,Y (v:=yK<|a^n)];refine zC (λs:J×U=>∃i:wP,s=((i:J),yK<|a^i)/\i<=n) (λs=>n-s.1.toNat) _ ?_ _ _ ⟨0,by rw[xck];rfl,xah _⟩ (by show n-0<fu;lia);rintro s L ⟨i,rfl,hi⟩ f;unfold fH;simp only;by_cases h:i<n
 ·rw[yg,Y<|ya ((e i hi).ok W) (h1.ok W) c,zt,zt,zb,<-xbS];exact f _ ⟨i+1,O,W⟩ (by show n-((i:J)+1).toNat<n-(i:J).toNat;lia)
 ·rw[zF];obtain rfl:i=n:=W
  rfl
structure PsI(x y:R)(l:J)(ly n bx by_ k:wP)(Q ρ:R):Prop where
 fq:Fs Q
 eq:D (l^(n-k))*x=Q*y+ρ
 z:∀j,k+(ly-1)<=j->ρ j=0
 b:∀j,Bb (bx+(n-k)*(by_+1))<|ρ j
theorem PsI.step{x y:R}{l:J}{c n k:wP}{Q d:R}(h:PsI x y l c n bx by_ (k+1) Q d)(o:k+1<=n)(g:Tp y (c-1))(hl:y (c-1)=l)(f:∀j,Bb by_<|y j):
 PsI x y l c n bx by_ k (D l*Q+mono k (d<|k+(c-1))) (λj=>l*d j-d (k+(c-1))*sh y k j):=by
 have e1:n-k=n-(k+1)+1:=W
 have i:bx+(n-k)*(by_+1)=by_+(bx+(n-(k+1))*(by_+1))+1:=by rw[e1,xbl];lia
 refine⟨((Fs.pc l).mul h.fq).add ⟨k+1,λj m=>zF⟩,?_,λj m=> ?_,λj=> ?_⟩
 ·rw[e1,xbS,xbB,<-jR,zd,h.eq,wM,yY,zd];funext j;rw[zW,zW,zW,VO,zS l d];show _=_+_+(l*d j-d (k+(c-1))*sh y k j);lia
 ·show l*d j-d (k+(c-1))*sh y k j=0;unfold sh;rw[yg];by_cases e:j=k+(c-1)
  ·rw[e,(W:k+(c-1)-k=c-1),hl,xbB];lia
  ·rw[h.z j W,g.2 _ W];lia
 ·rw[i];refine Bb.sub ((show Bb by_ l by rw[<-hl];exact f _).mul<|h.b j) ?_;rw[xdW by_];refine(h.b _).mul ?_;unfold sh;split
  ·exact f _
  ·exact Bb.zero _
theorem zow{n:wP}{l:N U}(j:wP):M (So n (I,[])++l) j=sh (M l) n j:=by
 unfold sh;by_cases h:n<=j
 ·rw[E h];unfold M;rw[UV,xbz (by rw[xaF];exact h),xaF,<-UV]
 ·rw[P h];unfold M;rw[UV,xbi (by rw[xaF];lia),xcT];rw[yg];rfl
theorem Ai{x y:N U}(hx:yx x=x)(p:yx y=y)(hl:X y<=X x)(hJ:0<X y)(hK:X x<=60)(bX:∀j,Bb bx<|M x j)(C:∀j,Bb by_<|M y j)(hT:bx+(X x-X y+1)*(by_+1)<=2400000)(m:3000000<=fu):
 ∃q r c Q,Yy fu x y=Z (q,r,0)/\yx r=r/\X r<X y/\c≠0/\Fs Q/\(D c*M x:R)=Q*M y+M r/\∀j,Bb (bx+(X x-X y+1)*(by_+1)) (M r j):=by
 obtain⟨n,hn⟩:∃n,n=X x-X y+1:=⟨_,O⟩;rw[<-hn]at hT⊢;obtain⟨T,hL⟩:∃T,T=bx+n*(by_+1):=⟨_,O⟩;have ty:Tp (M y) (X y-1):=by
  have:=WE (a:=y) (by rw[p];lia);rwa[p]at this
 obtain⟨l,G⟩:∃l,l=M y (X y-1):=⟨_,O⟩;have u:l≠0:=by rw[G];exact ty.1
 have i:Bb by_ l:=by rw[G];exact C _
 have hm:∀d,d<=n->d*(by_+1)<=n*(by_+1):=λd hd=>xag _ hd;have ho:∀d:wP,d*(by_+1)=d*by_+d:=λd=>by rw[xcm,xdQ]
 have hM:by_+1<=T:=by have:=hm 1 W;rw[xcH]at this;lia
 have oX:xf 37500 x:=by rw[<-hx];exact xp λj=>(bX j).bz W
 have oY:xf 37500 y:=by rw[<-p];exact xp λj=>(C j).bz W
 have v:∀d,d<=n->Bz 37501 (l^d):=λd hd=>(Bb.pow i d).bz (by have:=hm d hd;have:=ho d;lia);have A:∀d,d<=n->∀z,Bb (bx+(n-d)*(by_+1)) z->Bb T (l^d*z):=λd hd z hz=>(Bb.pow' i hz d).mono (by
  have h1:=ho d;have h2:n*(by_+1)=d*(by_+1)+(n-d)*(by_+1):=by rw[<-xbl];congr 1;lia
  lia)
 have hB:y.getD (X y-1) (I,[])=yK l:=by rw[G];exact CY (show y=w8 (X y) (M y)from p.symm)
 obtain⟨r0,hi⟩:∃r0,r0=w8 (X x) (λj=>M x j*l^n):=⟨_,O⟩;have ht:∀j,M r0 j=l^n*M x j:=λj=>by rw[hi,km (λj H=>by rw[yq H,xba]),xbB]
 obtain⟨s,hs,r,q,rfl,g,Q,r1,r2,S,r4⟩:=zU (f:=QA fu<|yK l) (λs:N U×N U×J×N U=>∃(k:wP) (r q:N U),s=(y,r,(k:J)-1,q)/\k<=n/\yx r=r/\X r<=X x+60*(n-k)/\X q=n/\xf 37500 q/\∃Q g,PsI (M x) (M y) l (X y) n bx by_ k Q g/\∀j,M r j=l^k*g j) (λs=>(s.2.2.1+1).toNat)
  (λt=>∃(r q:N U),t=(r,q)/\∃g Q,yx r=r/\(X q=n/\xf 37500 q)/\PsI (M x) (M y) l (X y) n bx by_ 0 Q g/\∀j,M r j=g j) (by
  rintro s L ⟨k,r,q,rfl,hk,V,hN,hp,hq,Q,g,o,hc⟩ ih
  unfold QA
  simp only
  cases k with
  |zero=>
   rw[zF]
   exact⟨_,O,r,q,O,g,Q,V,⟨hp,hq⟩,o,λj=>by rw[hc j,xck,xdh]⟩
  |succ k=>
   have hH:60*(n-(k+1))+60=60*(n-k):=W
   have hO:60*(n-k)<=60*60:=xaB _ W
   have hu:=o.step hk ty G.symm C
   have bR:∀j,Bb T (M r j):=λj=>by rw[hc j];exact A (k+1) hk _<|o.b j
   have oR:xf 37500 r:=by rw[<-V];exact xp λj=>(bR j).bz W
   rw[(W:((k+1:wP):J)-1=(k:J)),yg,zb]
   by_cases hP:X r<k+X y
   ·have hC:g (k+(X y-1))=0:=by
     have h1:=hc<|k+(X y-1);rw[yq W]at h1;obtain h2|h2:=xeU.1 h1.symm
     ·exact kW h2<|Int.pow_ne_zero u
     ·exact h2
    rw[yg,zb]
    refine ih _ ⟨k,r,q,O,W,V,W,hp,hq,_,_,hu,λj=> ?_⟩ (by show((k:J)-1+1).toNat<(((k+1:wP):J)-1+1).toNat;lia)
    show M r j=l^k*(l*g j-g (k+(X y-1))*sh (M y) k j)
    rw[hC,xba,xdk,hc j,xbS,xdc]
   ·have hD:X r=k+X y:=by
     by_cases e:X r=k+X y
     ·exact e
     ·exfalso;have h1:=X3 (show r=w8 (X r) (M r)from V.symm) W;rw[hc,o.z _ W,xaz]at h1;exact h1 O
    obtain⟨w,hw⟩:∃w,w=g (k+(X y-1)):=⟨_,O⟩
    have hF:M r (k+(X y-1))=l^k*w*l:=by rw[hc,<-hw,xbS,Int.mul_right_comm]
    have bw:Bb T (l^k*w):=by
     refine A k W w ((o.b _).mono ?_|>λh=>by rw[hw];exact h);have:=hm (n-(k+1)) W;have h3:(n-k)*(by_+1)=(n-(k+1))*(by_+1)+(by_+1):=by rw[(W:n-k=n-(k+1)+1),xbl,xcH]
     lia
    have a0:∀j,Bb T (M y j*(l^k*w)):=λj=>by
     have h1:Bb (by_+(k*by_+(bx+(n-(k+1))*(by_+1)))) (M y j*(l^k*w)):=(C j).mul<|Bb.pow' i (by rw[hw];exact o.b _) k;refine h1.mono ?_;have h2:n*(by_+1)=(k+1)*(by_+1)+(n-(k+1))*(by_+1):=by rw[<-xbl];congr 1;lia
     have h3:=ho<|k+1;rw[xbl k 1 by_,xcH]at h3;lia
    have hE:exE (l^k*w*l) l=0:=by unfold exE;rw[P u,E<|Int.mul_emod_left _ _]
    have hX:exI (l^k*w*l) l=l^k*w:=by unfold exI;rw[P u,E<|Int.mul_emod_left _ _,Int.mul_ediv_cancel _ u]
    rw[zF,zb,(W:(k:J)+(X y:J)-1=((k+(X y-1):wP):J)),zb,yn,F,Y<|uI (oR.okS m6 _) ((i.bz (K:=37500) W).okS m6) m,Qi,zt,hF,hX,hE]
    simp only
    have hv:(q.set k<|yK<|l^k*w).getD k (I,[])=yK (l^k*w):=by rw[UV,xcX W];rfl
    rw[yn,F,yH,y9,F,zp (by rw[xaP];lia),F,hv,Y<|kn (l:=37500) oY ⟨yJ _,(bw.bz (K:=37500) W).len⟩ m6 W m,zt]
    obtain⟨part,ha⟩:∃part,part=w8 (X y) (λj=>M y j*(l^k*w)):=⟨_,O⟩
    have hG:∀j,M part j=M y j*(l^k*w):=λj=>by rw[ha,km<|λj H=>by rw[yq H,xba]]
    have hQ:X part<=X y:=by rw[ha,xJ];exact jc _ _
    have a1:xf 37500 part:=by rw[ha];exact xp λj=>(a0 j).bz W
    have B:xf 37500 (So k (I,[])++part):=λz hz=>by
     obtain hz|hz:=xab.1 hz
     ·rw[(xeu.1 hz).2];exact⟨zn.nil,xah _⟩
     ·exact a1 z hz
    rw[<-ha,va (by rw[xaF];lia),F,Y<|ZS oR B m6 W (by rw[xau,xaF];lia) m,zb]
    refine ih _ ⟨k,_,_,O,W,(Jk _ _).symm,?_,by rw[xaP];exact hp,?_,_,_,hu,λj=> ?_⟩ (by show((k:J)-1+1).toNat<(((k+1:wP):J)-1+1).toNat;lia)
    ·have:=aa r<|So k (I,[])++part
     rw[xau,xaF]at this
     lia
    ·intro z hz
     obtain h1|h1:=xdE hz
     ·exact hq z h1
     ·rw[h1];exact⟨yJ _,(bw.bz (K:=37500) W).len⟩
    ·rw[zc5,zow,hc j]
     show l^(k+1)*g j-sh (M part) k j=l^k*(l*g j-g (k+(X y-1))*sh (M y) k j)
     rw[<-hw]
     have e2:sh (M part) k j=l^k*(w*sh (M y) k j):=by
      unfold sh;split
      ·rw[hG,xbB,xdc]
      ·rw[xaz,xaz]
     rw[e2,xbS,Int.mul_sub,xdc]) fu (y,r0,(n:J)-1,So n (I,[])) ⟨n,r0,_,O,Nm _,by rw[hi];exact(Jk _ _).symm,by rw[hi,xJ];have:=jc (λj=>M x j*l^n) (X x);lia,xaF,λz hz=>by rw[(xeu.1 hz).2];exact⟨zn.nil,xah _⟩,D 0,M x,⟨Fs.pc 0,by
    rw[xcx,xck,zE,yE];exact Z0 λj=>by rw[zW,zV,xcO],λj H=>yq W,λj=>by rw[xcx,xct];exact bX j⟩,ht⟩ (by show((n:J)-1+1).toNat<fu;lia)
 refine⟨w8 (X q)<|M q,r,l^n,Q,?_,r1,?_,Int.pow_ne_zero u,S.fq,?_,λj=>by rw[r4 j];exact S.b j⟩
 ·unfold Yy;have hA:max ((X x:J)-X y+1) 0=(n:J):=W
  rw[Y<|zM oX m6 W m,Y<|zM oY m6 W m,show w8 (X x) (M x)=x from hx,show w8 (X y) (M y)=y from p,zF,zb,zb,F,hA,(W:(X y:J)-1=((X y-1:wP):J)),zb,yn,F,hB,Y<|BY W v ((i.bz (K:=37501) W)) m6 m,Y<|kn (l:=37501) oX ⟨yJ _,(v n<|Nm _).len⟩ m6 W m,zt,<-hi,yH,y9,F,zb,Y hs];simp only;rw[Y<|zM r2.2 m6 W m]
 ·by_cases e:X r=0
  ·lia
  ·have h1:=X3 (show r=w8 (X r) (M r)from r1.symm) e;by_cases h2:X r<X y
   ·exact h2
   ·rw[r4,S.z _ W]at h1;exact kW O h1
 ·have:=S.eq;rw[Nat.sub_zero]at this;rw[this,show(M r:R)=g from Z0 r4]
end
section
def fac:K->J
 |0=>1
 |n+1=>((n+1:K):J)*fac n
theorem YL:∀n,0<fac n
 |0=>by decide
 |n+1=>Int.mul_pos W<|YL n
def ip(n:K)(f g:R):J:=ye (n+1) λs=>fac s*fac (n-s)*(f s*g s)
theorem Jb(n:K)(f g:R):ip n f g=ip n g f:=yC λs _=>by rw[xbB<|f s]
theorem za5(n:K)(f g h:R):ip n (f+g) h=ip n f h+ip n g h:=by
 unfold ip;rw[<-YI];exact yC λs _=>by rw[zW,Int.add_mul,xfy]
theorem Cr(n:K)(f g h:R):ip n h (f+g)=ip n h f+ip n h g:=by grind [Jb,za5]
theorem RL(n:K)(c:J)(f h:R):ip n (D c*f) h=c*ip n f h:=by
 unfold ip;rw[<-uO];exact yC λs _=>by rw[zS,xdc c<|f s,Int.mul_left_comm]
theorem AB(n:K)(c:J)(f h:R):ip n h (D c*f)=c*ip n h f:=by rw[Jb,RL,Jb]
theorem N3{f:K->J}:∀{n},(∀k,k<n->0<=f k)->0<=ye n f
 |0,_=>xfV 0
 |n+1,h=>Int.add_nonneg (N3 λk a=>h k W)<|h n W
theorem zlV(n:K)(f:R):0<=ip n f f:=N3 λs _=>xcB (xcB (xdK<|YL _)<|xdK<|YL _)<|Xd _
def xP:R:=mono 1 1
theorem zqQ(f:R):(xP*f) 0=0:=by
 unfold xP;rw[VO];rfl
theorem zro(f:R)(k:K):(xP*f) (k+1)=f k:=by simp_all [sh,xP,VO]
theorem adx(n:K)(f g:R):ip (n+1) (xP*f) g=ip n f (dvp g):=by
 unfold ip;rw[Zu,zqQ,xba,xaz,xcO];refine yC λs a=> ?_;rw[zro,(W:n+1-(s+1)=n-s)];show((s+1:K):J)*fac s*fac (n-s)*(f s*g (s+1))=fac s*fac (n-s)*(f s*(((s+1:K):J)*g (s+1)));grind
def dy(n:K)(f:R):R:=D (n:J)*f-xP*dvp f
theorem SX(n:K)(f:R)(k:K):dy n f k=((n:J)-k)*f k:=by
 unfold dy;rw[xd,zS]
 cases k with
 |zero=>rw[zqQ];grind
 |succ k=>
  rw[zro];show n*f (k+1)-((k+1:K):J)*f (k+1)=_;grind
theorem ady(n:K)(f g:R)(a:f (n+1)=0):ip (n+1) f g=ip n f (dy (n+1) g):=by
 show ye (n+1) _+fac (n+1)*fac (n+1-(n+1))*(f (n+1)*g (n+1))=_;rw[a,xba,xaz,xcc];refine yC λs b=> ?_;rw[SX,(W:n+1-s=(n-s)+1)];show fac s*(((n-s+1:K):J)*fac (n-s))*(f s*g s)=_;grind
theorem eul(n:K)(f:R):D (n:J)*f=xP*dvp f+dy n f:=by
 unfold dy;funext k;rw[zW,xd];lia
theorem znr(n m:K)(f g:R):dy (n+m) (f*g)=dy n f*g+f*dy m g:=by
 have h1:D ((n+m:K):J)*(f*g)=D n*f*g+f*(D m*g):=by
  rw[zG f,zd];funext k;rw[zW,zS,zS,zS];grind
 have a:xP*(dvp f*g+f*dvp g)=xP*dvp f*g+f*(xP*dvp g):=by rw[wM,zd,zG f]
 unfold dy;rw[KJ,h1,a,kh,qM];funext k;simp only[zW,xd];lia
theorem zhZ(n:K)(f:R):dvp (dy (n+1) f)=dy n (dvp f):=Z0 λk=>by
 rw[SX];show((k+1:K):J)*dy (n+1) f (k+1)=(n-k)*(((k+1:K):J)*f (k+1));rw[SX];grind
def Dg(n:K)(f:R):Prop:=∀k,n<k->f k=0
theorem Dg.dx{n:K}{f:R}(h:Dg (n+1) f):Dg n (dvp f):=λk a=>by
 show((k+1:K):J)*f (k+1)=0;rw[h _ W,xaz]
theorem Dg.dy{n:K}{f:R}(h:Dg (n+1) f):Dg n (dy (n+1) f):=λk a=>by
 rw[SX];by_cases e:k=n+1
 ·simp_all
 ·rw[h k W,xaz]
theorem Dg.mul{n m:K}{f g:R}(a:Dg n f)(b:Dg m g):Dg (n+m) (f*g):=λk d=>uX (n:=n+1) (m:=m+1) (λj c=>a j W)<|λj c=>b j W
theorem Dg.add{n:K}{f g:R}(b:Dg n f)(c:Dg n g):Dg n (f+g):=λk a=>by rw[zW,b k a,c k a];rfl
theorem Dg.num{f:R}(h:Dg 0 f):f=D (f 0):=Z0 λk=>by
 unfold D;by_cases e:k=0
 ·simp_all
 ·rw[P e,h k W]
section
variable(a:wP)(u:Pz)
theorem zl9{m b q0:K}{v p q:R}(hp:Dg (m+1) p)(c:Dg a u)(e:b+q0=m+1+a):
 ((m+1:K):J)*ip (m+1+a) (p*u) (v*q)=ip (m+a) (dvp p*u) (dvp v*q)+ip (m+a) (dy (m+1) p*u) (dy b v*q)+(ip (m+a) (dvp p*u) (v*dvp q)+ip (m+a) (dy (m+1) p*u) (v*dy q0 q)):=by
 rw[<-RL,<-zd,eul,yY,za5,zd,(W:m+1+a=m+a+1),adx,ady _ _ _ (hp.dy.mul c _ W),KJ,Cr,(W:m+a+1=b+q0),znr,Cr];lia
def Fk:K->K->K->R->R->R->J
 |0,b,_,v,p,q=>ip (b+a) (p*u)<|v*q
 |k+1,b,c,v,p,q=>Fk k (b-1) (c-1) v (dvp p) (dvp q)+Fk k (b-1) (c-1) v (dy b p) (dy c q)
theorem LN(c:Dg a u):∀(k:K) {m b q0:K}{v p q:R},k<=m->m<=q0->b+(q0+1)=m+1+a->Dg (m+1) p->
 ((m+1:K)-(k:J))*Fk a u k (m+1) (q0+1) v p q=Fk a u k m (q0+1) (dvp v) (dvp p) q+Fk a u k m (q0+1) (dy b v) (dy (m+1) p) q+Fk a u (k+1) (m+1) (q0+1) v p q
 |0,m,b,q0,v,p,q,_,_,e,hp=>by
  have:=zl9 a u (v:=v) (q:=q) hp c e;assumption
 |k+1,0,_,_,_,_,_,h,_,_,_=>by lia
 |k+1,m+1,b,0,_,_,_,_,h,_,_=>by lia
 |k+1,m+1,b,q0+1,v,p,q,h1,d,e,hp=>by
  have i1:=LN c k (b:=b) (q0:=q0) (v:=v) (q:=dvp q) W W W hp.dx;have i2:=LN c k (b:=b) (q0:=q0) (v:=v) (q:=dy (q0+1+1) q) W W W hp.dy;rw[zhZ]at i2;show((m+1+1:K)-((k+1:K):J))*(Fk a u k (m+1) (q0+1) v (dvp p) (dvp q)+Fk a u k (m+1) (q0+1) v (dy (m+1+1) p) (dy (q0+1+1) q))=Fk a u k m (q0+1) (dvp v) (dvp<|dvp p) (dvp q)+Fk a u k m (q0+1) (dvp v) (dy (m+1)<|dvp p) (dy (q0+1+1) q)+(Fk a u k m (q0+1) (dy b v) (dvp<|dy (m+1+1) p) (dvp q)+Fk a u k m (q0+1) (dy b v) (dy (m+1)<|dy (m+1+1) p) (dy (q0+1+1) q))+(Fk a u (k+1) (m+1) (q0+1) v (dvp p) (dvp q)+Fk a u (k+1) (m+1) (q0+1) v (dy (m+1+1) p) (dy (q0+1+1) q));rw[zhZ,(W:((m+1+1:K)-((k+1:K):J))=((m+1:K)-(k:J))),xfy];lia
def pD:K->K->R->R->R
 |0,_,p,q=>p*q
 |k+1,b,p,q=>pD k (b-1) (dvp p) (dvp q)+pD k (b-1) (dy (k+1) p) (dy b q)
theorem zfA:∀(k:K) {b:K}{v p q:R},Dg k p->Fk a u k k b v p q=ip a u (v*pD k b p q)
 |0,b,v,p,q,h=>by
  show ip (0+a) (p*u) (v*q)=ip a u (v*(p*q));rw[h.num,xaM,RL,zG,AB]
 |k+1,b,v,p,q,h=>by
  show Fk a u k k (b-1) v (dvp p) (dvp q)+Fk a u k k (b-1) v (dy (k+1) p) (dy b q)=ip a u (v*(pD k (b-1) (dvp p) (dvp q)+pD k (b-1) (dy (k+1) p) (dy b q)));rw[zfA k h.dx,zfA k h.dy,wM,Cr]
end
theorem zh9:∀(k:K) {d:K}{p q:R},Dg k p->Dg (k+d) q->Dg d (pD k (k+d) p q)
 |0,d,p,q,hp,a=>by
  have:=hp.mul a;rw[xaM,xaM]at this;exact this
 |k+1,d,p,q,hp,a=>by
  rw[(W:k+1+d=k+d+1)]at a⊢;exact(zh9 k hp.dx a.dx).add<|zh9 k hp.dy a.dy
theorem zfF:∀(k:K) {d:K}{p q g:R},Dg k p->Dg d g->fac k*ip (k+d) q (p*g)=ip d (pD k (k+d) p q) g
 |0,d,p,q,g,hp,a=>by
  show 1*ip (0+d) q (p*g)=ip d (p*q) g;rw[hp.num,xdh,xaM,AB,RL]
 |k+1,d,p,q,g,hp,a=>by
  have i1:=zfF k (q:=dvp q) hp.dx a;have i2:=zfF k (q:=dy (k+d+1) q) hp.dy a;rw[(W:k+1+d=k+d+1)];show((k+1:K):J)*fac k*ip (k+d+1) q (p*g)=ip d (pD k (k+d+1-1) (dvp p) (dvp q)+pD k (k+d+1-1) (dy (k+1) p) (dy (k+d+1) q)) g;rw[xfk,za5,<-i1,<-i2,xbB _<|fac k,xdc,<-AB,<-zd,eul,yY,Cr,zd,Jb _ q,adx,Jb _ q,ady _ _ _ (hp.dy.mul a _ W),xfy,Jb _<|dvp q,Jb _<|dy _ q]
theorem PB{a:K}{u:R}(e:Dg a u):∀(b:K) {v:R},Dg b v->b<=a->∀(j k:K),k+j=b->0<=Fk a u k b a v v u
 |b,v,hv,f,0,k,h=>by
  obtain rfl:k=b:=W
  obtain⟨d,rfl⟩:∃d,a=k+d:=⟨a-k,W⟩;have h1:=zfF k (d:=d) (q:=u) (g:=pD k (k+d) v u) hv<|zh9 k hv e;rw[zfA _ _ k hv];have i:=zlV d<|pD k (k+d) v u;rw[<-h1]at i;exact Int.nonneg_of_mul_nonneg_right i<|YL k
 |0,v,hv,f,j+1,k,h=>by lia
 |b+1,v,hv,f,j+1,k,h=>by
  obtain⟨c,rfl⟩:∃c,a=c+1:=⟨a-1,W⟩;have h1:=LN (c+1) u e k (m:=b) (b:=b+1) (q0:=c) (v:=v) (p:=v) (q:=u) W W W hv;have i:=PB e b hv.dx W j k W;have n:=PB e b hv.dy W j k W;have o:=PB e (b+1) hv f j (k+1) W;have l:0<=((b+1:K)-(k:J))*Fk (c+1) u k (b+1) (c+1) v v u:=by rw[h1];lia
  exact Int.nonneg_of_mul_nonneg_right l W
theorem zqU{u:R}(h:Dg 0 u):dvp u=D 0:=Z0 λk=>by
 rw[zV];show((k+1:K):J)*u (k+1)=0;rw[h _ W,xaz]
theorem zsT{u:R}(h:Dg 0 u):dy 0 u=D 0:=Z0 λk=>by
 rw[zV,SX];by_cases e:k=0
 ·simp_all
 ·rw[h k W,xaz]
theorem zry{a b:K}{u v:R}(c:Dg a u)(hv:Dg (b+1) v):0<=ip (b+a) (dvp v*u) (v*dvp u)+ip (b+a) (dy (b+1) v*u) (v*dy a u):=by
 by_cases h:b+1<=a
 ·exact PB c (b+1) hv h b 1 W
 ·cases a with
  |zero=>
   rw[zqU c,zsT c,zm v,AB,AB];lia
  |succ a=>
   have:=PB hv (a+1) c W a 1 W;have this:0<=ip (a+(b+1)) (dvp u*v) (u*dvp v)+ip (a+(b+1)) (dy (a+1) u*v) (u*dy (b+1) v):=this;rw[Jb,Jb _<|dy (a+1) u*v,zm u,zm<|dvp u,zm u,zm<|dy (a+1) u,(W:a+(b+1)=b+(a+1))]at this;lia
theorem zru{a:K}{u:R}(c:Dg a u):∀(b:K) {v:R},Dg b v->fac b*(v b*v b)*ip a u u<=ip (b+a) (v*u) (v*u)
 |0,v,hv=>by
  rw[hv.num,RL,AB,xaM];show 1*(D (v 0) 0*D (v 0) 0)*ip a u u<=v 0*(v 0*ip a u u);have e:D (v 0) 0=v 0:=O;rw[e,xdh,xdc];lia
 |b+1,v,hv=>by
  have h1:=zl9 a u (b:=b+1) (q0:=a) (v:=v) (q:=u) hv c O;have f:=zry c hv;have g:=zlV (b+a)<|dy (b+1) v*u;have d:=zru c b hv.dx;have e:dvp v b=((b+1:K):J)*v (b+1):=O;rw[e]at d;have h:((b+1:K):J)*(fac (b+1)*(v (b+1)*v (b+1))*ip a u u)=fac b*(((b+1:K):J)*v (b+1)*(((b+1:K):J)*v (b+1)))*ip a u u:=by
   show((b+1:K):J)*(((b+1:K):J)*fac b*(v (b+1)*v (b+1))*ip a u u)=_;grind
  refine Int.le_of_mul_le_mul_left (a:=((b+1:K):J)) ?_ W;lia
theorem CJ:∀(m n:K),fac (m+n)<=2^(m+n)*(fac m*fac n)
 |0,n=>by
  rw[xaM];show fac n<=2^n*(1*fac n);rw[xdh];have:=xbC (show(1:J)<=2^n from Int.pow_pos m6)<|xdK<|YL n;lia
 |m+1,0=>by
  show fac (m+1)<=2^(m+1)*(fac (m+1)*1);rw[xcU];have:=xbC (show(1:J)<=2^(m+1)from Int.pow_pos m6)<|xdK<|YL<|m+1;lia
 |m+1,n+1=>by
  have i1:=xaW (CJ m<|n+1) (W:(0:J)<=((m+1:K):J));have i2:=xaW (CJ (m+1) n) (W:(0:J)<=((n+1:K):J));rw[(W:m+(n+1)=m+n+1)]at i1;rw[(W:m+1+n=m+n+1)]at i2;rw[(W:m+1+(n+1)=m+n+1+1)];have e1:fac (m+n+1+1)=((m+1:K):J)*fac (m+n+1)+((n+1:K):J)*fac (m+n+1):=by
   show((m+n+1+1:K):J)*fac (m+n+1)=_;rw[<-Int.add_mul];congr 1;lia
  have a:(2:J)^(m+n+1+1)*(fac (m+1)*fac (n+1))=((m+1:K):J)*(2^(m+n+1)*(fac m*fac (n+1)))+((n+1:K):J)*(2^(m+n+1)*(fac (m+1)*fac n)):=by
   rw[xbS];have f1:fac (m+1)=((m+1:K):J)*fac m:=O;have f2:fac (n+1)=((n+1:K):J)*fac n:=O;rw[f1,f2];generalize((m+1:K):J)=x;generalize((n+1:K):J)=y;generalize(2:J)^(m+n+1)=z;grind
  rw[e1,a];lia
theorem zfq:∀(m n:K),fac m*fac n<=fac (m+n)
 |0,n=>by
  rw[xaM];show 1*fac n<=fac n;lia
 |m+1,n=>by
  rw[(W:m+1+n=m+n+1)];show((m+1:K):J)*fac m*fac n<=((m+n+1:K):J)*fac (m+n);have h1:=zfq m n;have a:=xaW h1 (W:0<=((m+1:K):J));have b:=xbC (W:((m+1:K):J)<=((m+n+1:K):J))<|xdK<|YL<|m+n;grind
theorem H6{f g:K->J}:∀{n},(∀k,k<n->f k<=g k)->ye n f<=ye n g
 |0,_=>xfV 0
 |n+1,h=>Int.add_le_add (H6 λk a=>h k W)<|h n W
theorem Pb{f:K->J}{j:K}:∀{n},(∀k,k<n->0<=f k)->j<n->f j<=ye n f
 |0,_,h=>kW h<|xbc _
 |n+1,h,b=>by
  have h1:=N3 λk (a:k<n)=>h k W;have c:=h n W;show f j<=ye n f+f n;by_cases e:j=n
  ·grind
  ·have:=Pb (λk a=>h k W) (W:j<n);lia
theorem mig{f u v:R}{a b:K}(g:Tp u a)(hv:Tp v b)(e:f=u*v)(k:K):(v b*u k)*(v b*u k)<=4^(a+b)*td f (a+b+1):=by
 have c:=nK f<|a+b+1;by_cases x:k<=a
 ·have h1:=zru (a:=a) (u:=u) g.2 b (v:=v) hv.2;have j:fac k*fac (a-k)*(u k*u k)<=ip a u u:=Pb (f:=λs=>fac s*fac (a-s)*(u s*u s)) (λs _=>xcB (xcB (xdK<|YL _)<|xdK<|YL _)<|Xd _) W;have y:ip (b+a) (v*u) (v*u)<=fac (b+a)*td f (a+b+1):=by
   rw[zm,<-e,xdW b a];unfold ip td;rw[<-uO];refine H6 λs z=>xbC ?_<|Xd _;have:=zfq s<|a+b-s;rwa[(W:s+(a+b-s)=a+b)]at this
  have l:=CJ b a;have h:=CJ k<|a-k;rw[(W:k+(a-k)=a)]at h;have d:=YL b;have pw:(0:J)<2^(b+a):=Int.pow_pos m6;have m:=Int.mul_pos (YL k)<|YL<|a-k;have o:=Xd<|v b;generalize fac k*fac (a-k)=X at*
  have g1:=xaW j (show 0<=fac b*(v b*v b)from xcB (xdK d) o);have A:=xbC l c;have p:=xaW h (show 0<=2^(b+a)*fac b from xcB (xdK pw)<|xdK d);have B:=xbC p c;have q:fac b*X*((v b*u k)*(v b*u k))<=fac b*X*(2^(b+a)*2^a*td f (a+b+1)):=by
   have e1:fac b*X*((v b*u k)*(v b*u k))=fac b*(v b*v b)*(X*(u k*u k)):=by grind
   have r:fac b*X*(2^(b+a)*2^a*td f (a+b+1))=2^(b+a)*fac b*(2^a*X)*td f (a+b+1):=by grind
   have C:2^(b+a)*(fac b*fac a)*td f (a+b+1)=2^(b+a)*fac b*fac a*td f (a+b+1):=by grind
   rw[e1,r];lia
  have t:=Int.le_of_mul_le_mul_left q<|Int.mul_pos d m;refine Int.le_trans t<|xbC ?_ c;have w:(4:J)^(a+b)=2^(b+a)*2^(a+b):=by rw[(m6:(4:J)=2*2),Int.mul_pow,xdW b a]
  rw[w];refine xaW ?_<|xdK pw;have:=xai (n:=2) m6 (W:a<=a+b);have i:∀n:K,((2^n:K):J)=(2:J)^n:=λn=>by simp
  rw[<-i,<-i];lia
 ·rw[g.2 k W,xaz,xaz];exact xcB (Int.pow_nonneg m6) c
end
section
variable{B:(wF Zr×wF Zr->wS (wF Zr))->wF Zr×wF Zr->wS (wF Zr)}{fu ca cb m:wP}{a b:wF Zr}{d p g R q:Pz}
theorem ze2{f:Pz}{M:J}(h:∀k,f k*f k<=M):∀n:K,td f n<=n*M
 |0=>by show 0<=0*M;lia
 |n+1=>by
  show ye n (λk=>f k*f k)+f n*f n<=_;have h1:ye n (λk=>f k*f k)<=n*M:=ze2 h n;grind
theorem zm4{x y:K}(h:x*x<y*y):x<y:=by
 refine xad λhn=> ?_;have:=xcb (W:y<=x) (W:y<=x);lia
theorem N5{f u v:Pz}{n B:K}(c:Tp f n)(fu:Fs u)(j:Fs v)(e:f=u*v)(hn:n<=40)(l:∀k,Bb B<|f k)(k:K):Bb (B+n+4) (u k):=by
 obtain⟨o,A⟩:=Qw c.nz e;obtain⟨a,h⟩:=Tp.ex fu o;obtain⟨b,hc⟩:=Tp.ex j A;have r:a+b=n:=by
  have:=h.mul hc;rw[<-e]at this;exact this.uniq c
 have h1:=mig h hc e k;have s:∀k,f k*f k<=(2^B:J)*2^B:=λk=>by
  have:=l k;unfold Bb at this;have i:(f k*f k)=(((f k).natAbs*(f k).natAbs:K):J):=by simp_all
  rw[i];have y:=xcb (xcJ this)<|xcJ this;grind
 have i:=ze2 s<|a+b+1;have t:(u k).natAbs<=(v b*u k).natAbs:=by
  rw[xcl];exact xei _ (by have:=hc.1;lia)
 refine xaI t<|zm4 ?_;have w:((v b*u k).natAbs*(v b*u k).natAbs:K)=(v b*u k*(v b*u k)).natAbs:=(xcl _ _).symm;rw[w];have x:(v b*u k*(v b*u k)).natAbs<=4^(a+b)*((a+b+1)*(2^B*2^B)):=by
  have z:(4:J)^(a+b)*td f (a+b+1)<=4^(a+b)*(((a+b+1:K):J)*(2^B*2^B)):=xaW W (Int.pow_nonneg m6);have C:(4:J)^(a+b)*(((a+b+1:K):J)*(2^B*2^B))=((4^(a+b)*((a+b+1)*(2^B*2^B)):K):J):=m7
  have:=Xd<|v b*u k;lia
 refine xaI x ?_;have e1:(2:K)^(B+n+4)*2^(B+n+4)=4^n*(256*(2^B*2^B)):=by
  rw[(m6:(4:K)=2^2),<-xbM,(m6:(256:K)=2^8),<-xbd,<-xbd,<-xbd,<-xbd];congr 1;lia
 rw[e1];have hd:0<(2:K)^B*2^B:=xdn (xaS m6) (xaS m6);rw[r];exact Nat.mul_lt_mul_of_pos_left (xbG W hd)<|xaS m6
theorem tC{K:wP}(f:xf K a)(h:K+1<=100000)(hl:X a<=1000)(e:3000000<=fu):Vy fu a=Z (w8 (X a-1)<|dvp<|M a):=by
 unfold Vy;have hc:∀k:wP,k<=1000->Bz 1 (k:J):=λk n=>Bz.nat (by rw[Nat.pow_one];lia);rw[Y<|Cn (g:=λk=>if k<1000 then M a k*(k:J)else 0) W W λj c=> ?_]
 ·have i:min (X a:J) 1=((min (X a) 1:wP):J):=W
  rw[yA,F,i,yH,y9,F];have hd:(zi (X a) λk=>if k<1000 then M a k*(k:J)else 0).drop (min (X a) 1)=zi (X a-1) (dvp<|M a):=by
   refine ziC (by rw[xcn,yA,yA];lia) λj c=> ?_;rw[xcn,yA]at c;rw[YR W,UV,xfh,<-UV,YR W,(W:min (X a) 1+j=j+1),yg];show yK (M a (j+1)*((j+1:wP):J))=yK (((j+1:wP):J)*M a (j+1));grind
  rw[hd,Y<|zM (k:=K+1) (Xy λj=> ?_) h (by rw[yA];lia) e,yA,DJ];unfold dvp;by_cases c:j+1<=1000
  ·rw[xbB];exact(f.bz _).mul<|hc _ c
  ·rw[yq W,xaz];exact Bz.zero _
 ·unfold QE;have l:=f.get j;rw[Y<|yw ⟨W,W⟩ e,Y<|ya (lF.of l W) ((hc j W).ok m6) e,zt,Qi,yg]
def aY:K->K
 |0=>1
 |1=>1
 |n+2=>2*aY (n+1)+aY n
theorem zib:∀n,aY n<=aY (n+1)
 |0=>Nm _
 |n+1=>by show _<=2*aY (n+1)+aY n;lia
theorem dM{i:K}:∀d,aY i<=aY (i+d)
 |0=>Nm _
 |d+1=>xao (dM d)<|zib _
theorem R4(j:K):∀t,aY j+(t+1+1)*aY (j+1)<=aY (j+1+(t+1))
 |0=>by show _<=2*aY (j+1)+aY j;lia
 |t+1=>by
  have c:=R4 j t;have h1:aY (j+1+(t+1+1))=2*aY (j+1+(t+1))+aY (j+1+t):=O;grind
theorem Ck(f:Fs d)(pd:Pm d):Zd d (M<|xa a)↔Zd d (M a):=by
 by_cases h:X (yx a)=0
 ·have h1:(M a:Pz)=D 0:=Z0 λk=>by rw[Vo h k,zV]
  have i:(M (xa a):Pz)=D 0:=Z0 λk=>by rw[YC,Vo h k,xet,zV]
  grind
 ·have e:=lu a;constructor
  ·intro c;rw[<-e];exact c.mul _<|Fs.pc _
  ·intro c;rw[<-e]at c;exact Zd.pm f pd (o9 h) c
theorem zcW{x y r Q:Pz}{c:J}(i:Fs d)(pd:Pm d)(hc:c≠0)(h:Fs Q)(e:D c*x=Q*y+r):(Zd d y/\Zd d r)↔(Zd d x/\Zd d y):=by
 constructor
 ·rintro⟨f,z2⟩;refine⟨Zd.pm i pd hc ?_,f⟩;rw[e];exact(f.mul _ h).add z2
 ·rintro⟨f,z2⟩;refine⟨z2,?_⟩;have:r=D c*x-Q*y:=Z0 λk=>by
   have:=WS e k;rw[zW]at this;rw[xd];lia
  rw[this];exact(f.mul _<|Fs.pc c).sub<|z2.mul _ h
theorem O0{Ps:N U->N U->V (N U×N U×J)}{Pr:N U->V (N U)}(hB:∀R x y,B R (x,y)=if(0:J)<(X y:J)then G (Ps x y) λt=>G (Pr t.2.1) λy'=>R (y,y')else Z x)(hk:∀{K:wP}{a:N U},xf K a->K<=9985->X a<=1000->Pr a=Z (xa a))(hl:∀{bx by_:wP}{x y:N U},yx x=x->yx y=y->X y<=X x->0<X y->X x<=60->(∀j,Bb bx<|M x j)->(∀j,Bb by_<|M y j)->bx+(X x-X y+1)*(by_+1)<=2400000->
 ∃q r c Q,Ps x y=Z (q,r,0)/\yx r=r/\X r<X y/\c≠0/\Fs Q/\(D c*M x:Pz)=Q*M y+M r/\∀j,Bb (bx+(X x-X y+1)*(by_+1))<|M r j) {C L n bx b_:wP} (ha:yx a=a) (o:Pm (M a)) (u:Po (M a)) (hb:yx b=b) (hm:X b<X a) (hL:X a<=L) (hv:L<=60) (hC:C*aY (L-1)<=639000) (ho:C*aY L<=2400000) (v:bx+1<=C*aY (L-X a)) (e:∀j,Bb bx (M a j)) (f:b_+1<=C*aY (L-X a+1)) (hc:∀j,Bb b_ (M b j)) (hd:X b≠0->Pm (M b)/\Po (M b)) (hn:X b<n):
 ∃x,zg B n (a,b)=Z x/\yx x=x/\Pm (M x)/\Po (M x)/\X x<=L/\xf 37500 x/\∀d,Fs d->Pm d->(Zd d (M x)↔(Zd d (M a)/\Zd d (M b))):=by
 refine zU (λs:N U×N U=>yx s.1=s.1/\Pm (M s.1)/\Po (M s.1)/\yx s.2=s.2/\X s.2<X s.1/\X s.1<=L/\(∃bx,bx+1<=C*aY (L-X s.1)/\∀i,Bb bx<|M s.1 i)/\(∃b_,b_+1<=C*aY (L-X s.1+1)/\∀i,Bb b_<|M s.2 i)/\(X s.2≠0->Pm (M s.2)/\Po (M s.2))/\∀d,Fs d->Pm d->((Zd d (M s.1)/\Zd d (M s.2))↔(Zd d (M a)/\Zd d (M b)))) (λs=>X s.2) _ ?_ n (a,b) ⟨ha,o,u,hb,hm,hL,⟨bx,v,e⟩,⟨b_,f,hc⟩,hd,λ_ _ _=>Iff.rfl⟩ hn;rintro⟨x,y⟩ R ⟨h1,H,P,w,h5,S,⟨bx,v,e⟩,⟨b_,f,hc⟩,hd,A⟩ ih;simp only at h1 H P w h5 S v e f hc hd A;rw[hB];have T:∀{i},i<=L->C*aY i<=2400000:=λ{i} hi=>xao (xaB _ (by
  have:=dM (i:=i)<|L-i;rwa[(W:i+(L-i)=L)]at this)) ho
 by_cases hp:0<X y
 ·obtain⟨t,ht⟩:∃t,X x-X y=t+1:=⟨X x-X y-1,W⟩;have hg:bx+(X x-X y+1)*(b_+1)+1<=C*aY (L-X y+1):=by
   have E:=R4 (L-X x) t;rw[(W:L-X x+1+(t+1)=L-X y+1)]at E;have hq:=xaB C E;rw[xcm,xfx]at hq;have hw:=xaB (t+1+1) f;rw[ht];lia
  obtain⟨q,r,c,Q,e1,F,e3,e4,e5,e6,e7⟩:=hl h1 w W hp W e hc (by have:=T (i:=L-X y+1) W;lia);have oR:xf 9985 r:=by
   by_cases hr:X r=0
   ·rw[xbs.1 hr];intro z hz;cases hz
   ·rw[<-F];refine xp λj=>(e7 j).bz ?_;have E:C*aY (L-X y+1)<=C*aY (L-1):=xaB _ (by
     have:=dM (i:=L-X y+1)<|X y-2;rwa[(W:L-X y+1+(X y-2)=L-1)]at this)
    lia
  rw[yg,Y e1];simp only;rw[Y<|hk oR m6 W];have hu:=Ye r;rw[F]at hu;obtain⟨y1,y2⟩:=hd W;refine ih _ ⟨w,y1,y2,jm r,by show(xa r).length<X y;lia,by show X y<=L;lia,⟨b_,?_,hc⟩,⟨_,hg,λi=> ?_⟩,λ(hn:X (xa r)≠0)=>VJ (by rw[F];show X r≠0;lia),λd l pd=> ?_⟩ (by show(xa r).length<X y;lia)
  ·refine xao f<|xaB _ ?_;show aY (L-X x+1)<=aY (L-X y);have:=dM (i:=L-X x+1)<|X x-X y-1;rwa[(W:L-X x+1+(X x-X y-1)=L-X y)]at this
  ·show Bb _ (M (xa r) i);rw[YC];exact(e7 i).le<|xbD _ _
  ·rw[<-A d l pd];show(Zd d (M y)/\Zd d (M<|xa r))↔(Zd d (M x)/\Zd d (M y));rw[Ck l pd];exact zcW l pd e4 e5 e6
 ·rw[zF];refine⟨x,O,h1,H,P,S,?_,λd l pd=> ?_⟩
  ·rw[<-h1];exact xp λj=>(e j).bz (by have:=T (i:=L-X x) W;lia)
  ·rw[<-A d l pd];have:Zd d (M y):=⟨D 0,Fs.pc 0,Z0 λk=>by rw[yq W,yE,zV]⟩;exact⟨λh=>⟨h,this⟩,λh=>h.1⟩
def GcZ(ca cb c e:K):Prop:=(∃C,ca+1<=C/\cb+1<=C/\C*aY (c-1)<=639000/\C*aY c<=2400000)\/
 (ca<=639000/\(ca+(c-e+1)*(cb+1)+1)*aY (e-1)<=639000/\(ca+(c-e+1)*(cb+1)+1)*aY e<=2400000)
theorem zpm{Ps:N U->N U->V (N U×N U×J)}{Pr:N U->V (N U)}(A:∀R x y,B R (x,y)=if(0:J)<(X y:J)then G (Ps x y) λt=>G (Pr t.2.1) λy'=>R (y,y')else Z x)(hc:∀{K:wP}{a:N U},xf K a->K<=9985->X a<=1000->Pr a=Z (xa a))(hd:∀{bx by_:wP}{x y:N U},yx x=x->yx y=y->X y<=X x->0<X y->X x<=60->(∀j,Bb bx<|M x j)->(∀j,Bb by_<|M y j)->bx+(X x-X y+1)*(by_+1)<=2400000->
 ∃q r c Q,Ps x y=Z (q,r,0)/\yx r=r/\X r<X y/\c≠0/\Fs Q/\(D c*M x:Pz)=Q*M y+M r/\∀j,Bb (bx+(X x-X y+1)*(by_+1))<|M r j) {n:wP} (w:yx a=a) (l:Pm (M a)) (o:Po (M a)) (hb:yx b=b) (hi:X b<X a) (he:X a<=60) (E:∀j,Bb ca (M a j)) (bB:∀j,Bb cb (M b j)) (hZ:GcZ ca cb (X a) (X b)) (hn:X b+1<n):
 ∃x,zg B n (a,xa b)=Z x/\yx x=x/\Pm (M x)/\Po (M x)/\X x<=X a/\xf 37500 x/\∀d,Fs d->Pm d->(Zd d (M x)↔(Zd d (M a)/\Zd d (M b))):=by
 have z:X (xa b)=X b:=by rw[Ye,hb]
 have e:∀j,Bb cb (M (xa b) j):=λj=>by rw[YC];exact(bB j).le<|xbD _ _
 have pb:X (xa b)≠0->Pm (M<|xa b)/\Po (M<|xa b):=λh=>VJ (by rw[hb];lia);have s:∀{x:N U},(∀d,Fs d->Pm d->(Zd d (M x)↔(Zd d (M a)/\Zd d (M<|xa b))))->∀d,Fs d->Pm d->(Zd d (M x)↔(Zd d (M a)/\Zd d (M b))):=λh d f pd=>by rw[h d f pd,Ck f pd]
 rcases hZ with⟨C,h1,h2,h3,h4⟩|h1
 ·obtain⟨x,e1,u,e3,F,H,P,v⟩:=O0 A hc hd (C:=C) (L:=X a) (n:=n) w l o (jm b) W (Nm _) he h3 h4 (by rw[xcx];show ca+1<=C*1;lia) E (by rw[xcx];show cb+1<=C*1;lia) e pb W;exact⟨x,e1,u,e3,F,H,P,s v⟩
 ·obtain⟨hj,h1,hf⟩:=h1;obtain⟨n,rfl⟩:∃m,n=m+1:=⟨n-1,W⟩;rw[ux,A];by_cases hk:0<X b
  ·obtain⟨T,S⟩:∃T,T=ca+(X a-X b+1)*(cb+1):=⟨_,O⟩;rw[<-S]at h1 hf;have hl:T+1<=(T+1)*aY (X b-1):=xcp _<|xac (m6:0<aY 0) (by have h:=dM (i:=0)<|X b-1;rwa[xaM]at h);obtain⟨q,r,c,Q,e1,u,e3,F,H,P,v⟩:=hd w (jm b) W W he E e (by rw[z,<-S];lia);rw[z,<-S]at v;have oR:xf 9985 r:=by rw[<-u];exact xp λj=>(v j).bz W
   rw[yg,Y e1];simp only;rw[Y<|hc oR m6 W];have hg:=Ye r;rw[u]at hg;obtain⟨y1,y2⟩:=pb W;obtain⟨x,g1,g2,g3,g4,g5,g6,g7⟩:=O0 A hc hd (C:=T+1) (L:=X b) (n:=n) (jm b) y1 y2 (jm r) W W W h1 hf (bx:=cb) (by
    rw[z,xcx];show cb+1<=(T+1)*1;have:=xag (cb+1) (W:1<=X a-X b+1);lia) e (b_:=T) (by rw[z,xcx];show T+1<=(T+1)*1;lia) (λj=>by rw[YC];exact(v j).le (xbD _ _)) (λh=>VJ (by rw[u];lia)) W
   refine⟨x,g1,g2,g3,g4,W,g6,s λd f pd=> ?_⟩;rw[g7 d f pd,Ck (a:=r) f pd];exact zcW f pd F H P
  ·rw[zF];refine⟨a,O,w,l,o,Nm _,?_,λd f pd=> ?_⟩
   ·rw[<-w];exact xp λj=>(E j).bz W
   ·have:Zd d (M b):=⟨D 0,Fs.pc 0,Z0 λk=>by rw[yq W,yE,zV]⟩;exact⟨λh=>⟨h,this⟩,λh=>h.1⟩
theorem Hc(f:yx a=a)(r:yx b=b)(hc:yF a=1)(y:X b<X a)(z:X a<=60)(s:∀j,Bb ca<|M a j)(t:∀j,Bb cb<|M b j)(A:GcZ ca cb (X a) (X b))(V:ca<=639000)(hk:cb<=639000)(i:3000000<=fu):
 ∃g,Vd fu a b=Z g/\yx g=g/\Pm (M g)/\Po (M g)/\X g<=X a/\∀d,Fs d->Pm d->(Zd d (M g)↔Zd d (M a)/\Zd d (M b)):=by
 have u:xf 9985 a:=by rw[<-f];exact xp λj=>(s j).bz W
 have o:xf 9985 b:=by rw[<-r];exact xp λj=>(t j).bz W
 have hd:xa a=a:=Cx (jm a) f λk=>by rw[YC,hc,Int.ediv_one]
 obtain⟨c,e⟩:=VJ (a:=a) (by rw[f];lia);rw[hd]at c e;obtain⟨x,C,v,D,E,F,G,H⟩:=zpm (B:=pO fu) (Ps:=Yy fu) (Pr:=wq fu) (n:=fu) (λ_ _ _=>O) (λh h1 w=>qd h) (λh1 w L N P Q S T=>Ai h1 w L N P Q S T i) f c e r y z s t A W;have b1:=(Bz.one' (k:=1)<|Nm _);have U:=(Fm o);have hi:w8 (X x) (λj=>M x j*1)=x:=by rw[show(λj=>M x j*1)=M x from Z0 λj=>xcU _];exact v
 refine⟨x,?_,v,D,E,F,H⟩;unfold Vd;rw[Y<|uu u,Y<|uu o,hc,Y<|UQ (K:=9985) (yJ _) (yJ _) (xao b1.len m6) U.len m6 i,zt,zt,show Int.natAbs 1=1 from O,Nat.gcd_one_left,show((1:wP):J)=1 from O,Y<|qd u,Y<|qd o,hd,Y C,Y<|kn (l:=1) G ⟨yJ _,b1.len⟩ m6 W i,zt];show Z (w8 (X x) λj=>M x j*1)=_;rw[hi]
theorem zaB(q:Pz):∀n,dvp (pp q<|n+1)=D ((n+1:K):J)*(pp q n*dvp q)
 |0=>by
  show dvp (D 1*q)=D 1*(D 1*dvp q);rw[zE,zE,zE]
 |n+1=>by
  show dvp (pp q (n+1)*q)=D _*(pp q n*q*dvp q);rw[KJ,zaB q n,zd<|D _,zd<|pp q n,zm (dvp q) q];show _+pp q n*q*dvp q=_;rw[zd<|pp q n];funext k;rw[zW,zS,zS];grind
theorem zlw(hp:Tp p m)(z:Fs g)(A:Fs R)(e:p=R*g)(C:Zd g (dvp p))(c:Ir q)(h:Zd q p):Zd q R:=by
 refine xad λE=> ?_;obtain⟨n,_,hn⟩:=Mu.ex c m hp;obtain⟨S,F⟩:=Qw hp.nz e;obtain⟨d,hd⟩:=Tp.ex z F;obtain⟨i,_,hi⟩:=Mu.ex c d hd;have h1:=(Mu.zero A E).mul c hi;rw[<-e,xaM]at h1;obtain rfl:=h1.uniq c hn;have T:i≠0:=λh0=>by
  subst h0;obtain⟨u,fu,f,l⟩:=hn;rw[show pp q 0=D 1 from O,yu]at f;simp_all
 obtain⟨j,rfl⟩:∃j,i=j+1:=⟨i-1,W⟩;obtain⟨u,fu,f,l⟩:=hn;obtain⟨v,G,H,_⟩:=hi;have o:Zd (pp q<|j+1) (dvp p):=Zd.trans ⟨v,G,H⟩ C;rw[f,KJ]at o;have r:Zd (pp q<|j+1) (u*dvp (pp q<|j+1)):=by
  have:u*dvp (pp q<|j+1)=(dvp u*pp q (j+1)+u*dvp (pp q<|j+1))-dvp u*pp q (j+1):=Z0 λk=>by simp only[zW,xd];lia
  rw[this];exact o.sub ⟨dvp u,fu.dvp,O⟩
 rw[zaB]at r;obtain⟨w,s,L⟩:=r;have M:w*q=u*(D ((j+1:K):J)*dvp q):=by
  refine Dt (s.mul c.fs) (fu.mul<|(Fs.pc _).mul c.fs.dvp) (c.fs.pp j) (c.pm.pp j).nz ?_;have N:w*pp q (j+1)=w*q*pp q j:=by
   show w*(pp q j*q)=_;rw[zd,zm (pp q j) q]
  rw[<-N,<-L,zd u,zd<|D _,zm (dvp q)<|pp q j]
 rcases c.prime fu ((Fs.pc _).mul c.fs.dvp) ⟨w,s,M.symm⟩with h5|h5
 ·exact l h5
 ·obtain⟨t,ht⟩:=Tp.ex c.fs c.pm.nz;have U:t≠0:=λh0=>c.dg<|(ot.tp ht).2 h0;obtain⟨P,hc,Q⟩:=Ox (n:=0) ht h5 λk V=>by
   rw[zS];show _*(((k+1:K):J)*q (k+1))=0;rw[ht.2 _ W,xaz,xaz]
  have x:=WS hc<|t-1;rw[w7 P,yU λi _=>by rw[Q i W,xba],zS]at x;have y:((j+1:K):J)*(((t-1+1:K):J)*q (t-1+1))=0:=x;rw[(W:t-1+1=t)]at y;obtain h8|h8:=xeU.1 y
  ·lia
  ·obtain h9|h9:=xeU.1 h8
   ·lia
   ·exact ht.1 h9
theorem zna(hp:Tp p m)(o:Fs g)(x:Fs R)(e:p=R*g)(r:∀d,Fs d->Pm d->Zd d p->Zd d (dvp p)->Zd d g)(c:Ir q):¬Zd (q*q) R:=λ⟨z,f,i⟩=>by
 obtain⟨n,_,u,fu,e1,j⟩:=Mu.ex c m hp
 cases n with
 |zero=>
  refine j ⟨z*q*g,(f.mul c.fs).mul o,?_⟩;have s:u=p:=by rw[e1];exact(yu u).symm
  rw[s,e,i];simp only[zm,zG]
 |succ k=>
  have t:=c.fs.pp k;have h:pp q (k+1)=q*pp q k:=zm _ _;obtain⟨w,l,v⟩:=r (pp q k) t (c.pm.pp k) ⟨u*q,fu.mul c.fs,by rw[e1,h,zd]⟩ (by
   rw[e1,KJ,zaB];refine Zd.add ⟨dvp u*q,fu.dvp.mul c.fs,by rw[h,zd]⟩ ⟨u*(D ((k+1:K):J)*dvp q),fu.mul<|(Fs.pc _).mul c.fs.dvp,?_⟩;simp only[zm,zG])
  refine j ⟨z*w,f.mul l,?_⟩;refine Dt fu ((f.mul l).mul c.fs) (c.fs.pp<|k+1) (c.pm.pp<|k+1).nz ?_;rw[<-e1,e,i,v,h];simp only[zm,zG]
end
noncomputable def zgE(fu:K)(a:N U)(fs:N (N J))(p:J):J:=
 if qO p=qR then(if 65<(yx a).length then 6 else if vM fu (yx a) fs p=Z qR then 0 else 1)else 1
theorem zg8{fu:K}{p k:J}{a:N U}{fs:N (N J)}{us:N (N U)}{e:J}(f:xf 250 a)(hi:X a<=1000)(h1:1<=k)(i:k<=1000)(j:3000200<=fu)(h:jG fu a fs p k=Z (us,e)):e=zgE fu a fs p:=by
 unfold jG at h;unfold zgE;rw[Y<|Ze W]at h;simp only at h;rw[Y (zM f m6 W W),show w8 (X a) (M a)=yx a from O]at h;by_cases hp:qO p=qR
 ·have hc:sG p k=(yK<|p^k.toNat,0):=by
   unfold sG;simp_all
  rw[hc]at h;rw[E hp];simp only[Xs]at h;by_cases g:65<X (yx a)
  ·grind
  ·rw[zF]at h;rw[P g]
   cases c:vM fu (yx a) fs p with
   |none=>rw[c]at h;cases h
   |some b=>
    rw[c]at h;change(if(!b)=qR then _ else _)=_ at h
    cases b with
    |false=>
     rw[E m6]at h;rw[P m7];simp only[xav,xcR]at h;exact h.2.symm
    |true=>
     rw[P m6]at h;rw[E O];split at h
     ·simp only[xav,xcR]at h;exact h.2.symm
     ·cases hd:xv fu (yx a) (yK<|p^k.toNat)with
      |none=>rw[hd]at h;cases h
      |some t=>
       rw[hd]at h;change G (qE fu t fs p k<|yK<|p^k.toNat) _=_ at h
       cases d:qE fu t fs p k (yK<|p^k.toNat)with
       |none=>rw[d]at h;cases h
       |some t3=>
        rw[d]at h;change Z (t3,(0:J))=_ at h;simp only[xav,xcR]at h;exact h.2.symm
 ·have hc:sG p k=((I,[]),1):=by
   unfold sG;rw[P<|λh=>hp h.1]
  rw[hc]at h;rw[P hp];simp only[Int.reduceEq,Z9,xav,xcR]at h;exact h.2.symm
section
variable{fu:wP}{p:wN}{a:wF Zr}
def zmj(p:J)(n:K)(fs:N (N J)):Prop:=(∀t,t<X fs->X (fs.getD t [])<=n/\Tr p (fs.getD t []))/\∀t j,t<X fs->j<t->kM p (C<|fs.getD t []) (C<|fs.getD j [])
theorem MW{i:K}{f:N J}{fs:N (N J)}(hp:qO p=qR)(hd:Fp p f)(g:X f<=290)(hi:i<=X fs)(y:i<=1000000)(k:∀j,j<i->Fp p (fs.getD j [])/\X (fs.getD j [])<=290)(l:3000000<=fu):
 ∃r,zg (kJ fu p f<|fs.take i) fu 0=Z r/\((r=.inl ()/\∀j,j<i->kM p (C f) (C<|fs.getD j []))\/(r=.inr ()/\¬∀j,j<i->kM p (C f) (C<|fs.getD j []))):=by
 obtain⟨m,z⟩:=zB hp;have hl:X (fs.take i)=i:=by rw[xan];lia
 have n:∀j,j<i->(fs.take i).getD j []=fs.getD j []:=λj b=>by rw[UV,xbF,E b,<-UV]
 refine zU (λx:J=>∃j:K,x=(j:J)/\j<=i/\∀t,t<j->kM p (C f) (C<|fs.getD t [])) (λx=>i-x.toNat) _ ?_ _ _ ⟨0,O,xah _,λt h=>kW h<|xbc _⟩ (by show i-0<fu;lia);rintro x L ⟨j,rfl,b,c⟩ o;unfold kJ;by_cases h1:j<i
 ·obtain⟨k1,k2⟩:=k j h1;obtain⟨d,s,t,q,u,v⟩:=Ks (fu:=fu) hp hd k1 g k2 l;have hc:=zcp m u v;rw[yg,yn,F,n j h1,Y q];simp only;by_cases e:X d=1
  ·rw[yg,zb];refine o _ ⟨j+1,O,W,λt ht=> ?_⟩ W;by_cases w:t=j
   ·rw[w];exact hc.1 e
   ·exact c t W
  ·rw[zF];exact⟨_,O,.inr ⟨O,λh=>e<|hc.2<|h j h1⟩⟩
 ·rw[zF];exact⟨_,O,.inl ⟨O,λt ht=>c t W⟩⟩
theorem zat{fs:N (N J)}(hp:qO p=qR)(e:X a<=66)(h0:X a≠0)(hl:X (jr p a)=X a)(g1:∀t,t<X fs->X (fs.getD t [])<=X a/\Tr p (fs.getD t [])):
 (∀f∈fs,Fp p f)/\(∀f∈fs,X f<=66)/\(jr p a).drop (X a-1)=[C (jr p a)<|X a-1]/\Fp p [C (jr p a)<|X a-1]:=by
 obtain⟨g,i⟩:=zB hp;have c:∀{q:N J->Prop},(∀t,t<X fs->q (fs.getD t []))->∀f∈fs,q f:=λ{q} h f d=>by
  obtain⟨j,k,rfl⟩:=xbZ.1 d;simp_all
 have b:=Q9 (p:=p) W a;have hd:C (jr p a) (X a-1)≠0:=by
  obtain h|h:=b.nl
  ·lia
  ·simp_all
 have l:=b.nn<|X a-1;have hc:=b.lt<|X a-1;refine⟨c λt ht=>(g1 t ht).2.fp W,c λt ht=>by have:=(g1 t ht).1;lia,?_,QN W hc⟩;rw[xca W,xbU W];unfold C;rw[UV,xaa W];rfl
theorem oj{k:K}{fs:N (N J)}(hp:qO p=qR)(s:xf k a)(u:k<=40000)(v:X a<=66)(g:3000000<=fu):
 ∃b,vM fu a fs p=Z b/\(b=qR↔ia p a fs):=by
 obtain⟨D,w⟩:=zB hp;unfold vM;rw[Y<|Zs s u W w];simp only;by_cases h0:X a=0
 ·rw[yg];exact⟨_,O,λe=>kW e m6,λe=>kW h0 e.a0⟩
 ·rw[zF];by_cases hl:X (jr p a)=X a
  ·rw[yg];by_cases G:X a<X fs
   ·rw[yg];exact⟨_,O,λe=>kW e m6,λe=>by have:=e.fl;lia⟩
   ·rw[zF]
    obtain⟨r,e1,m⟩:=zU (f:=ku fu a fs p) (λx:J×N J=>∃i:K,x=((i:J),jr p a)/\i<=X fs/\(∀t,t<i->X (fs.getD t [])<=X a/\Tr p (fs.getD t []))/\∀t j,t<i->j<t->kM p (C<|fs.getD t []) (C<|fs.getD j [])) (λx=>X fs-x.1.toNat)
     (λr=>(r=.inr ()/\¬zmj p (X a) fs)\/(r=.inl (jr p a)/\zmj p (X a) fs)) (by
      rintro x L ⟨i,rfl,hi,g1,d⟩ y;unfold ku;simp only;by_cases h1:i<X fs
      ·rw[yg,Y O];simp only[Xs];rw[zp h1,F];by_cases H:X a<X (fs.getD i [])
       ·rw[yg];exact⟨_,O,.inl ⟨O,λh=>by have:=(h.1 i h1).1;lia⟩⟩
       ·obtain⟨b,b1,b2⟩:=Ui (fu:=fu) (l:=fs.getD i []) (p:=p) W g;rw[zF,Y b1]
        cases b with
        |false=>
         rw[E m6];exact⟨_,O,.inl ⟨O,λh=>kW (b2.2 (h.1 i h1).2) m6⟩⟩
        |true=>
         have hc:=b2.1 O;rw[P m6,yH,y9,F];obtain⟨q,q1,q2⟩:=MW (fu:=fu) (i:=i) (fs:=fs) hp (hc.fp W) W W W (λj c=>⟨(g1 j c).2.fp W,by have:=(g1 j c).1;lia⟩) g;rw[Y q1];rcases q2 with⟨rfl,q2⟩|⟨rfl,q2⟩
         ·simp only;rw[zb];refine y _ ⟨i+1,O,W,λt ht=> ?_,λt j ht c=> ?_⟩ (by show X fs-((i:J)+1).toNat<X fs-(i:J).toNat;lia)
          ·by_cases n:t=i
           ·rw[n];exact⟨W,hc⟩
           ·exact g1 t W
          ·by_cases n:t=i
           ·rw[n]at c⊢;exact q2 j c
           ·exact d t j W c
         ·exact⟨_,O,.inl ⟨O,λh=>q2 λj c=>h.2 i j h1 c⟩⟩
      ·rw[zF,Y O];simp only[xam,Z9];exact⟨_,O,.inr ⟨O,λt ht=>g1 t W,λt j ht c=>d t j W c⟩⟩) fu (0,jr p a) ⟨0,O,xah _,λt h=>kW h (xbc _),λt j h=>kW h (xbc _)⟩ (by show X fs-0<fu;lia)
    rw[Y e1];rcases m with⟨rfl,m⟩|⟨rfl,g1,d⟩
    ·exact⟨_,O,λe=>kW e m6,λe=>kW ⟨e.pl,e.cp⟩ m⟩
    ·simp only;obtain⟨hn,o,hd,z⟩:=zat hp v h0 hl g1;have M:X fs*66<=66*66:=xag _ W;have hc:=dU (p:=p) o;have A:=Q9 (p:=p) W a;have B:=jV p (Q4 p fs) [C (jr p a)<|X a-1];simp only[xaw,xbR]at B;rw[Y (jW hp hn o W m6),hl,(W:(X a:J)-1=((X a-1:K):J)),zb,yH,y9,F,hd,Y<|ZU hp (gN W fs) z W m7];simp only;rw[Y<|K7 hp (jz W _ _) A W W g];exact⟨_,O,λe=>⟨h0,hl,W,g1,d,WP e⟩,λe=>Ww e.pr⟩
  ·rw[zF];exact⟨_,O,λe=>kW e m6,λe=>kW e.al hl⟩
end
section
variable{a R:wF Zr}{B B1 fu K:wP}{q p:wN}{ds:wF wN}
theorem Cp(h:Hh a=0):1<=X (yx a)/\X (yx a)<=65:=by grind [Hh]
theorem zcM:qO 2=qR:=zfO ⟨m6,m6,λd h1 b=>by
 have:=xcb h1 h1;lia⟩
theorem zei(hc:yx a=a)(hp:Pm (M a))(b:Po (M a)):yF a=1:=by
 obtain⟨n,hn,hd⟩:=b.tp;have c:=λe=>hn.1<|Vo e n;have h1:=(WE c).uniq hn;have f:=hp _<|pK λk d=>yq d;have a3:yF a=if M (yx a) (X (yx a)-1)<0 then-((WG (M a) (X (yx a)):wP):J)else((WG (M a) (X (yx a)):wP):J):=O;grind
theorem Po.left{u v:Pz}(fu:Fs u)(h:Po (u*v))(hv:Po v):Po u:=by
 obtain⟨m,d,hp⟩:=h.tp;obtain⟨b,e,f⟩:=hv.tp;obtain⟨g,_⟩:=Qw d.nz O;obtain⟨a,c⟩:=Tp.ex fu g;obtain rfl:=(c.mul e).uniq d;rw[Uy c.2 e.2]at hp;exact⟨a,Int.pos_of_mul_pos_left hp f,c.2⟩
structure Rad(a R:N U):Prop where
 can:yx R=R
 pm:Pm (M R)
 ps:Po (M R)
 dv:∃g:Pz,Fs g/\M (xa a)=M R*g
 al:∀q,Ir q->Zd q (M a)->Zd q (M R)
 ln:R.length<=(yx a).length
 sf:∀q,Ir q->¬Zd (q*q) (M R)
structure zm9(a g R:N U):Prop where
 rad:Rad a R
 gc:yx g=g
 gp:Pm (M g)
 go:Po (M g)
 gd:∀d,Fs d->Pm d->(Zd d (M g)↔Zd d (M<|xa a)/\Zd d (dvp<|M<|xa a))
 eq:(M (xa a):Pz)=M R*M g
theorem zlE{Gc:N U->N U->V (N U)}{Dv:N U->N U->V (N U×J)}(hl:X a<=40)(h0:Hh a=0)(G:∀j,Bb B<|M a j)(m:∀j,Bb B1<|M a<|j+1)(hB:B<=6000)(H:∀{x y:N U},yx x=x->yx y=y->yF x=1->X y+1=X x->X x=X (yx a)->(∀j,Bb B<|M x j)->(∀j,Bb (B1+6)<|M y j)->∃g,Gc x y=Z g/\yx g=g/\Pm (M g)/\Po (M g)/\X g<=X x/\∀d,Fs d->Pm d->(Zd d (M g)↔Zd d (M x)/\Zd d (M y)))(L:∀{x y:N U},xf 94 x->xf 97 y->X x<=40->X y<=40->X (yx y)≠0->∃q e,Dv x y=Z (q,e)/\(e=0↔Zd (M y) (M x))/\(e=0->(M x:Pz)=M q*M y/\yx q=q/\X q<=X x)):
 ∃g R,Gc (xa a) (w8 (X (xa a)-1)<|dvp<|M<|xa a)=Z g/\Dv (xa a) g=Z (R,0)/\zm9 a g R/\∀j,Bb (B+X (yx a)+4) (M R j):=by
 have hv:=Cp h0;have hy:=ZZ a;obtain⟨p,hp⟩:∃p,p=xa a:=⟨_,O⟩;have f:yx p=p:=by rw[hp];exact jm a
 have hi:X p=X (yx a):=by rw[hp];exact Ye a
 obtain⟨n,o⟩:=VJ (a:=a) W;have v:=λq h1 z=>(Ck (a:=a) (d:=q) h1 z).2;rw[<-hp]at n o v⊢;have P:X (yx p)≠0:=by rw[f];lia
 have tp:=WE P;rw[f]at tp;have A:∀{b:wP}{j},Bb b (M a j)->Bb b (M p j):=λh=>by
  rw[hp,YC];exact h.le<|xbD _ _
 have l:∀j,Bb B (M p j):=λj=>A<|G j;have oP:xf 94 p:=by rw[<-f];exact xp λj=>(l j).bz W
 have hn:=zei f n o;obtain⟨d,hd⟩:∃d,d=w8 (X p-1) (dvp<|M p):=⟨_,O⟩;have hc:(M d:Pz)=dvp (M p):=Z0 λk=>by
  rw[hd];exact km (λk hk=>by unfold dvp;rw[yq W,xaz]) k
 have Q:yx d=d:=by rw[hd];exact(Jk _ _).symm
 have S:X d+1=X p:=by
  rw[hd,xJ];by_cases h1:X p=1
  ·rw[h1];rfl
  ·have:dg (dvp<|M p) (X p-1)=X p-1:=Ux (Nm _) (λk h1 z=>by lia) (.inr (by
    show((X p-1-1+1:wP):J)*M p (X p-1-1+1)≠0;rw[(W:X p-1-1+1=X p-1)];exact xcz W tp.1))
   lia
 have T:∀j,Bb (B1+6) (M d j):=λj=>by
  rw[hc];show Bb _ (((j+1:wP):J)*M p (j+1));by_cases r:j+1<64
  ·rw[xbB];exact(A<|m j).mul (show((j+1:wP):J).natAbs<2^6 by rw[xaH];exact r)
  ·rw[yq W,xaz];exact Bb.zero _
 obtain⟨g,g1,C,s,D,g5,t⟩:=H f Q hn S hi l T;obtain⟨Y,z2⟩:=(t _ (Fs.cf g) s).1<|Zd.refl _;have ht:X (yx g)≠0:=λe=>by
  obtain⟨j,r⟩:=s.nz;exact r<|Vo e j
 obtain⟨w,E,F⟩:=Y;have bG:∀j,Bb (B+X (yx a)+4) (M g j):=λj=>(N5 tp (Fs.cf g) E (by rw[F,zm]) W l j).mono W;have oG:xf 97 g:=by rw[<-C];exact xp λj=>(bG j).bz W
 obtain⟨R,e,r1,r2,r3⟩:=L oP oG W W ht;have he:e=0:=r2.2 ⟨w,E,F⟩;subst he;obtain⟨c,r5,r6⟩:=r3 O;have hu:Pm (M R):=(c▸n:Pm (M R*M g:Pz)).left;refine⟨g,R,by rw[<-hd];exact g1,r1,⟨⟨r5,hu,Po.left (Fs.cf R) (c▸o:Po (M R*M g:Pz)) D,⟨M g,Fs.cf g,by rw[<-hp];exact c⟩,λq i hz=> ?_,W,λq i=>zna tp (Fs.cf g) (Fs.cf R) c (λd u pd y1 y2=>(t d u pd).2 ⟨y1,by rw[hc];exact y2⟩) i⟩,C,s,D,λd u pd=>by rw[<-hp,t d u pd,hc],by rw[<-hp];exact c⟩,λj=>(N5 tp (Fs.cf R) (Fs.cf g) c W l j).mono W⟩;exact zlw tp (Fs.cf g) (Fs.cf R) c (by rw[<-hc];exact z2) i<|v q i.fs i.pm hz
theorem zgt(o:xf K a)(r:K<=100)(hl:X a<=40)(h0:Hh a=0)(h:∀j,Bb B<|M a j)(b:∀j,Bb B1<|M a<|j+1)(i:B<=6000)(hc:B1<=6000)(k:GcZ B (B1+6) (X (yx a)) (X (yx a)-1))(e:3000000<=fu):
 ∃g R,Vd fu (xa a) (w8 (X (xa a)-1)<|dvp<|M<|xa a)=Z g/\wK fu (xa a) g=Z (R,0)/\zm9 a g R/\∀j,Bb (B+X (yx a)+4) (M R j):=by
 have hd:=ZZ a
 exact zlE (Gc:=Vd fu) (Dv:=wK fu) hl h0 h b i (λ{x y} g1 c f l d m n=>Hc g1 c f W W m n (by rw[(W:X y=X (yx a)-1),d];exact k) W W e)
  (λ{x y} g1 c f l d=>Kf g1 c (by have:=xag (97+1) (W:X x+1<=41);lia) W W d e)
theorem nP(b:xf K a)(e:K<=100)(hl:X a<=40)(h0:Hh a=0)(f:∀j,Bb B<|M a j)(c:∀j,Bb B1<|M a<|j+1)(h:B<=6000)(hc:B1<=6000)(i:GcZ B (B1+6) (X (yx a)) (X (yx a)-1))(d:3000000<=fu):
 ∃g R,qT fu a=Z (R,0)/\zm9 a g R/\∀j,Bb (B+X (yx a)+4) (M R j):=by
 have hd:=ZZ a;have n:=Ye a;obtain⟨g,R,h1,k,l,m⟩:=zgt b e hl h0 f c h hc i d;refine⟨g,R,?_,l,m⟩;unfold qT;rw[Y<|dm b W W d,E h0,Y<|qd b,Y<|tC (Fg b) W W d,Y h1];unfold Ar;rw[Y (v:=R)<|by rw[Y k]]
theorem ry(d:xf K a)(e:K<=100)(hl:X a<=40)(h0:Hh a=0)(b:∀j,Bb B<|M a j)(c:B<=6000)(f:(B+7)*aY (X (yx a)-1)<=639000)(hc:(B+7)*aY (X (yx a))<=2400000)(h:3000000<=fu):
 ∃R,qT fu a=Z (R,0)/\Rad a R/\∀j,Bb (B+X (yx a)+4) (M R j):=by
 obtain⟨g,R,h1,i,k⟩:=nP (fu:=fu) d e hl h0 b (λj=>b<|j+1) c c (.inl ⟨B+7,W,W,f,hc⟩) h;exact⟨R,h1,i.rad,k⟩
theorem zaR:qO 65521=qR:=zfO ⟨m6,m6,λd h1 e=>by
 have c:d<256:=by
  refine xad λhn=> ?_;have:=xcb (W:256<=d) (W:256<=d);lia
 have b:∀d:wP,d<256->2<=d->65521%d≠0:=by decide+kernel
 exact b d c h1⟩
theorem Au(h:65521<=q):w9 fu q=Z (0,5):=by
 unfold w9;simp_all
theorem dc(h1:1<=q)(h:q<65521)(j:3000000<=fu):∃r,w9 fu q=Z (r,0)/\qO r=qR/\q<r/\∀s,q<s->s<r->qO s=I:=by
 unfold w9;obtain⟨r,c,r1,r2,k⟩:=zU (f:=Kc fu) (λi:J=>q<i/\i<=65521/\∀s,q<s->s<i->qO s=I) (λi=>(65521-i).toNat) (λr=>qO r=qR/\q<r/\∀s,q<s->s<r->qO s=I) (by
  rintro i L ⟨i1,i2,b⟩ d;unfold Kc;rw[Y<|Vh W]
  cases hp:qO i with
  |true=>rw[P m6];exact⟨_,O,hp,i1,b⟩
  |false=>
   have l:i≠65521:=λe=>by rw[e,zaR]at hp;cases hp
   rw[E m6,zb];refine d _ ⟨W,W,λs h1 g=> ?_⟩ W;by_cases e:s=i
   ·simp_all
   ·exact b s h1 W) fu (q+1) ⟨W,W,λs h1 g=>by lia⟩ W
 rw[zF,F,(W:max q 1=q),zb,Y c];simp_all
def Wo(R:N U)(p:J):Prop:=qO p=qR/\M R (X R-1)%p≠0/\kM p (M R) (dvp<|M R)
theorem Iq{x:J}{f g:Pz}(h:Cg p g (D x*f))(hc:kM p g (dvp g)):kM p f (dvp f):=by
 have h1:Cg p (dvp g) (D x*dvp f):=(zi0 h).trans (Cg.of (by
  rw[KJ,zoe];funext k;rw[zW,yE,zV,xcO]))
 obtain⟨s,t,fs,b,e⟩:=hc.congr h h1;refine⟨s*D x,t*D x,fs.mul<|Fs.pc x,b.mul<|Fs.pc x,?_⟩;rw[zd,zd];exact e
theorem sx(hp:0<p:=by lia)(b:0<X R:=by lia):X (jr p R)=X R↔M R (X R-1)%p≠0:=by
 have hn:=(Q9 hp R).nl;constructor
 ·intro h;obtain h1|h1:=hn
  ·lia
  ·rw[h,KP]at h1;exact h1
 ·intro h;have:=zjy p R;by_cases e:X (jr p R)=X R
  ·exact e
  ·exfalso;rw[<-KP,yB W]at h;lia
theorem zmH(hp:qO p=qR)(s:0<X R)(hl:X R<=65)(t:X (jr p R)=X R)(e:3000000<=fu:=by lia):
 ∃m b,zeT p (jr p R) m/\vF p m/\Xn fu (jr p R) p=Z (b,0)/\(b=qR↔kM p (C m) (dvp<|C m))/\uW fu (jr p R) p=if b=qR then Z (m,0)else Z ([],1):=by
 obtain⟨g,v⟩:=zB hp;have f:=Q9 (p:=p) W R;obtain⟨m,b,h1,c,h,i,j⟩:=tK (fu:=fu) hp f W W e;refine⟨m,b,h1,c,?_,i,j⟩;have hd:=h1.ln;obtain⟨x,x0,w,l,e1⟩:=W5 (fu:=fu) hp f W W e;obtain⟨z,c1,c2,A⟩:=sU (fu:=fu) hp c W e;have d:=SZ g f W l;have n:xM p (jr p R) [x]=m:=by
  obtain⟨_,y,_,o⟩:=d.cg;obtain⟨u,_,r,_⟩:=h1.cg;have hc:Cg p (C m) (D (u*y)*C (xM p (jr p R) [x])):=by
   rw[<-jR,zd];exact r.trans<|Cg.rfl.mul o
  have t1:=hc<|X m-1;have t2:=d.top;have t3:=d.ln;rw[c.top,zS,(W:X m-1=X (xM p (jr p R) [x])-1),t2,xcU]at t1;refine(c.fm.ext d.fm<|hc.trans ?_).symm;refine(Cg.mul (f':=D 1) (λk=> ?_) Cg.rfl).trans<|Cg.of<|zE _;unfold D;split
  ·exact t1.symm
  ·rfl
 rw[n]at e1;rw[<-h];unfold Xn JA;rw[Y e1,Y c1]
theorem P5{m:N J}(h:zeT p (jr p R) m):kM p (C m) (dvp<|C m)↔kM p (M R) (dvp<|M R):=by
 obtain⟨x,y,b,c⟩:=h.cg;exact⟨λhc=>Iq (b.trans<|Cg.rfl.mul<|iE p R) hc,λhc=>Iq ((iE p R).symm.trans c) hc⟩
theorem BO(f:yx R=R)(c:xf K R)(h:K<=300)(h0:Hh R=0)(g:3000000<=fu):∃b,Q8 fu R p=Z (b,0)/\(b=qR↔Wo R p):=by
 have i:=Cp h0;rw[f]at i;unfold Q8;obtain⟨y,j,_⟩:=cR (fu:=fu) c h W g;rw[Y j,h0];simp only[Xs];rw[Y<|Vh W]
 cases hp:qO p with
 |false=>
  rw[E m6];exact⟨_,O,λe=>kW e m6,λe=>by rw[e.1]at hp;cases hp⟩
 |true=>
  obtain⟨o,k⟩:=zB hp;rw[P m6,Y<|Zs c W W k];simp only;rw[Y<|zM c W W g,show w8 (X R) (M R)=R from f];by_cases d:X (jr p R)=X R
  ·obtain⟨m,b,h1,r,l,n,_⟩:=zmH (fu:=fu) hp W W d;rw[yg,Y l];refine⟨b,O,?_⟩;rw[n,P5 h1];exact⟨λhc=>⟨hp,(sx).1 d,hc⟩,λhc=>hc.2.2⟩
  ·rw[zF];exact⟨_,O,λe=>kW e m6,λe=>kW ((sx).2 e.2.1) d⟩
structure zgD(R:N U)(p:J)(l:N (N J)):Prop where
 el:∀g∈l,QY p g/\Tr p g/\g.length<=66
 pw:l.Pairwise λa b=>kM p (C a)<|C b
 cg:Cg p (M R) (D (M R<|R.length-1)*prZ (l.map C))
 ln:l.length<=R.length-1
theorem Sx{p:J}:∀{l:N (N J)},(∀g∈l,vF p g/\1<X g)->∃d,Mn (prZ<|l.map C) d/\X l<=d
 |[],_=>⟨0,⟨O,λk c=>by show D 1 k=0;unfold D;rw[zF]⟩,Nm _⟩
 |g::l,h=>by
  obtain⟨h1,e⟩:=h g<|IR;obtain⟨d,hd,hl⟩:=Sx λx b=>h x<|FS _ b;exact⟨_,zmu h1.mn hd,by rw[xaw];lia⟩
theorem zef(c:Wo R p)(N:1<X R)(hl:X R<=13)(hd:Rl ds)(w:X ds<=1000)(z:3000001<=fu):∃l,Xz fu (jr p R) p ds=Z (l,0)/\zgD R p l:=by
 obtain⟨hp,ht,hc⟩:=c;obtain⟨r,Q⟩:=zB hp;obtain⟨P,rfl⟩:=xaE (W:0<=p);have A:=(sx (p:=(P:J))).2 ht;obtain⟨m,b,h1,f,S,F,s⟩:=zmH (fu:=fu) hp W W A;have i:=(P5 h1).2 hc;rw[E<|F.2 i]at s;obtain⟨l,us,e1,T,e,h⟩:=BD (fu:=fu) (b:=b) hp (Q9 W R) W W hd w z h1 f s i;have U:=h1.ln;have hi:∀g∈l,X g<=66:=λg c=>by
  obtain⟨q,fq,G⟩:=e.dv c;have:=iB r f (e.mn g c).1 fq G;lia
 refine⟨l,e1,λg c=>⟨h g c,⟨λj _=>⟨(e.mn g c).1.fm.nn j,(e.mn g c).1.fm.lt j⟩,(e.mn g c).2,(e.mn g c).1.top⟩,hi g c⟩,?_,?_,?_⟩
 ·refine xdy.2 λ{a b} n=> ?_;have o:a∈l:=n.subset m7;have u:b∈l:=n.subset m7;refine(h a o).cop hp (h b u) (by have:=hi a o;lia) (by have:=hi b u;lia) λhn=> ?_;subst hn;have:=oT (p:=(P:J)) (n.map C) cr;refine kM.sq r (h a o) i<|Di.cg ?_ e.pr.symm;refine Di.trans ⟨D 1,Fs.pc 1,Cg.of ?_⟩ this;show C a*(C a*D 1)=_;rw[yu,zE]
 ·obtain⟨x,y,V,H⟩:=h1.cg;have v:=(iE (P:J) R).symm.trans H;have t:=v<|X R-1;rw[zS,(W:X R-1=X m-1),f.top,xcU,(W:X m-1=X R-1)]at t;refine v.trans<|Cg.mul (λk=> ?_) e.pr;unfold D;split
  ·exact t.symm
  ·rfl
 ·obtain⟨d,hd,Y⟩:=Sx e.mn;have L:=f.mn;have M:(1:J)%(P:J)=1:=xaJ m6 W;have t1:=e.pr d;rw[hd.1,M]at t1;by_cases hv:d<=X m-1
  ·lia
  ·rw[L.2 d W,xar]at t1;cases t1
theorem B4(G:yx R=R)(A:xf K R)(H:K<=300)(h0:Hh R=0)(M:1<X R)(hl:X R<=13)(hd:Rl ds)(hp:X ds<=1000)(Q:3000001<=fu):
 ∃p l,JE fu R ds=Z (p,l)/\((p=0/\∀q,¬Wo R q)\/(Wo R p/\zgD R p l)):=by
 have hi:∀{q r:J},(∀s,s<=q->¬Wo R s)->(∀s,q<s->s<r->qO s=I)->∀s,s<r->¬Wo R s:=λ{q r} h1 x s u d=>by
  by_cases h:s<=q
  ·simp_all
  ·have:=x s W u;rw[d.1]at this;grind
 have S:∀{q:J},65521<=q->(∀s,s<=q->¬Wo R s)->∀s,¬Wo R s:=λ{q} v h s d=>by
  have:=(zB d.1).2;exact h s W d
 obtain⟨s,u,p,l,rfl,T⟩:=zU (f:=Kb fu R ds) (λs:J×J×N (N J)×J×J=>(s.2.2.2.2=0->qO s.2.2.2.1=qR)/\0<=s.2.1/\((s.1=0/\s.2.1=0/\(s.2.2.2.2=0->∀q,q<s.2.2.2.1->¬Wo R q)/\(s.2.2.2.2≠0->∀q,¬Wo R q))\/(Wo R s.1/\zgD R s.1 s.2.2.1))) (λs=>if s.2.2.2.2=0 then(65522-s.2.2.2.1).toNat else 0)
  (λr=>∃p l,r=(p,l)/\((p=0/\∀q,¬Wo R q)\/(Wo R p/\zgD R p l))) (by
  rintro⟨b,n,out,q,e⟩ L ⟨i1,i2,k⟩ m
  simp only at i1 i2 k m
  unfold Kb
  simp only
  by_cases g:e=0
  ·have v:=i1 g
   obtain⟨q1,q2⟩:=zB v
   rw[E g]
   by_cases hn:n<5
   ·obtain⟨c,c1,c2⟩:=BO (fu:=fu) (p:=q) G A H h0 W
    rw[E hn,Y c1]
    have hc:∃r o,w9 fu q=Z (r,o)/\(o=0->qO r=qR/\q<r/\∀s,q<s->s<r->qO s=I)/\(o≠0->65521<=q):=by
     by_cases h:65521<=q
     ·exact⟨0,5,Au h,λh=>kW h m6,λ_=>h⟩
     ·obtain⟨r,h1,x⟩:=dc (fu:=fu) (q:=q) W W W;exact⟨r,0,h1,λ_=>x,λh=>kW O h⟩
    obtain⟨r,o,n1,n2,U⟩:=hc
    have w:(if o=0 then(65522-r).toNat else 0)<(if e=0 then(65522-q).toNat else 0):=by
     rw[E g];split
     ·have:=n2 (by assumption);lia
     ·lia
    cases c with
    |false=>
     have V:¬Wo R q:=λd=>by have:=c2.2 d;cases this
     rw[E m6,Y n1]
     refine m _ ⟨λh=>(n2 h).1,i2,?_⟩ w
     rcases k with⟨i,y,C,D⟩|j
     ·have F:∀s,s<=q->¬Wo R s:=λs u d=>by
       by_cases h:s=q
       ·rw[h]at d;exact V d
       ·exact C g s W d
      exact .inl ⟨i,y,λh=>hi F (n2 h).2.2,λh=>S (U h) F⟩
     ·exact .inr j
    |true=>
     have d:=c2.1 O
     obtain⟨t,t1,t2⟩:=zef (fu:=fu) d M hl hd hp Q
     rw[P m6,zb,Y<|Zs A W W q2]
     simp only
     rw[Y t1]
     simp only
     by_cases z:b=0
     ·rw[E z,Y n1]
      exact m _ ⟨λh=>(n2 h).1,by show 0<=n+1;lia,.inr ⟨d,t2⟩⟩ w
     ·have j:Wo R b/\zgD R b out:=by
       rcases k with⟨i,_⟩|j
       ·exact kW i z
       ·exact j
      rw[P z]
      split
      ·rw[Y n1]
       exact m _ ⟨λh=>(n2 h).1,by show 0<=n+1;lia,.inr ⟨d,t2⟩⟩ w
      ·rw[Y n1]
       exact m _ ⟨λh=>(n2 h).1,by show 0<=n+1;lia,.inr j⟩ w
   ·rw[P hn]
    refine⟨_,O,b,out,O,?_⟩
    rcases k with⟨i,y,_⟩|j
    ·lia
    ·exact .inr j
  ·rw[P g]
   refine⟨_,O,b,out,O,?_⟩
   rcases k with⟨i,y,C,D⟩|j
   ·exact .inl ⟨i,D g⟩
   ·exact .inr j) fu (0,0,[],2,0) ⟨λ_=>zcM,xfV 0,.inl ⟨O,O,λ_ q v d=>by have:=(zB d.1).1;simp only at v;lia,λh=>kW O h⟩⟩ (by
   show(if(0:J)=0 then((65522:J)-2).toNat else 0)<fu
   rw[E O]
   lia)
 refine⟨p,l,?_,T⟩;unfold JE;obtain⟨r,r1,r2,r3,r4⟩:=dc (fu:=fu) (q:=1) m6 m6 W;have:r=2:=by
  by_cases h:r=2
  ·exact h
  ·have h5:=(zB r2).1;have:=r4 2 m6 W;rw[zcM]at this;cases this
 subst this;rw[Y r1];simp only;rw[Y u]
end
section
variable{fu K Y:wP}{a b R:wF Zr}
theorem zbD(f g:wP->J):∀n,HJ f g n= -1\/HJ f g n=0\/HJ f g n=1
 |0=> .inr (.inl O)
 |n+1=>by
  unfold HJ;split
  ·exact zbD f g n
  ·lia
theorem PW(a b:N U):JB a b= -1\/JB a b=0\/JB a b=1:=by grind [JB,zbD]
theorem BH(f:xf K a)(g:xf K b)(k:yx a=a)(l:yx b=b)(p:K<=40000)(hd:X a<=1000)(q:X b<=1000)(d:3000000<=fu):XT fu a b=Z (decide<|JB a b<0):=by
 unfold XT;rw[za<|zM f W W d,za<|zM g W W d,show w8 (X a) (M a)=a from k,show w8 (X b) (M b)=b from l];have hc:JB a b=if X a=X b then HJ (M a) (M b) (X a) else if X a<X b then-1 else 1:=O;by_cases hl:X a=X b
 ·rw[E hl]at hc;rw[yg,zb,za (v:=if JB a b=0 then Sum.inl ()else Sum.inr (decide<|JB a b<0))]
  ·obtain h|h|h:=PW a b<;>rw[h]<;>rfl
  ·rw[hc];refine zC (λs:J=>∃n:wP,s=(n:J)-1/\n<=X a/\HJ (M a) (M b) n=HJ (M a) (M b) (X a)) (λs=>(s+1).toNat) _ ?_ _ _ ⟨X a,O,Nm _,O⟩ (by show((X a:J)-1+1).toNat<fu;lia);rintro s L ⟨n,rfl,hn,c⟩ m;unfold fT
   cases n with
   |zero=>
    rw[zF,<-c];rfl
   |succ n=>
    have o:=f.get n;have ob:=g.get n;rw[(W:((n+1:wP):J)-1=(n:J)),yg,yn,F,yn,F,za<|YE (lF.of o W) (lF.of ob W) d,Qi,Qi];rw[show HJ (M a) (M b) (n+1)=if M a n=M b n then HJ (M a) (M b) n else if M a n<M b n then-1 else 1 from O]at c;by_cases e:M a n=M b n
    ·rw[E e]at c;rw[E<|xU.2 e,zb];exact m _ ⟨n,O,W,c⟩ W
    ·rw[P e]at c;rw[P λh=>e<|xU.1 h];unfold kK;by_cases i:M a n<M b n
     ·rw[E i]at c⊢;rw[<-c,E m6];rfl
     ·rw[P i]at c⊢;rw[E (W:M b n<M a n),<-c,P m6];rfl
 ·rw[P hl]at hc;rw[zF,hc];by_cases j:X a<X b
  ·rw[E j,yg];rfl
  ·rw[P j,zF];rfl
theorem rZ(c:xf K a)(d:xf K b)(e:yx a=a)(f:yx b=b)(g:K<=40000)(hc:X a<=1000)(hd:X b<=1000)(h:3000000<=fu):j8 fu a b=Z (JB a b):=by grind [j8,za,BH,WQ,PW]
theorem zk2:Od3 JB Gd:=⟨λx y z _ _ _ h1 d e=>by
 have f:=TU (a:=x) (b:=y) (c:=z) (by have:=WQ x y;lia) (by have:=WQ y z;lia);have:=WQ x z;lia,λx y _ _ h1 d=>by
 have:=WQ x y;lia⟩
def BdY(R:N U)(Y:wP):Prop:=∃r:wP,Y=(r+1)*2^(X R-1)/\(r:J)*r<td (M R) (X R)/\td (M R) (X R)<=((r:J)+1)*(r+1)
theorem zgT(c:yx R=R)(e:xf K R)(f:K<=300)(h0:Hh R=0)(g:3000000<=fu):∃Y,vE fu R=Z (yK (Y:wP),0)/\BdY R Y:=by
 have d:=Cp h0;have hc:=X3 (show R=w8 (X R) (M R)from c.symm) (by rw[c]at d;lia);obtain⟨y,h1,h⟩:=cR e f (by rw[c]at d;lia) g;obtain⟨r,rfl,i,j⟩:=h h0;rw[c]at h1 i j d;have hd:=My (n:=X R) ⟨X R-1,W,hc⟩;refine⟨_,by rw[h1,h0],r,O,?_,?_⟩
 ·lia
 ·grind
theorem zn6{x y:wP}(h:x*x<=y*y):x<=y:=by
 refine xad λhn=> ?_;have:=xcf (W:y<x) (W:y<x);lia
theorem zra{M:J}(k:0<X R)(ht:Tp (cf R) (X R-1))(hp:0<cf R (X R-1))(f:BdY R Y)(l:2*((Y:J)*cf R (X R-1))<M):Bdz M (cf R):=λu v b fu hv e j=>by
 obtain⟨r,rfl,_,g⟩:=f;obtain⟨h,_⟩:=Qw ht.nz e;obtain⟨a,c⟩:=Tp.ex fu h;have hc:a+b=X R-1:=by
  have:=c.mul hv;rw[<-e]at this;exact this.uniq ht
 have i:(v b*u j).natAbs<=(r+1)*2^(X R-1):=by
  refine zn6 ?_;have m:((v b*u j).natAbs*(v b*u j).natAbs:wP)=(v b*u j*(v b*u j)).natAbs:=(xcl _ _).symm;have n:(((r+1)*2^(X R-1)*((r+1)*2^(X R-1)):wP):J)=4^(X R-1)*(((r:J)+1)*(r+1)):=by
   have:(4:J)^(X R-1)=2^(X R-1)*2^(X R-1):=by rw[(m6:(4:J)=2*2),Int.mul_pow]
   grind
  have h0:=Xd<|v b*u j;have o:v b*u j*(v b*u j)<=4^(X R-1)*(((r:J)+1)*(r+1)):=by
   have d:=mig c hv e j;rw[hc,(W:X R-1+1=X R)]at d;exact Int.le_trans d<|xaW g<|Int.pow_nonneg m6
  lia
 have p:(((r+1)*2^(X R-1):wP):J)*1<=(((r+1)*2^(X R-1):wP):J)*cf R (X R-1):=xaW W W;lia
theorem zfJ(k:yx R=R)(e:xf K R)(l:K<=300)(hl:0<X R)(hc:X R<=65)(i:vE fu R=Z (yK (Y:wP),0))(f:Bz 1000 (Y:J))(d:3000000<=fu):Jx fu R=Z (decide<|1000<bl (2*((Y:J)*M R (X R-1))).natAbs):=by
 have b2:Bz 1 2:=by unfold Bz;decide
 have ob:=e.get<|X R-1;have j:=e.bz<|X R-1;have g:=f.mul j;have c:=b2.mul g;unfold Jx;rw[za i];simp only;rw[za<|yw m6 d,(W:(X R:J)-1=((X R-1:wP):J)),zb,yn,F,za<|ya (f.ok m6) (lF.of ob W) d,zt,Qi,za<|ya (b2.ok m6) (g.ok W) d,zt,zt,za<|Vz (yJ _) (by have:=c.len;lia) (by have:=c.len;lia),show A (yK<|2*((Y:J)*M R (X R-1))).2=(2*((Y:J)*M R (X R-1))).natAbs from zY _];by_cases h:1000<bl (2*((Y:J)*M R (X R-1))).natAbs
 ·grind
 ·grind
theorem zjA{n k:wP}(h:bl n<=k):n<2^k:=by grind [DS,xac,xai]
theorem zeE{p:J}(hp:qO p=qR)(x:yx R=R)(l:xf K R)(y:K<=300)(hl:0<X R)(hi:X R<=65)(n:vE fu R=Z (yK (Y:wP),0))(hd:Bz 1000 (Y:J))(i:bl (2*((Y:J)*M R (X R-1))).natAbs<=1000)(c:3000000<=fu):
 ∃k:wP,Vf fu R p=Z (k:J)/\1<=k/\k<=1000/\2*((Y:J)*M R (X R-1))<p^k:=by
 obtain⟨z,A⟩:=zB hp;obtain⟨E,o⟩:∃E,E=1000:=⟨_,O⟩;have i:=zjA (k:=E) (by rw[o];exact i);have b2:Bz 1 2:=by unfold Bz;decide
 have ob:=l.get<|X R-1;have q:=l.bz<|X R-1;have m:=hd.mul q;have d:=b2.mul m;have t:Bz 1 p:=by unfold Bz;rw[Nat.pow_one];lia
 obtain⟨T,g⟩:∃T,T=2*((Y:J)*M R (X R-1)):=⟨_,O⟩;have u:∀k:wP,((2^k:wP):J)<=p^k:=λk=>by
  obtain⟨P,rfl⟩:=xaE (W:0<=p);have:=xeh (W:2<=P) k;have e:((P^k:wP):J)=(P:J)^k:=m7
  rw[<-e];lia
 obtain⟨r,v,k,rfl,k1,k2,k3⟩:=zU (f:=QJ fu p<|yK T) (λs:J×U=>∃k:wP,s=((k:J),yK<|p^k)/\1<=k/\k<=1000) (λs=>1000-s.1.toNat) (λr=>∃k:wP,r=(k:J)/\1<=k/\k<=1000/\T<p^k) (by
  rintro s L ⟨k,rfl,k1,k2⟩ w;unfold QJ;simp only;have j:=tH hp k2;rw[za<|YE (j.ok m6) ((g▸d).ok W) c (by have:=j.len;lia) (by have:=(g▸d:Bz _ T).len;lia),zt,zt];by_cases h:T<p^k
  ·have hc:kK (p^k) T=1:=by unfold kK;rw[zF,iq h]
   rw[hc,ir m6];exact⟨_,O,k,O,k1,k2,h⟩
  ·have B:k<1000:=by
    refine xad λhn=> ?_;obtain rfl:k=E:=W
    have:=u k;rw[<-g]at i;lia
   have hc:kK (p^k) T<=0:=by
    unfold kK;split
    ·decide
    ·first|decide|(rw[ir h];decide)
   rw[iq hc,za<|yw ⟨W,W⟩ c,za<|ya (j.ok m6) (t.ok m6) c,zt,zt,zb,<-xbS];exact w _ ⟨k+1,O,W,W⟩ (by show 1000-((k:J)+1).toNat<1000-(k:J).toNat;lia)) fu (1,yK p) ⟨1,by rw[xbS,xck,xdh];rfl,W,W⟩ (by show 1000-(1:J).toNat<fu;lia)
 refine⟨k,?_,k1,k2,by rw[<-g];exact k3⟩;unfold Vf;rw[za n];simp only;rw[za<|yw m6 c,(W:(X R:J)-1=((X R-1:wP):J)),zb,yn,F,za<|ya (hd.ok m6) (lF.of ob W) c,zt,Qi,za<|ya (b2.ok m6) (m.ok W) c,zt,zt,<-g,za<|yw ⟨W,W⟩ c,za v]
end
section
variable{R a:wF Zr}{fu K B:wP}{ds:wF wN}
theorem Ru{R:N U->N J->Prop}:∀{us:N (N U)}{fs:N (N J)},EN R us fs->∃xs:N Lx,us=xs.map (·.1)/\fs=xs.map (·.2)/\∀x∈xs,R x.1 x.2
 |[],[],_=>⟨[],O,O,λ_ h=>kW h H1⟩
 |u::us,f::fs,h=>by
  obtain⟨xs,e1,b,c⟩:=Ru h.2;refine⟨(u,f)::xs,by rw[e1];rfl,by rw[b];rfl,λx hx=> ?_⟩;obtain rfl|hx:=xal.1 hx
  ·exact h.1
  ·simp_all
def zi6(R:N U):Prop:=∃Y,BdY R Y/\1000<bl (2*((Y:J)*M R (X R-1))).natAbs
theorem BdY.uniq{Y f:wP}(h:BdY R Y)(g:BdY R f):Y=f:=by
 obtain⟨r,rfl,h1,b⟩:=h;obtain⟨s,rfl,g1,d⟩:=g;have c:∀{r s:wP}{S:J},r*r<S->S<=(s+1)*(s+1)->¬s<r:=λ{r s S} h1 b e=>by
  have:((s:J)+1)*(s+1)<=r*r:=Int.mul_le_mul W W W W;lia
 grind
theorem Br(s:yx R=R)(pm:Pm (M R))(ps:Po (M R))(H:xf K R)(hK:K<=200)(hl:X R<=11)(hd:Rl ds)(hV:X ds<=1000)(Q:3000300<=fu):
 ∃l b,Jo fu R ds=Z (l,b)/\(b=qR↔X R<2\/(¬zi6 R/\∃p,Wo R p))/\(b=qR->(∀g∈l,Gd g)/\M R=prZ (l.map λg=>(M g:Pz))/\l.Pairwise (λa b=>JB a b<0)/\X l<=12):=by
 have hJ:X (yx R)≠0:=λe=>by
  obtain⟨j,hj⟩:=pm.nz;exact hj<|Vo e j
 have T:=WE hJ;rw[s]at hJ T;have hB:0<M R (X R-1):=by
  obtain⟨m,m1,m2⟩:=ps.tp;rw[<-m1.uniq T];exact m2
 unfold Jo;by_cases h2:X R<2
 ·rw[yg];refine⟨[],qR,O,⟨λ_=> .inl h2,λ_=>O⟩,λ_=>⟨λg u=>kW u H1,?_,List.Pairwise.nil,xah _⟩⟩;obtain⟨d,hd⟩:=((ot.tp T).2 W).ex;have z:M R (X R-1)=d:=by rw[hd,(W:X R-1=0)];exact E O
  rw[hd]at pm;obtain e|e:=AY pm
  ·rw[hd,e];rfl
  ·lia
 ·have h0:Hh R=0:=by unfold Hh;rw[s,zF,zF]
  obtain⟨Y,hY,hA⟩:=zgT (fu:=fu) s H W h0 W;have hM:Bz 1000 (Y:J):=by
   obtain⟨r,rfl,z,U⟩:=hA;have h5:=ziq (K:=K) (f:=M R) H.bz (X R) W;have h6:Bz 401 (r:J):=by
    refine Bz.nat ?_;refine xaI (show r<=r*r from Nat.le_mul_self r) ?_;have h7:((r*r:wP):J)=(r:J)*r:=m7
    have h8:=h5.mono (W:K+K+1<=401);unfold Bz at h8;lia
   have h9:Bz 402 (((r+1:wP):J)):=(h6.add<|Bz.one' (k:=401) m6).le W;have hW:Bz 1 (((2^(X R-1):wP):J)):=Bz.nat (by
    rw[Nat.pow_one];exact xaI (xai m6 (W:X R-1<=10)) m6)
   have:=(h9.mul hW).mono (m6:402+1<=1000);rwa[<-Int.natCast_mul]at this
  have hN:zi6 R↔1000<bl (2*((Y:J)*M R (X R-1))).natAbs:=⟨λ⟨o,z1,z2⟩=>by rw[hA.uniq z1];exact z2,λh=>⟨Y,hA,h⟩⟩;rw[zF,za<|zfJ s H W W W hY hM W];by_cases u:1000<bl (2*((Y:J)*M R (X R-1))).natAbs
  ·rw[Ww u,E O];refine⟨[],I,O,⟨λh=>kW h m6,λh=> ?_⟩,λh=>kW h m6⟩;obtain h|h:=h
   ·exact kW h h2
   ·exact kW (hN.2 u) h.1
  ·rw[WF u,P m6];obtain⟨p,l,e1,hQ⟩:=B4 (fu:=fu) s H W h0 W W hd hV W;rw[za e1];simp only;rcases hQ with⟨hX,hZ⟩|⟨hE,G⟩
   ·rw[E hX];refine⟨[],I,O,⟨λh=>kW h m6,λh=> ?_⟩,λh=>kW h m6⟩;obtain h|⟨_,q,hq⟩:=h
    ·exact kW h h2
    ·exact kW hq<|hZ q
   ·obtain⟨hp,ht,hc⟩:=hE;obtain⟨p1,p2⟩:=zB hp;obtain⟨k,e2,k1,k2,k3⟩:=zeE (fu:=fu) hp s H W W W hY hM (xbx u) W;have hO:sG p (k:J)=(yK<|p^k,0):=by
     unfold sG;rw[cO ⟨hp,W,W⟩,xbb]
    have h1:=G.ln;rw[zF,za e2,za (Ze W),hO];simp only;have h':Vq fu R l p=Z ([],R,l):=by
     unfold Vq;rw[za (v:=(R,l))];obtain⟨n,hn⟩:∃n,fu=n+1:=⟨fu-1,W⟩;have:zg (QP fu p) (n+1) (R,l)=Z (R,l):=by
      rw[ux];unfold QP;simp only;rw[zF]
     rw[<-hn]at this;exact this
    rw[za h'];simp only;have hz:=(sx (p:=p)).2 ht;have hP:ia p (yx R) l:=by
     rw[s];refine⟨W,hz,W,λi hi=> ?_,λi j hi hj=> ?_,?_⟩
     ·have V:=HS (l:=l) hi;refine⟨?_,(G.el _ V).2.1⟩;obtain⟨q,fq,hq⟩:Di p (C<|l.getD i []) (M R):=Di.cg ((bF cr<|xbH V).mul _<|Fs.pc _) G.cg.symm;have hT:=(G.el _ V).1.mn;obtain⟨x,L,b0⟩:=si hp ht 1|>λ⟨x,L⟩=>(⟨x,L,O⟩:∃x,p^1∣x*M R (X R-1)-1/\Ws=Ws);by_cases a0:X (l.getD i [])<=X R
      ·exact a0
      ·exfalso;have z:=hT.mn.zero p1 fq λk hk=>by rw[<-hq k,T.2 k (by have:=hT.ln;lia),xar]
       have U:=(hq.trans<|z.mul_zero_r _)<|X R-1;rw[zV,xar]at U;exact ht U
     ·have z:=xcY.1 G.pw j i W hi hj;rw[UV,UV,xaa hi,xaa (W:j<X l)];exact z.symm
     ·refine(jz (p:=p) W _ _).ext (Q9 W R) ((Yf p _ _).trans<|(Cg.mul (rq p l) Cg.rfl).trans<|Cg.trans ?_ (iE p R).symm);rw[kv,zm];refine Cg.trans (Cg.mul (λj=> ?_) Cg.rfl) G.cg.symm;rw[KP];unfold D;split
      ·exact xaT _ _
      ·rfl
    obtain⟨us,e,e3,e4,e5⟩:=AR (fu:=fu) (p:=p) (k:=(k:J)) (a:=R) (fs:=l) (H.mono W) W W;have he:e=0:=by
     refine xad λhF=> ?_;have hr:=oj (fu:=fu) (fs:=l) hp (H.mono (by lia:K<=250)) m6 (by lia:X R<=66) W;obtain⟨bb,b1,b2⟩:=hr;rw[b2.2<|by rw[s]at hP;exact hP]at b1;have:=zg8 (H.mono (by lia:K<=250)) W W W W e3;unfold zgE at this;rw[E hp,s,zF,E b1]at this;exact hF this
    obtain⟨hG,_⟩:=e4 he;rw[xbb]at hG;have a1:=hG.up;obtain⟨xs,rfl,rfl,L⟩:=Ru a1;have hF:xs.map (·.2)≠[]:=λe=>by
     have z:=G.cg<|X R-1;rw[e,show prZ ([].map C)=D 1 from O,yu]at z;have U:D (M R<|X R-1) (X R-1)=0:=zF;rw[U,xar]at z;exact ht z
    have hU:=hG.cg hF;rw[s,xdj]at hU;rw[xaj]at h1;have hC:Ch p k (M R) R xs [] 1:=by
     have hL:Lc p k (M R) (X R-1) xs:=⟨hp,k1,λx hH=>⟨L x hH,(G.el _<|xbH hH).1,(G.el _<|xbH hH).2.2⟩,(xeD (R:=λa b=>kM p (C a)<|C b) (f:=λx:Lx=>x.2)).1 G.pw,T,W,hB,ht,pm,hU⟩;exact⟨hL,k2,s,H.mono W,hl,zra W T hB hA k3,Ls.one hL,by rw[xbR];lia,(zE _).symm,λg u=>kW u H1⟩
    obtain⟨out,o1,o2,o3,o4⟩:=Sk (fu:=fu) hC W;rw[yg,za e3];simp only;rw[za o1,va (by simp only[xbR];lia),F,xbO];obtain⟨r,s1,s2,s3⟩:=NX (fu:=fu) (cmp:=λa2 a3=>j8 fu a2 a3) (c:=JB) (S:=Gd) (λx y L hy=>rZ L.ok hy.ok L.can hy.can m6 (by have:=L.ln;lia) (by have:=hy.ln;lia) W) (t:=out) o3 W W;have hI:M R=prZ (r.map λg=>(M g:Pz)):=by rw[o4];exact Sc<|s2.symm.map _
    have hw:∀g∈r,Gd g:=λg u=>o3 g<|s2.mem_iff.1 u;rw[za s1];refine⟨r,qR,O,⟨λ_=> .inr ⟨λh=>u<|hN.1 h,p,hp,ht,hc⟩,λ_=>O⟩,λ_=>⟨hw,hI,?_,by rw[s2.length_eq];lia⟩⟩;refine(xdy.2 λ{a b} hs=> ?_);have z:¬JB b a<0:=(xdy.1<|s3 zk2) hs;have ha:a∈r:=hs.subset m7;have hb:b∈r:=hs.subset m7;have U:=WQ a b;by_cases h5:JB a b=0
    ·exfalso;have a4:=zeq (hw a ha).can (hw b hb).can h5;subst a4;obtain⟨m,w,hS,V⟩:=hC.lc.sf;have hD:=oT (p:=p) (hs.map λg=>(M g:Pz)) λf Q=>by
      obtain⟨g,_,rfl⟩:=xat.1 Q;exact Fs.cf g
     rw[<-hI]at hD;have a5:Di p ((M a:Pz)*M a) (C m):=by
      refine Di.trans ⟨D 1,Fs.pc 1,Cg.of ?_⟩<|hD.trans ⟨D w,Fs.pc w,V⟩;show(M a:Pz)*(M a*D 1)=_;rw[yu,zE]
     have a6:=hw a ha;have a7:Zd (M a) (M R):=by
      rw[hI];obtain⟨A,B,e6⟩:=xev ha;rw[e6,xaU,xbT,vz];refine Zd.mul _ (Fs.prZ λf Q=> ?_)<|Zd.left<|Fs.prZ λf Q=> ?_
      ·obtain⟨g,_,rfl⟩:=xat.1 Q;exact Fs.cf g
      ·obtain⟨g,_,rfl⟩:=xat.1 Q;exact Fs.cf g
     obtain⟨v,fv,hv⟩:=a7;have h6:=hC.ls (M a) v (Fs.cf a) fv (by rw[hv,zm]) a6.ir.dg;obtain⟨x,a8⟩:∃x,x∈own p (M a) xs:=by
      cases a9:own p (M a) xs with
      |nil=>rw[a9]at h6;exact kW h6 m6
      |cons x t=>exact⟨x,IR⟩
     obtain⟨h7,h8⟩:=bN.1 a8;exact hS.apart (Fs.cf a) (Fs.cf a) a5 (xbH h7) h8 h8
    ·lia
theorem BU{q:N U}{m:wP}(x:xf K a)(T:K<=50)(l:Tp (M a) m)(V:m<=11)(hd:X a<=40)(y:∀j,Bb B<|M a j)(hB:B<=3000)(d:Gd q)(z:xf 50 q)(A:3000000<=fu):
 ∃n:wP,XE fu a q=Z (n:J)/\n<=11/\Mu (M q) (M a) n:=by
 have hc:X (yx q)≠0:=λe=>by
  obtain⟨j,C⟩:=d.ir.pm.nz;exact C<|Vo e j
 have o:=WE hc;rw[d.can]at o;have hl:=d.ln;have ho:1<=X q-1:=by refine xad λh=>d.ir.dg<|(ot.tp o).2 W
 have fp:=λn=>d.ir.fs.pp n;have one:∀(t:N U) (n:wP),xf 60 t->X t<=40->M a=(M t:Pz)*pp (M q) n->∃b e,wK fu t q=Z (b,e)/\(e=0->xf 60 b/\X b<=40/\M a=(M b:Pz)*pp (M q) (n+1))/\(e≠0->Mu (M q) (M a) n):=λt n o1 l1 e1=>by
  obtain⟨b,e,d1,d2,d3⟩:=Kf (fu:=fu) o1 z (by have:=xag (50+1) (W:X t+1<=41);lia) W W hc A;refine⟨b,e,d1,λc=> ?_,λc=>⟨M t,Fs.cf t,e1,λF=>c<|d2.2 F⟩⟩;obtain⟨f1,f2,f3⟩:=d3 c;have v:M a=(M b:Pz)*pp (M q) (n+1):=by
   rw[e1,f1,zd];show _=_*(pp (M q) n*M q);rw[zm<|pp (M q) n]
  refine⟨?_,W,v⟩;rw[<-f2];exact xp λj=>(N5 l (Fs.cf b) (fp _) v W y j).bz W
 obtain⟨q1,w,c1,c2,G⟩:=one a 0 (x.mono W) hd (yu _).symm;have p:∀{t:N U}{n:wP},M a=(M t:Pz)*pp (M q) n->n<=m:=λ{t n} e=>by
  obtain⟨H,np⟩:=Qw l.nz e;obtain⟨i,hi⟩:=Tp.ex (Fs.cf t) H;have Q:∀n,Tp (pp (M q) n) (n*(X q-1)):=λn=>by
   induction n with
   |zero=>rw[xct];exact⟨show D 1 0≠0 by decide,λk hk=>by show D 1 k=0;unfold D;rw[zF]⟩
   |succ n g=>rw[xbl,xcH];exact g.mul o
  have h1:=hi.mul<|Q n;rw[<-e]at h1;have u:=h1.uniq l;have h3:=xcp n (W:0<X q-1);lia
 obtain⟨s,S,n,rfl,n1,n2⟩:=zU (f:=JW fu q) (λs:J×N U×J=>∃n:wP,s.1=(n:J)/\(s.2.2=0->xf 60 s.2.1/\X s.2.1<=40/\M a=(M s.2.1:Pz)*pp (M q) (n+1))/\(s.2.2≠0->n<=11/\Mu (M q) (M a) n)) (λs=>if s.2.2=0 then 20-s.1.toNat else 0) (λr=>∃n:wP,r=(n:J)/\n<=11/\Mu (M q) (M a) n) (by
  rintro⟨i,t,e⟩ L ⟨n,hn,h1,u⟩ g;simp only at hn h1 u g;subst hn;unfold JW;simp only;by_cases c:e=0
  ·obtain⟨o1,l1,e1⟩:=h1 c;have hp:=p e1;obtain⟨b,e',d1,d2,d3⟩:=one t (n+1) o1 l1 e1;rw[E c,zb,Y d1];refine g _ ⟨n+1,by show(n:J)+1=((n+1:wP):J);lia,d2,λh=>⟨W,d3 h⟩⟩ ?_;rw[E c];split
   ·show 20-((n:J)+1).toNat<20-(n:J).toNat;lia
   ·show 0<20-(n:J).toNat;lia
  ·rw[P c];exact⟨_,O,n,O,u c⟩) fu (0,q1,w) ⟨0,O,c2,λh=>⟨W,G h⟩⟩ (by
  show(if w=0 then 20-(0:J).toNat else 0)<fu;split<;>lia)
 refine⟨n,?_,n1,n2⟩;unfold XE;rw[Y c1];simp only;rw[Y S]
def zlP(R:N U):Prop:=X R<2\/(¬zi6 R/\∃p,Wo R p)
theorem znY(h:Rad a R):Zd (M R) (M a):=by
 obtain⟨g,b,e⟩:=h.dv;rw[<-lu a,e];exact(Zd.left b).mul _<|Fs.pc _
def ri(w:xf K a)(S:K<=50)(hl:X a<=40)(h0:Hh a=0)(ht:X (yx a)<=11)(y:∀j,Bb B<|M a j)(T:B<=3000)(r1:qT fu a=Z (R,0))(r2:Rad a R)(V:∀j,Bb (B+X (yx a)+4)<|M R j)(hd:Rl ds)(ho:X ds<=1000)(d:3000300<=fu):
 (zlP R/\∃l,vI fu a ds=Z (yK<|yF a,l,0)/\FL (M a) l/\X l<=12/\∀x∈l,Gd x.1/\x.2<=11)\/
  (¬zlP R/\vI fu a ds=Z ((I,[]),[],6)):=by
 have hr:=Cp h0;have z:=WE (a:=a) W;have oR:xf 50 R:=by rw[<-r2.can];exact xp λj=>(V j).bz W
 have⟨l,b,C,E,s3⟩:=Br (fu:=fu) r2.can r2.pm r2.ps oR m6 (by have:=r2.ln;lia) hd ho d
 cases b with
 |false=>
  refine .inr ⟨λh=>(by have:=E.2 h;cases this),?_⟩;unfold vI;rw[Y r1];simp only[Xs];rw[Y C];rfl
 |true=>
  have⟨g1,G,g3,g4⟩:=s3 O;refine .inl ⟨E.1 O,?_⟩;have H:∀q∈l,Zd (M q) (M a):=λq c=>by
   refine Zd.trans ?_<|znY r2;rw[G];have⟨A,D,e6⟩:=xev c;rw[e6,xaU,xbT,vz];refine Zd.mul _ (Fs.prZ λf d=> ?_)<|Zd.left<|Fs.prZ λf d=> ?_;obtain⟨g,_,rfl⟩:=xat.1 d;exact Fs.cf g;obtain⟨g,_,rfl⟩:=xat.1 d;exact Fs.cf g
  have hk:∀q∈l,∃n:wP,XE fu a q=Z (n:J)/\n<=11/\Mu (M q) (M a) n:=λq c=>by
   have k:=g1 q c;refine BU w S z W hl y T k ?_ W;have⟨u,m,e⟩:=H q c;rw[<-k.can];exact xp λj=>(N5 z (Fs.cf q) m (by rw[e,zm]) W y j).bz W
  obtain⟨s,hs,out,rfl,o1,o2⟩:=zU (f:=WC fu a l) (λs:N (N U×J)×J×U×N (N U)=>∃(i:wP) (out:N (N U×J)),s=(out,(i:J),(I,[]),l)/\i<=X l/\out.map (·.1)=l.take i/\∀x∈out,∃n:wP,x.2=(n:J)/\n<=11/\Mu (M x.1) (M a) n) (λs=>X l-s.2.1.toNat)
   (λr=>∃out:N (N U×J),r=(out,(I,[]))/\out.map (·.1)=l/\∀x∈out,∃n:wP,x.2=(n:J)/\n<=11/\Mu (M x.1) (M a) n) (by
   rintro s L ⟨i,out,rfl,hi,h1,p⟩ ih
   unfold WC
   simp only
   by_cases hc:i<X l;have hm:l.getD i []∈l:=by rw[UV,xaa hc];exact xbI hc
   have⟨n,n1,n2,o⟩:=hk _ hm
   have hv:X out=i:=by have:=Z4 xaK h1;rw[xaj,xan]at this;lia
   rw[yg,Y O]
   simp only[Xs]
   rw[zp hc,F,Y n1,va (by simp only[xaw,xbR];lia),F,zb]
   refine ih _ ⟨i+1,_,O,W,?_,λx hx=> ?_⟩ (by show X l-((i:J)+1).toNat<X l-(i:J).toNat;lia);rw[xaU,h1,xeZ,xaa hc,UV,xaa hc]
   rfl;obtain hx|hx:=xab.1 hx
   exact p x hx;obtain rfl:=xaf.1 hx
   exact⟨n,O,n2,o⟩;rw[zF,Y O]
   simp only[xam,Z9]
   obtain rfl:i=X l:=W
   rw[xbQ]at h1
   exact⟨_,O,out,O,h1,p⟩) fu ([],0,(I,[]),l) ⟨0,[],O,xah _,by rw[List.take_zero];rfl,λx hx=>kW hx H1⟩ (by show X l-(0:J).toNat<fu;lia)
  have v:∀x∈out,x.1∈l:=λx hx=>by rw[<-o1];exact xbH hx
  refine⟨out,?_,⟨λx hx=> ?_,λq c pq hz=> ?_,?_⟩,?_,λx hx=>⟨g1 _<|v x hx,?_⟩⟩;unfold vI;rw[Y r1];simp only[Xs];rw[Y C];simp only;rw[P m6,Y hs];simp only;rw[Y<|uu w];have k:=g1 _<|v x hx;have⟨n,n1,n2,o⟩:=o2 x hx;refine⟨k.can,k.ir,k.ps,?_,by rw[n1,xbb];exact o⟩;by_cases hn:n=0
  exfalso;subst hn;have⟨u,m,e,Q⟩:=o;rw[show pp (M x.1) 0=pc 1 from O,yu]at e;rw[<-e]at Q;exact Q<|H _<|v x hx;lia;have h1:=r2.al q c hz;rw[G]at h1;have⟨f,hp,p⟩:=c.prz (λf d=>by obtain⟨g,_,rfl⟩:=xat.1 d;exact Fs.cf g) h1;obtain⟨g,t,rfl⟩:=xat.1 hp;have e:=c.eq (g1 g t).ir pq (g1 g t).ps p;rw[<-o1]at t;obtain⟨x,hx,rfl⟩:=xat.1 t;exact⟨x,hx,e.symm⟩;have:=g3;rw[<-o1]at this;exact xeD.1 this;have:=Z4 xaK o1;rw[xaj]at this;lia;have⟨n,n1,n2,o⟩:=o2 x hx;lia
theorem oz(b:xf K a)(e:K<=50)(hl:X a<=40)(h0:Hh a=0)(hc:X (yx a)<=11)(c:∀j,Bb B<|M a j)(f:B<=3000)(g:(B+7)*aY (X (yx a)-1)<=639000)(h:(B+7)*aY (X (yx a))<=2400000)(hd:Rl ds)(i:X ds<=1000)(k:3000300<=fu):
 ∃R,qT fu a=Z (R,0)/\Rad a R/\(∀j,Bb (B+X (yx a)+4)<|M R j)/\
  ((zlP R/\∃l,vI fu a ds=Z (yK<|yF a,l,0)/\FL (M a) l/\X l<=12/\∀x∈l,Gd x.1/\x.2<=11)\/
   (¬zlP R/\vI fu a ds=Z ((I,[]),[],6))):=by
 obtain⟨R,r1,r2,d⟩:=ry (fu:=fu) b W hl h0 c W g h W;exact⟨R,r1,r2,d,ri b e hl h0 hc c f r1 r2 d hd i k⟩
end
theorem zmZ:Rl []:=λk=>by
 rw[yB<|xah k];lia
def zqH(l:N (N U×J)):R:=prM<|l.map λx=>((M x.1:R),x.2.toNat)
theorem FL.prod{f:R}{l:N (N U×J)}(h:FL f l)(d:Fs f)(g:Nz f):∃c,c≠0/\f=D c*zqH l:=by
 refine zlq d g ?_ (λx b=> ?_) λq i j m=> ?_
 ·refine xeD.2<|h.so.imp_of_mem λ{x y} b a h1 e=> ?_;have:=Cx (h.el x b).1 (h.el y a).1 λk=>WS e k;rw[this]at h1;have:=WQ y.1 y.1;lia
 ·obtain⟨y,a,rfl⟩:=xat.1 b;obtain⟨_,n,o,_,p⟩:=h.el y a;simp_all
 ·obtain⟨y,a,e⟩:=h.al q i j m;exact⟨_,xbH a,e⟩
section
variable{fu d b j k h:wP}{r:d7}{β:wP->uP}
theorem Aw{r:d7}(h:X r.1≠0):xX fu (Z r)=Z I:=by
 unfold xX;rw[P m7,Y O,zF]
theorem zeh{a c:N Qr}{q:N Qr}(h:X r.1≠0)(h1:xQ fu r a c=Z q):wc fu (Z r) a c=Z (q,0):=by
 unfold wc;rw[Y<|Aw h,P m6,Y O,Y h1]
theorem zdk{a c:N Qr}{q:N Qr}(h:X r.1≠0)(h1:wO fu r a c 1=Z q):vZ fu (Z r) a c=Z (q,0):=by
 unfold vZ;rw[Y<|Aw h,P m6,Y O,Y h1]
def zec{a c:N Qr}{q:N Qr}(h:X r.1≠0)(h1:wO fu r a c (-1)=Z q):vU fu (Z r) a c=Z (q,0):=by unfold vU;rw[Y<|Aw h,P m6,Y O,Y h1]
theorem zds{a:N Qr}{q:N Qr}(h:X r.1≠0)(h1:xk fu r a=Z q):vY fu (Z r) a=Z (q,0):=by
 unfold vY;rw[Y<|Aw h,P m6,Y O,Y h1]
theorem zo0{k:K}{c:uP}(hc:c≠0)(h:Hx k c):Hx k (1/c):=by
 have⟨D,g,a,n,h1,f⟩:=h;have i:((D:K):uP)≠0:=λe=>by have:=xdr.1<|e.trans (by rfl:(0:uP)=((0:K):uP));lia
 have hn:n≠0:=λe=>by
  rw[e]at h1;grind
 by_cases l:0<n;refine⟨n.natAbs,W,f,D,?_,by rw[xaH];exact a⟩;have e:((n.natAbs:K):uP)=(n:uP):=by
  have:(n.natAbs:J)=n:=W
  rw[<-this];rfl
 rw[e,<-h1];show _=(D:uP);grind;refine⟨n.natAbs,W,f,-(D:J),?_,by rw[xey,xaH];exact a⟩;have e:((n.natAbs:K):uP)= -(n:uP):=by
  have:(n.natAbs:J)= -n:=W
  rw[<-xeW,<-this];rfl
 rw[e,xeW,<-h1];show _= -(D:uP);grind
theorem zpe{k:K}{c:uP}(h:Hx k c):Ht k [c]:=by
 obtain⟨D,a,e,n,h1,f⟩:=h;refine⟨D,a,e,λi=> ?_⟩
 cases i with
 |zero=>exact⟨n,h1,f⟩
 |succ i=>exact⟨0,by rw[Yd m7];grind,xbY _⟩
theorem C6(F:Fld r d b β)(y:d<=4)(z:b<=16)(A:Irq d β)(h1:X r.1≠0)(B:r.2=((xaL<|d+1).map β).map cq){a:N Qr}(D:∀x∈a,Qo x)(hl:X a<=32)(E:Ht k (vl a))(n:k+X a*(b+1)<=500)(V:b<=k)(g:3000000<=fu):
 ∃f,xk fu r a=Z (f.map cq)/\bg d f/\xz (yc (d+1) β) (yG f) (yG<|vl a)/\Ht 500 f/\
  ((f=[]/\xZ fu (Z r) a=Z ([],3))\/
   (f≠[]/\∃q,xZ fu (Z r) a=Z (q.map cq,0)/\bg d q/\Ht 220000 q/\xz (yc (d+1) β) (λt=>yG q t*yG (vl a) t) (λ_=>1))):=by
 have⟨f,i,l,o,p⟩:=JV (fu:=fu) F D W E W g;refine⟨f,i,l,o,UU.mono p n,?_⟩;have hn:=F.d1;by_cases m:X f=0
 left;refine⟨xbs.1 m,?_⟩;unfold xZ;rw[Y<|Aw h1,ir m6,Y O,Y O,Y i,xaj,yg];right;refine⟨λe=>m (by rw[e];rfl),?_⟩;obtain⟨_,w1,c,ts,rfl,s,H,u,v,L⟩:=zdC (fu:=fu) (h:=500) F y z A (wk<|vl a) W W l.1 l.2 (UU.mono p n) o m B g;have⟨C,M⟩:∃C,C=135*(b+1):=⟨_,O⟩;have n1:Yh 500 4=80660:=m6
 have n2:Th 500 (135*(b+1)) 4<=132000:=by rw[<-M];simp only[Th,Yh];lia
 have hc:=zo0 s<|UU.hx u 0;have hi:dn c:=(UU.hx u 0).hs W;have o1:Ht (Th 500 (135*(b+1)) 4) (vl<|ts.map cq):=by rw[qC];exact v
 have o2:Ht (Yh 500 4) (vl [cq<|1/c]):=by show Ht _ [qv<|cq<|1/c];rw[Zb];exact zpe hc
 have⟨q,q1,q2,w,Q⟩:=AG (fu:=fu) F (UE v W) (c:=[cq<|1/c]) (λx R=>by rw[xaf.1 R];exact(hc.hs W).rs) (by rw[xaj];have:=H.1;lia) m7 o1 o2 W g;refine⟨q,?_,q2,UU.mono Q W,?_⟩;unfold xZ;have hd:jw fu 1=Z (cq 1):=gw m6 g;have S:dn 1:=⟨by show Bz _ 1;exact Bz.one' m6,by show Bz _ 1;exact Bz.one' m6⟩;rw[Y<|Aw h1,ir m6,Y O,Y O,Y i,xaj,zF,Y hd,Y w1];simp only;rw[Y hd,show(0:J)=((0:K):J)from O,zp m7,ze];show G (JL fu (cq 1)<|cq c) _=_;rw[Y<|rF S.rs hi.rs (by rw[Zb];exact s) g,Zb,Zb];simp only;rw[Y O,Y q1]
 have e1:∀t,yG (vl [cq<|1/c]) t=1/c:=λt=>by
  show 0+qv (cq<|1/c)*t^0=_;rw[Zb,xfY];grind
 rw[qC]at w;have T:=xz.mul (F':=yG<|vl a) (G':=yG<|vl a) (P:=yc (d+1) β) (wk _) ((wk ts).mul<|wk<|vl [cq<|1/c]) w xz.refl;have U:=(L.smul<|1/c).symm;exact T.trans<|(xz.of λt=>by rw[e1];grind).trans<|U.trans (xz.of λt=>by show 1/c*c=1;grind)
theorem zk9{P:N U}(hc:yx P=P)(hp:Pm (M P))(oP:xf 1 P)(hl:2<=X P)(o:X P<=5)(i:∀j,Bb 10<|M P j)(m:3000300<=fu):∃c e,wB fu P=Z (c,e)/\(c=qR->e=0->Ir (M P)):=by
 have h0:Hh P=0:=by unfold Hh;rw[hc,zF,zF]
 have p:aY (X (yx P)-1)<=99:=by
  rw[hc];have:X P=2\/X P=3\/X P=4\/X P=5:=W
  obtain h|h|h|h:=this<;>rw[h]<;>decide
 have q:aY (X (yx P))<=99:=by
  rw[hc];have:X P=2\/X P=3\/X P=4\/X P=5:=W
  obtain h|h|h|h:=this<;>rw[h]<;>decide
 obtain⟨R,r1,r2,s,h⟩:=oz (fu:=fu) (ds:=[]) (B:=10) (K:=1) oP m6 W h0 (by rw[hc];lia) i m6 W W zmZ (xah _) m;rcases h with⟨_,l,e,hd,_⟩|⟨_,e⟩
 ·by_cases h1:X l=1
  ·obtain⟨x,rfl⟩:=xcF.1 h1;by_cases f:x.2=1
   ·refine⟨qR,0,?_,λ_ _=> ?_⟩
    ·unfold wB;rw[Y e];show(if x.2=1 then Z (qR,(0:J))else Z (I,0))=_;rw[E f]
    ·obtain⟨g1,g,t,u,v⟩:=hd.el x<|xaf.2 O;obtain⟨c,c0,a⟩:=hd.prod (Fs.cf P) hp.nz;have e1:zqH [x]=M x.1:=by
      show pp (M x.1:Pz) x.2.toNat*D 1=_;rw[f,zm,zE];exact zE _
     rw[e1]at a;have w:=hp c.natAbs λk=>by rw[a,zS];exact xbv (Int.natAbs_dvd.2<|xer c)<|xcd ..
     have n:c=1\/c= -1:=W
     obtain rfl|rfl:=n
     ·rw[a,zE];exact g
     ·rw[a];exact g.neg
   ·refine⟨I,0,?_,λh=>nomatch h⟩;unfold wB;rw[Y e];show(if x.2=1 then Z (qR,(0:J))else Z (I,0))=_;rw[ir f]
  ·refine⟨I,0,?_,λh=>nomatch h⟩;unfold wB;rw[Y e];show(if(X l:J)=1 then _ else Z (I,(0:J)))=_;rw[zF]
 ·refine⟨I,6,?_,λh=>nomatch h⟩;unfold wB;rw[Y e];rfl
structure FM(m:N U)(r:d7)(d:K)(β:K->uP):Prop where
 mn:r.1=xa m
 ln:(xa m).length=d+1
 fl:Fld r d 10 β
 d4:d<=4
 by_:r.2=((xaL<|d+1).map β).map cq
 pr:Ir (M<|xa m)
 at_:∀i,β i*(M (xa m) d:uP)=(M (xa m) i:uP)
 ne:r.1.length≠0
theorem FM.tp{m:N U}(M:FM m r d β):Tp (cf<|xa m) d:=by
 have h:=M.ln;have:=WE (a:=xa m) (by rw[jm];lia);rwa[jm,h]at this
theorem FM.irq{m:N U}(M:FM m r d β):Irq d β:=zoM M.pr M.tp M.at_
theorem FK{m:N U}(u:xf 1 m)(hl:X m<=5)(z:∀j,Bb 10<|M m j)(A:3000300<=fu):
 ∃q e,Qc fu m=Z (q,e)/\(e=0->∃r d β,q=Z r/\FM m r d β):=by
 unfold Qc;have B:=Ye m;have S:=ZZ m;rw[Y<|qd u,zF];by_cases C:X (xa m)<2
 ·rw[yg];exact⟨_,_,O,λh=>nomatch h⟩
 ·rw[zF];obtain⟨P,f⟩:∃P,P=xa m:=⟨_,O⟩;rw[<-f]at B C⊢;have oP:xf 1 P:=f▸Fg u;have o:yx P=P:=f▸jm m;have v:=(VJ (a:=m) W).1;have l:∀j,Bb 10 (M P j):=λj=>by rw[f,YC];exact xaI (xbD _ _)<|z j
  rw[<-f]at v;obtain⟨c,e,D,G⟩:=zk9 o v oP W W l A;rw[Y D];simp only;by_cases p:e=0
  ·rw[E p]
   cases c with
   |false=>rw[E m6];exact⟨_,_,O,λh=>nomatch h⟩
   |true=>
    rw[ir m6];obtain⟨d,hd⟩:∃d,X P=d+1:=⟨X P-1,W⟩;have H:Tp (M P) d:=by have:=WE (a:=P) (by rw[o];lia);rwa[o,hd]at this
    have w:=H.1;have T:((M P d:J):uP)≠0:=λh=>w<|xfW.1<|h.trans (by rfl:(0:uP)=((0:J):uP));obtain⟨β,g⟩:∃β:wP->uP,β=λi=>xfZ (M P i) (M P d):=⟨_,O⟩;have n:∀i,β i*(M P d:uP)=(M P i:uP):=λi=>by rw[g];show xfZ _ _*_=_;rw[Rat.divInt_eq_div];grind
    have hc:β d=1:=by have:=n d;grind
    have t:zg (U4 fu P) fu (0,((P,[]),([]:N Qr)))=Z ((P,[]),((xaL<|d+1).map β).map cq):=by
     refine zC (λs=>∃i:wP,i<=d+1/\s=((i:J),((P,[]),((xaL i).map β).map cq))) (λs=>d+1-s.1.toNat) _ ?_ fu _ ⟨0,W,O⟩ (by show d+1-(0:J).toNat<fu;lia);rintro _ L ⟨i,hi,rfl⟩ Q;unfold U4;simp only;by_cases h:i=d+1
     ·rw[zF,Y O];simp only[xam,Z9];rw[h]
     ·rw[yg,Y O];simp only[Xs];have e1:(X P:J)-1=(d:J):=W
      have l1:=λj (R:j<X P)=>oP _<|zdv R;have x:=l1 i W;have y:=l1 d W;rw[yn,F,e1,zb,yn,F,Y (U5 (K:=1) x.1 y.1 x.2 y.2 m6),ir (show¬zv (P.getD d (I,[]))=0 from w)];simp only;rw[va (by simp;lia),F,zb];refine Q _ ⟨i+1,W,?_⟩ (by show d+1-((i:J)+1).toNat<d+1-(i:J).toNat;lia);rw[xdm,xaU,xaU,g];rfl
    rw[Y t];refine⟨_,_,O,λ_=>⟨(P,((xaL<|d+1).map β).map cq),d,β,O,⟨f,by rw[<-f];exact hd,⟨m7,λi hi=> ?_,hc,?_,W,W,m6⟩,W,O,by rw[<-f];exact G O p,by rw[<-f];exact n,by show X P≠0;lia⟩⟩⟩
    ·show(((xaL<|d+1).map β).map cq).getD i ((I,[]),[])=_;rw[cd (by simp;lia),th W]
    ·refine⟨(M P d).natAbs,W,l d,λi=> ?_⟩;by_cases V:0<=M P d
     ·refine⟨M P i,?_,l i⟩;rw[<-n i];have:(((M P d).natAbs:wP):uP)=(M P d:uP):=by
       have h:(((M P d).natAbs:wP):J)=M P d:=W
       rw[<-h];rfl
      rw[this]
     ·refine⟨-M P i,?_,by rw[xey];exact l i⟩;rw[xeW,<-n i];have:(((M P d).natAbs:wP):uP)= -(M P d:uP):=by
       have h:(((M P d).natAbs:wP):J)= -M P d:=W
       rw[<-xeW,<-h];rfl
      rw[this];grind
  ·rw[ir p];exact⟨_,_,O,λh=>nomatch h⟩
end
section
variable{fu:wP}
def zi5(z:U):Prop:=X z.2<=1/\(X z.2=1->z.2.getD 0 0<=1000)
theorem zmW{m:N U}(d:(Ty.l (.p .b (.l .u))).ok m)(h:∀j,j<X m->zi5 (m.getD j (I,[]))):xf 1 m/\∀j,Bb 10 (M m j):=by
 refine⟨zlH d<|zfQ λj a=>(h j a).1,λj=> ?_⟩;by_cases a:j<X m;have⟨h1,c⟩:=h j a;unfold Bb M;rw[vW];have⟨l,hl⟩:∃l,l=(m.getD j (false,[])).2:=⟨_,O⟩;rw[<-hl]at h1 c⊢
 match l,h1,c with
 |[],_,_=>decide
 |[x],_,c=>
  have e:=AF x;grind
 rw[yq W];unfold Bb;decide
def ze7(n k:K)(l:N Qr):Prop:=X l<=n/\∀j,j<X l->(l.getD j ((I,[]),[])).1.2.length<=k/\(l.getD j ((I,[]),[])).2.length<=k
theorem zjz{k j:K}{x:uP}{l:N uP}(b:Hx j x)(hl:Ht k l):Ht (j+k) (x::l):=by
 have⟨D,c,a,n,h1,d⟩:=b;have⟨E,e,E1,f⟩:=hl;refine⟨D*E,xdn c e,by rw[xbd];exact xcf a E1,λi=> ?_⟩
 cases i with
 |zero=>exact⟨n*E,by rw[xbh,<-h1];show x*_=x*(D:uP)*(E:uP);grind,yN d<|by skip;exact E1⟩
 |succ i=>
  have⟨u,g,h⟩:=f i;exact⟨D*u,by rw[xbh,<-g];show y7 l i*_=(D:uP)*(y7 l i*(E:uP));grind,yN (by skip;exact a) h⟩
theorem znN{x:Qr}{k:K}(h:Qz k x)(b:1<=k):Hx (64*k) (qv x):=by
 have e:18446744073709551616^k=2^(64*k):=by rw[xbM]
 have h1:A x.1.2<2^(64*k):=by rw[<-e];exact xac (vA h.1)<|xai m6 h.2.1
 have a:A x.2<2^(64*k):=by rw[<-e];exact xac (vA h.2.2.1)<|xai m6 h.2.2.2
 by_cases h0:A x.2=0
 ·refine⟨1,m6,Nat.one_lt_two_pow W,0,?_,xbY _⟩;unfold qv;rw[h0,Rat.mkRat_zero];grind
 ·refine⟨A x.2,W,a,zv x.1,?_,by rw[vW];exact h1⟩;unfold qv;rw[Rat.mkRat_eq_div];have:((A x.2:K):uP)≠0:=λe=>by have:=xdr.1<|e.trans (by rfl:(0:uP)=((0:K):uP));lia
  grind
theorem zh2{k:K}(a:1<=k):∀{l:N Qr},(∀x∈l,Qz k x)->Ht (64*k*X l+1) (vl l)
 |[],_=>⟨1,m6,Nat.one_lt_two_pow W,λi=>⟨0,by rw[Yd<|by simp[vl]];grind,xbY _⟩⟩
 |x::l,h=>by
  have:=zjz (znN (h x<|IR) a)<|zh2 a λy b=>h y<|FS _ b;show Ht _ (qv x::vl l);rw[xaw];grind
def zoA{n k:K}{l:N Qr}(f:1<=k)(hl:(Ty.l (.p (.p .b (.l .u)) (.l .u))).ok l)(h:ze7 n k l):(∀x∈l,Qz k x)/\Ht (64*k*n+1) (vl l):=by
 have h1:∀x∈l,Qz k x:=λx c=>by
  have⟨i,hi,e⟩:=xbZ.1 c;have a:=h.2 i hi;rw[UV,xaa hi,e]at a;have d:=hl.2 x c;exact⟨FJ d.1.2,a.1,FJ d.2,a.2⟩
 exact⟨h1,UU.mono (zh2 f h1) (by have:=xaB (64*k) h.1;lia)⟩
theorem sQ{l:N Qr}(hl:X l<=1000)(h:∀x∈l,Qo x)(j:3000000<=fu):JF fu l l=Z qR:=by
 unfold JF;rw[E O,Y (v:=.inl ())];refine zC (λs:J=>∃i:K,s=(i:J)/\i<=X l) (λs=>X l-s.toNat) _ ?_ fu 0 ⟨0,O,xah _⟩ (by show X l-(0:J).toNat<fu;lia);rintro _ L ⟨i,rfl,hi⟩ e;unfold fL;by_cases d:i<X l
 ·have c:=CV h i;have e1:=Bu (fu:=fu) (a:=(l.getD i ((I,[]),[])).1) (b:=(l.getD i ((I,[]),[])).1) (by have:=c.2.1;lia) (by have:=c.2.1;lia);have f:=QK (fu:=fu) (a:=(l.getD i ((I,[]),[])).2) (b:=(l.getD i ((I,[]),[])).2) (by have:=c.2.2.2;lia) (by have:=c.2.2.2;lia);have g:Ju fu (l.getD i ((I,[]),[])) (l.getD i ((I,[]),[]))=Z qR:=by
   unfold Ju;rw[Y e1,Ww O,E O,Y f,Ww O]
  rw[yg,zp d,F,zp d,F,Y g];rw[P m6,zb];exact e _ ⟨i+1,O,W⟩ W
 ·rw[zF]
end
section
variable{fu d k k':wP}{r:d7}{β:wP->uP}
structure Elm(d:K)(β:K->uP)(k:K)(q:N uP)(f:uP->uP):Prop where
 rd:bg d q
 kg:xz (yc (d+1) β) (yG q) f
 ht:Ht k q
structure dk(k:K)(a:N Qr):Prop where
 ok:∀x∈a,Qo x
 ln:a.length<=32
 ht:Ht k (vl a)
theorem Elm.opd{q:N uP}{f:uP->uP}(h:Elm d β k q f)(hd:d<=32)(a:k<=256000):dk k (q.map cq):=
 ⟨UE h.ht a,by rw[xaj];have:=h.rd.1;lia,by rw[qC];exact h.ht⟩
def zaQ{m:N U}(M:FM m r d β){a c:N Qr}(b:dk k a)(hc:dk k' c)(i:k+k'+1111<=250000)(e:3000000<=fu):∃q,wc fu (Z r) a c=Z (q.map cq,0)/\Elm d β (k+k'+1111) q λt=>yG (vl a) t*yG (vl c) t:=by have⟨q,h1,f,g,h⟩:=AG M.fl b.ok hc.ok b.ln hc.ln b.ht hc.ht W e;exact⟨q,zeh M.ne h1,f,g,h⟩
theorem zhC{m:N U}(M:FM m r d β){a c:N Qr}(b:dk k a)(hc:dk k' c)(i:k+k'+374<=250000)(e:3000000<=fu):∃q,vZ fu (Z r) a c=Z (q.map cq,0)/\Elm d β (k+k'+374) q λt=>yG (vl a) t+yG (vl c) t:=by have⟨q,h1,f,g,h⟩:=Ft M.fl b.ok hc.ok b.ln hc.ln b.ht hc.ht (.inl O) W e;exact⟨q,zdk M.ne h1,f,g.trans (xz.of λt=>by show _+(1:uP)*_=_;grind),h⟩
theorem znh{m:N U}(M:FM m r d β){a c:N Qr}(b:dk k a)(hc:dk k' c)(i:k+k'+374<=250000)(e:3000000<=fu):∃q,vU fu (Z r) a c=Z (q.map cq,0)/\Elm d β (k+k'+374) q λt=>yG (vl a) t-yG (vl c) t:=by have⟨q,h1,f,g,h⟩:=Ft M.fl b.ok hc.ok b.ln hc.ln b.ht hc.ht (.inr O) W e;exact⟨q,zec M.ne h1,f,g.trans (xz.of λt=>by show _+((-1:J):uP)*_=_;grind),h⟩
def zjd{m:N U}(M:FM m r d β){a:N Qr}(b:dk k a)(h:k+352<=250000)(c:3000000<=fu):∃q,vY fu (Z r) a=Z (q.map cq,0)/\Elm d β (k+352) q (yG<|vl a):=by have:=xag (10+1) b.ln;have⟨q,h1,e,f,g⟩:=JV M.fl b.ok (by have:=b.ln;lia) b.ht W c;exact⟨q,zds M.ne h1,e,f,UU.mono g W⟩
end
section
variable{d k:wP}{β:wP->uP}
def sX(n:K)(F:uP->uP->uP):Prop:=∃c:K->uP->uP,(∀i,Zz<|c i)/\∀x t,F x t=yc n (λi=>c i t) x
theorem Zz.zero:Zz λ_=>0:=Zz.c 0
theorem sX.mono{m n:K}{F:uP->uP->uP}:sX n F->n<=m->sX m F:=λ⟨c,hc,h⟩ a=>by
 refine⟨λi=>if i<n then c i else λ_=>0,λi=> ?_,λx t=> ?_⟩;show Zz (if i<n then c i else λ_=>0);split;grind;exact Zz.zero;have e1:=kD (f:=λi=>(if i<n then c i else λ_=>0) t) a (λi hi=>by rw[zF]) x;rw[h,e1];exact vG λi hi=>by rw[E hi]
theorem sX.add{n:K}{F G:uP->uP->uP}:sX n F->sX n G->sX n λx t=>F x t+G x t:=λ⟨c,hc,h⟩ ⟨e,a,g⟩=>⟨λi t=>c i t+e i t,λi=>(hc i).add<|a i,λx t=>by have:=h x t;rw[YM];grind⟩
theorem sX.smul{n:K}{F:uP->uP->uP}{f:uP->uP}(a:Zz f):sX n F->sX n λx t=>f t*F x t:=λ⟨c,hc,h⟩=>⟨λi t=>f t*c i t,λi=>a.mul<|hc i,λx t=>by have:=h x t;rw[vV];grind⟩
theorem sX.x{n:K}{F:uP->uP->uP}:sX n F->sX (n+1) λx t=>x*F x t:=λ⟨c,hc,h⟩=>by
 refine⟨λi=>if i=0 then λ_=>0 else c (i-1),λi=> ?_,λx t=> ?_⟩;show Zz (if i=0 then λ_=>0 else c (i-1));split;exact Zz.zero;grind;have e1:yc n (λi=>(if i+1=0 then λ_=>0 else c (i+1-1)) t) x=yc n (λi=>c i t) x:=vG λi _=>by skip;rfl
 rw[vS];grind
theorem sX.xn{n:K}{F:uP->uP->uP}(h:sX n F):∀m,sX (n+m) λx t=>x^m*F x t
 |0=>by have⟨c,hc,h⟩:=h;exact⟨c,hc,λx t=>by have:=h x t;grind⟩
 |m+1=>by have⟨c,hc,h⟩:=(h.xn m).x;exact⟨c,hc,λx t=>by have:=h x t;grind⟩
theorem sX.mul{m:K}{G:uP->uP->uP}(a:sX (m+1) G):∀(n:K) (f:K->uP->uP),(∀i,Zz<|f i)->sX (n+m) λx t=>yc n (λi=>f i t) x*G x t
 |0,f,_=>⟨λ_ _=>0,λ_=>Zz.zero,λx t=>by rw[iF];show(0:uP)*_=0;grind⟩
 |n+1,f,b=>by
  have⟨c,hc,h⟩:=((sX.mul a n f b).mono (m:=n+1+m) W).add (((a.xn n).smul<|b n).mono W);exact⟨c,hc,λx t=>by skip;show(yc n (λi=>f i t) x+f n t*x^n)*G x t=_;grind⟩
def iY(F:uP->uP->uP):Prop:=∃n,sX n F
theorem iY.self(n:K){f:K->uP->uP}(a:∀i,Zz<|f i):iY λx t=>yc n (λi=>f i t) x:=⟨n,f,a,λ_ _=>O⟩
theorem iY.add{F G:uP->uP->uP}:iY F->iY G->iY λx t=>F x t+G x t:=λ⟨m,h⟩ ⟨n,g⟩=>⟨max m n,(h.mono W).add<|g.mono W⟩
theorem iY.mul{F G:uP->uP->uP}:iY F->iY G->iY λx t=>F x t*G x t:=λ⟨m,f,a,h⟩ ⟨n,g⟩=>⟨m+n,by
 obtain⟨c,hc,e⟩:=sX.mul (g.mono<|xby n) m f a;exact⟨c,hc,λx t=>by rw[<-e];show F x t*G x t=yc m (λi=>f i t) x*G x t;rw[h]⟩⟩
theorem iY.t{f:uP->uP}(a:Zz f):iY λ_ t=>f t:=⟨1,λ_=>f,λ_=>a,λx t=>by rw[vS];show f t=f t+x*0;grind⟩
theorem iY.c(a:uP):iY λ_ _=>a:=iY.t<|Zz.c a
theorem iY.x:iY λx _=>x:=by
 have h1:sX 1 λ_ _=>(1:uP):=⟨λ_ _=>1,λ_=>Zz.c 1,λx t=>by rw[vS];show(1:uP)=1+x*0;grind⟩;obtain⟨c,hc,h⟩:=h1.x;exact⟨2,c,hc,λx t=>by rw[<-h];grind⟩
theorem iY.smul{F:uP->uP->uP}(a:uP)(h:iY F):iY λx t=>a*F x t:=(iY.c a).mul h
theorem iY.xn:∀m:K,iY λx _=>x^m
 |0=>by obtain⟨n,c,hc,h⟩:=iY.c 1;exact⟨n,c,hc,λx t=>by show x^0=_;rw[xfY];exact h x t⟩
 |m+1=>by obtain⟨n,c,hc,h⟩:=(iY.xn m).mul iY.x;exact⟨n,c,hc,λx t=>by show x^(m+1)=_;rw[Rat.pow_succ];exact h x t⟩
def qi(P:uP->uP)(F G:uP->uP->uP):Prop:=∃Q,iY Q/\∀x t,F x t-G x t=P t*Q x t
variable{P:uP->uP}{F G i8 F' G':uP->uP->uP}
theorem qi.of(h:∀x t,F x t=G x t):qi P F G:=⟨_,iY.c 0,λx t=>by skip;grind⟩
theorem qi.refl:qi P F F:=qi.of λ_ _=>O
theorem qi.symm:qi P F G->qi P G F:=λ⟨Q,h,e⟩=>⟨_,h.smul (-1),λx t=>by have:=e x t;grind⟩
theorem qi.trans:qi P F G->qi P G i8->qi P F i8:=λ⟨Q,h,e⟩ ⟨R,k,a⟩=>⟨_,h.add k,λx t=>by have:=e x t;grind⟩
theorem qi.add:qi P F G->qi P F' G'->qi P (λx t=>F x t+F' x t) λx t=>G x t+G' x t:=λ⟨Q,h,e⟩ ⟨R,k,a⟩=>⟨_,h.add k,λx t=>by have:=e x t;grind⟩
theorem qi.sub:qi P F G->qi P F' G'->qi P (λx t=>F x t-F' x t) λx t=>G x t-G' x t:=λ⟨Q,h,e⟩ ⟨R,k,a⟩=>⟨_,h.add<|k.smul (-1),λx t=>by have:=e x t;grind⟩
theorem qi.mul(a:iY F')(b:iY G):qi P F G->qi P F' G'->qi P (λx t=>F x t*F' x t) λx t=>G x t*G' x t:=λ⟨Q,h,e⟩ ⟨R,k,c⟩=>⟨_,(h.mul a).add<|b.mul k,λx t=>by have:=e x t;grind⟩
theorem qi.mono{f g:uP->uP}(m:K):xz P f g->qi P (λx t=>f t*x^m) λx t=>g t*x^m:=λ⟨Q,h,e⟩=>⟨_,(iY.t h).mul<|iY.xn m,λx t=>by have:=e t;grind⟩
theorem qi.coef{n:K}{f g:K->uP->uP}(h:qi P (λx t=>yc n (λi=>f i t) x) λx t=>yc n (λi=>g i t) x){i:K}(hi:i<n):xz P (f i) (g i):=by
 have⟨Q,⟨m,c,hc,l⟩,e⟩:=h;refine⟨if i<m then c i else λ_=>0,by split;exact hc i;exact Zz.zero,λt=> ?_⟩;have⟨N,r⟩:∃N,N=max n m:=⟨_,O⟩;have a:=Ly (n:=N) (f:=λj=>if j<n then f j t+ -1*g j t else 0) (g:=λj=>P t*(if j<m then c j t else 0)) (λx=>by
  have o:=kD (f:=λj=>if j<n then f j t+ -1*g j t else 0) (W:n<=N) (λj b=>by rw[zF]) x;have p:=kD (f:=λj=>if j<m then c j t else 0) (W:m<=N) (λj b=>by rw[zF]) x;have a3:yc n (λj=>if j<n then f j t+ -1*g j t else 0) x=yc n (λj=>f j t) x+ -1*yc n (λj=>g j t) x:=by rw[<-vV,<-YM];exact vG λj b=>by rw[E b]
  have a4:yc m (λj=>if j<m then c j t else 0) x=Q x t:=by rw[l];exact vG λj b=>by rw[E b]
  rw[o,a3,vV,p,a4];have:=e x t;grind) i W
 rw[E hi]at a;by_cases q:i<m;grind;rw[ir q]at a⊢;grind
end
section
variable{fu d k k':wP}{r:d7}{β:wP->uP}{m:wF Zr}
def jO(A:N (N Qr))(x t:uP):uP:=yc (X A) (λi=>yG (vl<|A.getD i []) t) x
def mm(l:N (N uP)):N (N Qr):=l.map λq=>q.map cq
theorem Mm{A:N (N Qr)}{i:K}(h:X A<=i:=by lia):A.getD i []=[]:=by rw[UV,xbA h];rfl
theorem X2{A:N (N Qr)}{n:K}(h:X A<=n)(x t:uP):jO A x t=yc n (λi=>yG (vl<|A.getD i []) t) x:=(kD h (λi hi=>by rw[Mm hi];rfl) x).symm
theorem gf(A:N (N Qr)):iY (jO A):=iY.self (X A) λi=>wk _
theorem Cl{A:N (N Qr)}{i:K}{q:N Qr}(h:i<X A)(x t:uP):jO (A.set i q) x t=jO A x t+(yG (vl q) t-yG (vl<|A.getD i []) t)*x^i:=by rw[X2<|by rw[xaP];exact Nm _];have:=za4 (f:=λi=>yG (vl<|A.getD i []) t) (v:=yG (vl q) t) (t:=x) h;show _=yc (X A) _ x+_;rw[<-this];refine vG λj a=> ?_;unfold OC;by_cases e:j=i;simp_all;grind
theorem K4(l:N (N uP))(i:K):(mm l).getD i []=(l.getD i []).map cq:=by
 unfold mm;rw[UV,UV,xco];cases l[i]? <;>rfl
theorem wY(l:N (N uP)):X (mm l)=X l:=xaj _
structure QO(k n:K)(A:N (N Qr)):Prop where
 el:∀a∈A,dk k a
 ln:A.length<=n
theorem dk.mono{a:N Qr}(h:dk k a)(b:k<=k'):dk k' a:=⟨h.ok,h.ln,UU.mono h.ht b⟩
theorem dk.nil:dk (k+1) []:=⟨λx a=>(H1 a).elim,m6,⟨1,m6,Nat.one_lt_two_pow W,λi=>⟨0,by show y7 [] i*_=_;unfold y7;grind,xbY _⟩⟩⟩
theorem QO.at{n:K}{A:N (N Qr)}(h:QO (k+1) n A)(i:K):dk (k+1) (A.getD i []):=by
 by_cases hi:i<X A
 ·rw[UV,xaa hi];exact h.el _<|xbI hi
 ·rw[Mm];exact dk.nil
structure Plm(d:K)(β:K->uP)(k:K)(l:N (N uP)):Prop where
 rd:∀i,bg d<|l.getD i []
 ht:∀i,Ht k<|l.getD i []
 tp:l.length≠0->l.getD (l.length-1) []≠[]
theorem Plm.op{l:N (N uP)}{n:K}(h:Plm d β k l)(hd:d<=32)(c:k<=256000)(hn:X l<=n):QO k n (mm l):=⟨λa f=>by
 obtain⟨q,g,rfl⟩:=xat.1 f;obtain⟨i,hi,e⟩:=xbZ.1 g;have h1:=h.rd i;have b:=h.ht i;rw[UV,xaa hi,xdb,e]at h1 b;exact⟨UE b c,by rw[xaj];have:=h1.1;lia,by rw[qC];exact b⟩,by rw[wY];exact hn⟩
theorem Vj{l:N (N uP)}{i:K}(h:X l<=i:=by lia):l.getD i []=[]:=by rw[UV,xbA h];rfl
theorem Plm.inj{l l':N (N uP)}(b:β d=1)(h:Plm d β k l)(j:Plm d β k' l')(e:qi (yc (d+1) β) (jO<|mm l) (jO<|mm l')):l=l':=by
 have⟨n,hn⟩:∃n,n=max (X l) (X l'):=⟨_,O⟩;have a:∀i,l.getD i []=l'.getD i []:=λi=>by
  by_cases hi:i<n;have:=qi.coef (n:=n) (f:=λi t=>yG (vl<|(mm l).getD i []) t) (g:=λi t=>yG (vl<|(mm l').getD i []) t) (P:=yc (d+1) β) (by
   have⟨Q,h1,c⟩:=e;exact⟨Q,h1,λx t=>by
    have:=c x t;rwa[X2 (n:=n) (by rw[wY];lia),X2 (n:=n)<|by rw[wY];lia]at this⟩) hi
  refine bg.inj b (h.rd i) (j.rd i) ?_;have e1:∀l:N (N uP),yG (l.getD i [])=λt=>yG (vl<|(mm l).getD i []) t:=λl=>by rw[K4,qC]
  simp_all;rw[Vj,Vj]
 have hl:X l=X l':=by
  rcases xfz (X l) (X l') with h1|h1|h1
  exact kW ((a _).symm.trans<|Vj)<|j.tp W
  exact h1;exact kW ((a _).trans<|Vj)<|h.tp W
 refine xdR hl λi h1 c=> ?_;have:=a i;simpa[UV,xaa h1,xaa c]using this
theorem Jm{q:N Qr}:xw fu q 0=Z (.inr q):=by unfold xw;rw[E O]
theorem TJ(M:FM m r d β){A:N (N Qr)}{n:K}(z:QO (k+1) n A)(hn:n<=1000)(C:k+1+352<=250000)(B:3000000<=fu):
 ∃l,zH fu (Z r) A=Z (.inr<|mm l)/\Plm d β (k+1+352) l/\X l<=X A/\qi (yc (d+1) β) (jO<|mm l) (jO A):=by
 have hc:=z.ln;obtain⟨t1,D,e1⟩:=zjd (fu:=fu) M (a:=[]) (dk.nil (k:=0)) m6 B;have o:∃y,zg (ZP fu (Z r) A) fu (0,So (X A) [])=Z y/\∃l,y=.inl (mm l)/\X l=X A/\∀i,i<X A->Elm d β (k+1+352) (l.getD i []) (yG<|vl<|A.getD i []):=by
  refine zU (λs=>∃(i:K) (l:N (N uP)),s=((i:J),mm l++So (X A-i) [])/\i<=X A/\X l=i/\∀j,j<i->Elm d β (k+1+352) (l.getD j []) (yG<|vl<|A.getD j [])) (λs=>X A-s.1.toNat) _ ?_ fu _ ⟨0,[],O,xah _,O,λj p=>kW p<|xbc _⟩ (by show X A-(0:J).toNat<fu;lia);rintro _ L ⟨i,l,rfl,hi,g1,b⟩ c;unfold ZP;simp only;by_cases h:i=X A
  ·rw[zF,Y O];simp only[xam,Z9];exact⟨_,O,l,by rw[h,xcx];simp,W,λj p=>b j W⟩
  ·rw[yg,Y O];simp only[Xs];obtain⟨q,q1,q2⟩:=zjd (fu:=fu) M (z.at i) C B;rw[yn,F,Y q1];simp only;rw[Y Jm];simp only;rw[zp (by simp[wY];lia),F,zb,Ot (by rw[wY,g1]) W];refine c _ ⟨i+1,l++[q],by simp[mm],W,by simp[g1],λj p=> ?_⟩ (by show X A-((i:J)+1).toNat<X A-(i:J).toNat;lia);by_cases e:j=i
   ·rw[e,UV,xbz W,g1,xcx];exact q2
   ·rw[UV,xbi W,<-UV];exact b j W
 obtain⟨_,r1,l,rfl,r2,u⟩:=o;have f:∃y,zg (ZT fu) fu (mm l)=Z y/\∃n,y=mm (l.take n)/\n<=X l/\(∀i,n<=i->l.getD i []=[])/\(n≠0->l.getD (n-1) []≠[]):=by
  refine zU (λs=>∃n,s=mm (l.take n)/\n<=X l/\∀i,n<=i->l.getD i []=[]) (λs=>X s) _ ?_ fu _ ⟨X l,by rw[xbQ],Nm _,λi hi=>Vj hi⟩ (by rw[wY];lia);rintro _ L ⟨n,rfl,g1,b⟩ c;have hl:X (mm<|l.take n)=n:=by rw[wY,xan];lia
  unfold ZT;rw[hl]
  cases n with
  |zero=>rw[zF];exact⟨_,O,0,O,g1,b,λh=>kW O h⟩
  |succ e=>
   have e1:((e+1:K):J)-1=(e:J):=W
   have G:(0:J)<((e+1:K):J):=W
   have H:(mm<|l.take<|e+1).getD e []=(l.getD e []).map cq:=by rw[K4,UV,xbF,yg,<-UV]
   rw[E G,e1,zb,yn,F,H,xaj];by_cases h0:X (l.getD e [])=0
   ·rw[yg,zb,yH,y9,F];refine c _ ⟨e,?_,W,λi hi=> ?_⟩<|by rw[xan,hl];lia
    ·unfold mm;rw[<-xeK,List.take_take,xci<|xby e]
    ·by_cases h:i=e
     ·rw[h];exact xbs.1 h0
     ·exact b i W
   ·rw[zF];exact⟨_,O,e+1,O,g1,b,λ_ h=>h0<|by rw[(W:e+1-1=e)]at h;rw[h];rfl⟩
 obtain⟨_,P,n',rfl,S,Q,R⟩:=f;have g:∀i,(l.take n').getD i []=l.getD i []:=λi=>by
  by_cases h:i<n'
  ·rw[UV,xbF,E h,<-UV]
  ·rw[Q i W,Vj<|by rw[xan];lia]
 have v:X (l.take n')=n':=by rw[xan];lia
 have hd:bg d []/\Ht (k+1+352) []:=⟨bg.nil d,(dk.nil (k:=k+352)).ht.mono W⟩;refine⟨l.take n',?_,⟨λi=> ?_,λi=> ?_,λh=> ?_⟩,W,?_⟩
 ·unfold zH;rw[Y D];simp only;rw[Y Jm];simp only;rw[yH,y9,F,Y r1];simp only;rw[Y P]
 ·rw[g];by_cases h:i<X A
  ·exact(u i h).rd
  ·rw[Vj];exact hd.1
 ·rw[g];by_cases h:i<X A
  ·exact(u i h).ht
  ·rw[Vj];exact hd.2
 ·rw[g,v];rw[v]at h;exact R h
 ·have w:∀i,xz (yc (d+1) β) (yG<|l.getD i []) (yG<|vl<|A.getD i []):=λi=>by
   by_cases h:i<X A
   ·exact(u i h).kg
   ·rw[Vj,Mm];exact xz.refl
  have step:∀n,qi (yc (d+1) β) (λx t=>yc n (λi=>yG (l.getD i []) t) x) (λx t=>yc n (λi=>yG (vl<|A.getD i []) t) x):=λn=>by
   induction n with
   |zero=>exact qi.refl
   |succ n c=>exact c.add<|qi.mono n<|w n
  refine qi.trans (qi.of λx t=> ?_)<|step (X A);rw[X2 (n:=X A)<|by rw[wY,v];lia];exact vG λi _=>by rw[K4,qC,g]
end
section
variable{fu d k k':wP}{r:d7}{β:wP->uP}{m:wF Zr}
structure FV(d:K)(β:K->uP)(k n:K)(l:N (N uP))(F:uP->uP->uP):Prop where
 pl:Plm d β k l
 ln:l.length<=n
 kg:qi (yc (d+1) β) (jO<|mm l) F
theorem FV.op{l:N (N uP)}{n:K}{F:uP->uP->uP}(h:FV d β k n l F)(hd:d<=32)(a:k<=256000):QO k n (mm l):=h.pl.op hd a h.ln
def Kd(M:FM m r d β){A:N (N Qr)}{n:K}(a:QO (k+1) n A)(hn:n<=1000)(f:k+353<=250000)(b:3000000<=fu):
 ∃l,zH fu (Z r) A=Z (.inr<|mm l)/\FV d β (k+353) n l (jO A):=by
 have⟨l,h1,c,g,e⟩:=TJ M a hn W b;exact⟨l,h1,by skip;exact c,by have:=a.ln;lia,e⟩
theorem Ml{A:N (N Qr)}{n i:K}{q:N Qr}(b:QO k n A)(c:dk k q):QO k n (A.set i q):=⟨λa e=>by
 obtain h|h:=xdE e
 ·exact b.el a h
 ·rw[h];exact c,by rw[xaP];exact b.ln⟩
theorem zi4(n:K):QO (k+1) n (So n []):=⟨λa b=>by rw[(xeu.1 b).2];exact dk.nil,m7⟩
theorem ziT(n:K)(x t:uP):jO (So n []) x t=0:=by
 unfold jO;rw[<-iF (X (So n ([]:N Qr))) x];refine vG λi _=> ?_;have:(So n ([]:N Qr)).getD i []=[]:=by rw[UV,xcT];split<;>rfl
 rw[this];rfl
theorem QO.mono{A:N (N Qr)}{n:K}(h:QO k n A)(b:k<=k'):QO k' n A:=⟨λa c=>(h.el a c).mono b,h.ln⟩
theorem zlO(M:FM m r d β){B T t5:N (N Qr)}{a:N Qr}{i n n':K}{i2:J}{b c e:K}(A:dk (b+1) a)(C:QO (c+1) n B)(l:QO (e+1) n' T)(hi:i+X B<=X T)(hn:n'<=1000)(hk:e+b+c+1490<=250000)(v:3000000<=fu):
 ∃y,zg (uy fu (i:J) B (Z r) t5 i2 a) fu (0,T)=Z y/\∃g,y=.inl g/\QO (e+b+c+1488) n' g/\X g=X T/\qi (yc (d+1) β) (jO g) (λx t=>jO T x t+yG (vl a) t*x^i*jO B x t):=by
 have hd:=M.d4;have hc:=l.ln;have D:e+1<=e+b+c+1488:=W
 refine zU (λs=>∃(j:K) (f:N (N Qr)),s=((j:J),f)/\j<=X B/\QO (e+b+c+1488) n' f/\X f=X T/\(∀q,i+j<=q->f.getD q []=T.getD q [])/\qi (yc (d+1) β) (jO f) (λx t=>jO T x t+yG (vl a) t*x^i*yc j (λq=>yG (vl<|B.getD q []) t) x)) (λs=>X B-s.1.toNat) _ ?_ fu _ ⟨0,T,O,xah _,l.mono D,O,λ_ _=>O,qi.of λx t=>by show _=_+_*0;grind⟩ (by show X B-(0:J).toNat<fu;lia);rintro _ L ⟨j,f,rfl,hj,g1,w,o,u⟩ G;unfold uy;simp only;by_cases h:j=X B
 ·rw[P W,Y O];simp only[xam,Z9];refine⟨_,O,f,O,g1,w,?_⟩;rw[h]at u;exact u
 ·rw[E W,Y O];simp only[Xs];have H:(i:J)+j=((i+j:K):J):=W
  obtain⟨p,Q,z⟩:=zaQ (fu:=fu) M A (C.at j) W v;have d32:d<=32:=W
  have k1:b+1+(c+1)+1111<=256000:=W
  have k2:b+1+(c+1)+1111<=b+c+1113:=W
  have R:dk (b+c+1113) (p.map cq):=dk.mono (z.opd d32 k1) k2;obtain⟨q,q1,q2⟩:=zhC (fu:=fu) M (l.at<|i+j) R W v;rw[zp W,ze,H,vO ⟨W,W⟩,vO ⟨W,W⟩,zp W,ze,Y Q];simp only;rw[Y Jm];simp only;rw[o (i+j)<|Nm _,Y q1];simp only;rw[Y Jm];simp only;rw[zp W,ze,vO ⟨W,W⟩];have k3:e+1+(b+c+1113)+374<=256000:=W
  have k4:e+1+(b+c+1113)+374<=e+b+c+1488:=W
  have S:dk (e+b+c+1488) (q.map cq):=dk.mono (q2.opd d32 k3) k4;refine G _ ⟨j+1,_,O,W,Ml g1 S,by rw[xaP,w],λU hq=> ?_,?_⟩ (by show X B-((j:J)+1).toNat<X B-(j:J).toNat;lia)
  ·rw[UV,xfN W,<-UV];exact o U W
  ·have V:xz (yc (d+1) β) (yG<|vl<|q.map cq) (λt=>yG (vl<|T.getD (i+j) []) t+yG (vl a) t*yG (vl<|B.getD j []) t):=by
    rw[qC];refine q2.kg.trans<|xz.refl.add ?_;rw[qC];exact z.kg
   have a2:=u.add<|qi.mono (i+j)<|V.sub<|xz.refl (F:=yG<|vl<|T.getD (i+j) []);refine qi.trans (qi.of λx t=> ?_)<|a2.trans<|qi.of λx t=> ?_
   ·rw[Cl W,o (i+j)<|Nm _]
   ·rw[eV];show _=_+_*(yc j (λq=>yG (vl<|B.getD q []) t) x+yG (vl<|B.getD j []) t*x^j);grind
theorem zbE(M:FM m r d β){A B:N (N Qr)}{n n' a b:K}(g:QO (a+1) n A)(j:QO (b+1) n' B)(hn:n<=32)(D:n'<=32)(p:n*(a+b+1490)+400<=250000)(o:3000000<=fu):
 ∃l,wb fu (Z r) A B=Z (mm l,0)/\FV d β (n*(a+b+1490)+354) (n+n') l (λx t=>jO A x t*jO B x t):=by
 have hc:=g.ln;have hd:=j.ln;obtain⟨W,u⟩:∃W,W=a+b+1490:=⟨_,O⟩;rw[<-u]at p⊢;have c:∃y,zg (ug fu (Z r) A B) fu (0,So (X A+X B) [])=Z y/\∃T,y=.inl T/\QO (n*W+1) (n+n') T/\qi (yc (d+1) β) (jO T) (λx t=>jO A x t*jO B x t):=by
  refine zU (λs=>∃(i:K) (T:N (N Qr)),s=((i:J),T)/\i<=X A/\QO (i*W+1) (n+n') T/\X T=X A+X B/\qi (yc (d+1) β) (jO T) (λx t=>yc i (λq=>yG (vl<|A.getD q []) t) x*jO B x t)) (λs=>X A-s.1.toNat) _ ?_ fu _ ⟨0,_,O,xah _,⟨(zi4 (k:=0*W)<|X A+X B).el,by simp;lia⟩,m7,qi.of λx t=>by rw[ziT];show _=0*_;grind⟩ (by show X A-(0:J).toNat<fu;lia);rintro _ L ⟨i,T,rfl,hi,g1,G,e⟩ v;unfold ug;simp only;by_cases h:i=X A
  ·rw[P mS,Y O];simp only[xam,Z9];refine⟨_,O,T,O,g1.mono (by have:=xag W (mS:i<=n);lia),?_⟩;rw[h]at e;exact e
  ·rw[E mS,Y O];simp only[Xs];have w1:=xag W (mS:i+1<=n);rw[xcM]at w1;obtain⟨_,v1,w,rfl,z,v3,v4⟩:=zlO (fu:=fu) (t5:=A) (i2:=(X A:J)) (i:=i) M (g.at i) j g1 mS mS mS o;rw[zp mS,ze,Y v1];simp only;rw[vO ⟨mS,mS⟩];refine v _ ⟨i+1,w,O,mS,z.mono (by rw[xcM];lia),mS,v4.trans<|(e.add<|qi.refl (F:=λx t=>yG (vl<|A.getD i []) t*x^i*jO B x t)).trans<|qi.of λx t=> ?_⟩ (by show X A-((i:J)+1).toNat<X A-(i:J).toNat;lia);show _=(yc i (λq=>yG (vl<|A.getD q []) t) x+yG (vl<|A.getD i []) t*x^i)*_;grind
 obtain⟨_,r1,T,rfl,r2,C⟩:=c;obtain⟨l,l1,f⟩:=Kd (fu:=fu) M r2 mS mS o;refine⟨l,?_,⟨by have:=f.pl;exact⟨this.rd,λi=>UU.mono (this.ht i) mS,this.tp⟩,f.ln,f.kg.trans C⟩⟩;unfold wb jB;rw[(mS:(X A:J)+X B=((X A+X B:K):J)),vO ⟨mS,mS⟩,yH,va mS,ze,Y r1];simp only;rw[l1];rfl
end
section
variable{fu d k k':wP}{r:d7}{β:wP->uP}{m:wF Zr}
theorem zpc{A:N (N Qr)}{n:K}(h:X A<=n):H3 (So n ([]:N Qr)) A=A++So (n-X A) []:=by
 unfold H3;rw[xaF,xci h,xbQ,List.drop_replicate]
theorem zfw{A:N (N Qr)}{n i:K}:(A++So n []).getD i []=A.getD i []:=by rw[UV,List.getElem?_append];split;rfl;grind
theorem zoZ{A:N (N Qr)}{n n':K}(b:QO (k+1) n' A)(h:X A<=n):QO (k+1) n (A++So (n-X A) []):=⟨λa c=>by
 obtain h1|h1:=xab.1 c
 ·exact b.el a h1
 ·rw[(xeu.1 h1).2];exact dk.nil,by simp;lia⟩
theorem zkA(M:FM m r d β){A B:wF (wF Qr)}{n a c:K}(g:QO (a+1) n A)(v:QO (c+1) n B)(hn:n<=64)(S:a+c+800<=250000)(w:3000000<=fu):
 ∃l,ZD fu (Z r) A B=Z (mm l,0)/\FV d β (a+c+730) n l (λx t=>jO A x t+jO B x t):=by
 have hc:=g.ln;have U:=v.ln;have hd:=M.d4;obtain⟨N,V⟩:∃N,N=max (X A) (X B):=⟨_,O⟩;obtain⟨b,f⟩:∃b,b=A++So (N-X A) ([]:wF Qr):=⟨_,O⟩;have o0:QO (a+1) N b:=f▸zoZ g W;have l0:X b=N:=by rw[f];simp;lia
 have j:∃y,zg (Za fu (Z r) B I) fu (0,b)=Z y/\∃T,y=.inl T/\QO (a+c+376+1) N T/\qi (yc (d+1) β) (jO T) (λx t=>jO A x t+jO B x t):=by
  refine zU (λs=>∃(i:K) (T:wF (wF Qr)),s=((i:J),T)/\i<=X B/\QO (a+c+376+1) N T/\X T=N/\(∀q,i<=q->T.getD q []=A.getD q [])/\qi (yc (d+1) β) (jO T) (λx t=>jO A x t+yc i (λq=>yG (vl<|B.getD q []) t) x)) (λs=>X B-s.1.toNat) _ ?_ fu _ ⟨0,b,O,xah _,o0.mono W,l0,λq _=>by rw[f];exact zfw,qi.of λx t=> ?_⟩ (by show X B-(0:J).toNat<fu;lia)
  ·rintro _ L ⟨i,T,rfl,hi,g1,z,o,p⟩ C;unfold Za;simp only;by_cases h:i=X B
   ·rw[P W,Y O];simp only[xam,Z9];refine⟨_,O,T,O,g1,?_⟩;rw[h]at p;exact p
   ·rw[E W,Y O];simp only[Xs];obtain⟨q,q1,q2⟩:=zhC (fu:=fu) M (g.at i) (v.at i) W w;rw[zp W,ze,P m6,zp W,ze,o i<|Nm _,Y q1];simp only;rw[Y Jm];simp only;rw[zp W,ze,vO ⟨W,W⟩];have D:dk (a+c+376+1) (q.map cq):=dk.mono (q2.opd W W) W;refine C _ ⟨i+1,_,O,W,Ml g1 D,by rw[xaP,z],λG hq=> ?_,?_⟩ (by show X B-((i:J)+1).toNat<X B-(i:J).toNat;lia)
    ·rw[UV,xfN W,<-UV];exact o G W
    ·have H:xz (yc (d+1) β) (yG<|vl<|q.map cq) (λt=>yG (vl<|A.getD i []) t+yG (vl<|B.getD i []) t):=by rw[qC];exact q2.kg
     have Q:=p.add<|qi.mono i<|H.sub<|xz.refl (F:=yG<|vl<|A.getD i []);refine qi.trans (qi.of λx t=> ?_)<|Q.trans<|qi.of λx t=> ?_
     ·rw[Cl W,o i<|Nm _]
     ·show _=_+(yc i (λq=>yG (vl<|B.getD q []) t) x+yG (vl<|B.getD i []) t*x^i);grind
  ·have e:jO b x t=jO A x t:=by
    rw[X2 (n:=N) W,X2 (A:=A) (n:=N) W];exact vG λi _=>by rw[f,zfw]
   rw[e];show _=_+0;grind
 obtain⟨_,r1,T,rfl,r2,R⟩:=j;obtain⟨l,l1,u⟩:=Kd (fu:=fu) M r2 W W w;refine⟨l,?_,⟨by have:=u.pl;exact⟨this.rd,λi=>UU.mono (this.ht i) W,this.tp⟩,by have:=u.ln;lia,u.kg.trans R⟩⟩;unfold ZD Yr;rw[ze,(W:max (X A:J) (X B)=(N:J)),yH,va W,ze,ze,zpc W,<-f,Y r1];simp only;rw[l1];rfl
end
section
variable{fu d k k':wP}{r:d7}{β:wP->uP}{m:wF Zr}{F G F' G':uP->uP->uP}
theorem zc8{l l':N (N uP)}{n n':K}(hl:X l=n+1)(j:X l'=n'+1):∃c:K->uP->uP,(∀i,Zz<|c i)/\(∀t,c (n+n') t=yG (vl<|(mm l).getD n []) t*yG (vl<|(mm l').getD n' []) t)/\∀x t,jO (mm l) x t*jO (mm l') x t=yc (n+n'+1) (λi=>c i t) x:=by
 have⟨f,e⟩:∃f:K->uP->uP,f=λi t=>yG (vl<|(mm l).getD i []) t:=⟨_,O⟩;have⟨g,h⟩:∃g:K->uP->uP,g=λi t=>yG (vl<|(mm l').getD i []) t:=⟨_,O⟩;have a:∀i,Zz (f i):=λi=>e▸wk _;have b:∀i,Zz (g i):=λi=>h▸wk _;have h1:sX (n+n') λx t=>yc n (λi=>f i t) x*yc (n'+1) (λi=>g i t) x:=sX.mul ⟨g,b,λ_ _=>O⟩ n f a;have o:sX (n'+n) λx t=>f n t*(x^n*yc n' (λi=>g i t) x):=sX.smul (a n)<|sX.xn ⟨g,b,λ_ _=>O⟩ n;have⟨c,hc,p⟩:=h1.add (o.mono W);refine⟨λi=>if i<n+n' then c i else λt=>f n t*g n' t,λi=> ?_,λt=> ?_,λx t=> ?_⟩;show Zz (if i<n+n' then c i else λt=>f n t*g n' t);split;grind;exact(a n).mul<|b n';simp_all;have e1:yc (n+n') (λi=>(if i<n+n' then c i else λt=>f n t*g n' t) t) x=yc (n+n') (λi=>c i t) x:=vG λi hi=>by rw[E hi]
 rw[X2 (n:=n+1) (by rw[wY,hl];exact Nm _),X2 (A:=mm l') (n:=n'+1)<|by rw[wY,j];exact Nm _];show(yc n (λi=>yG (vl<|(mm l).getD i []) t) x+yG (vl<|(mm l).getD n []) t*x^n)*(yc n' (λi=>yG (vl<|(mm l').getD i []) t) x+yG (vl<|(mm l').getD n' []) t*x^n')=yc (n+n') (λi=>(if i<n+n' then c i else λt=>f n t*g n' t) t) x+(if n+n'<n+n' then c (n+n')else λt=>f n t*g n' t) t*x^(n+n');rw[e1,<-p,zF,e,h,eV];show _=yc n (λi=>yG (vl<|(mm l).getD i []) t) x*(yc n' (λi=>yG (vl<|(mm l').getD i []) t) x+yG (vl<|(mm l').getD n' []) t*x^n')+_+_;grind
end
section
variable{fu d k k':wP}{r:d7}{β:wP->uP}{m:wF Zr}
theorem zdY(a:(Ty.l (.p .b (.l .u))).ok m)(v:3000300<=fu):∃q p,Wb fu m=Z (q,p)/\(q=wW\/∃r d β,q=Z r/\FM m r d β):=by
 unfold Wb;by_cases h:5<X m
 ·rw[E W];exact⟨_,_,O,.inl O⟩
 rw[P W];obtain⟨y,h1,c⟩:=zU (f:=J7 fu m) (λs:J=>∃i:K,s=(i:J)/\i<=X m/\∀j,j<i->zi5 (m.getD j (I,[]))) (λs=>X m-s.toNat) (λy=>y=.inr wW\/y=.inl ()/\∀j,j<X m->zi5 (m.getD j (I,[]))) (by
  rintro _ L ⟨i,rfl,hi,g⟩ w;unfold J7;by_cases a:i<X m
  ·rw[E W,zp a,F];by_cases D:1<(m.getD i (I,[])).2.length
   ·rw[E W];exact⟨_,O,.inl O⟩
   ·rw[P W,zp a,F];have step:zi5 (m.getD i (I,[]))->∃r,L ((i:J)+1)=Z r/\(r=.inr wW\/r=.inl ()/\∀j,j<X m->zi5 (m.getD j (I,[]))):=λhl=>w _ ⟨i+1,O,W,λj n=>by
     by_cases e:j=i
     ·rw[e];exact hl
     ·exact g j W⟩ W
    by_cases x:(m.getD i (I,[])).2.length=1
    ·rw[E W,zp a,F,show(0:J)=((0:K):J)from O,zp W,F];by_cases a3:100<(m.getD i (I,[])).2.getD 0 0
     ·rw[E W];exact⟨_,O,.inl O⟩
     ·rw[P W,vO ⟨W,W⟩];exact step ⟨W,λ_=>by lia⟩
    ·rw[P W,vO ⟨W,W⟩];exact step ⟨W,λh=>kW h x⟩
  ·rw[P W];exact⟨_,O,.inr ⟨O,λj n=>g j W⟩⟩) fu 0 ⟨0,O,xah _,λj n=>kW n (xbc _)⟩ (by show X m-(0:J).toNat<fu;lia)
 rw[Y h1];obtain rfl|⟨rfl,c⟩:=c
 ·exact⟨_,_,O,.inl O⟩
 ·simp only;obtain⟨t,z⟩:=zmW a c;obtain⟨q,e,A,B⟩:=FK (fu:=fu) t W z v;rw[Y A];simp only;by_cases o:e=0
  ·rw[E o,Y<|BR t m6 W W];obtain⟨r,d,β,g1,C⟩:=B o;exact⟨_,_,O,.inr ⟨r,d,β,g1,C⟩⟩
  ·rw[P o];exact⟨_,_,O,.inl O⟩
def zhy(n:K)(l:N (N Qr)):Prop:=X l<=n/\∀j,j<X l->ze7 4 1 (l.getD j [])
theorem zkG{ls:N (N<|N Qr)}{i t:K}(hi:i<X ls)(ht:t<X (ls.getD i []))(c:X ((ls.getD i []).getD t [])<=4)(h:3000000<=fu):
 ∃z,zg (UM fu ls (t:J)) fu ((i:J),0)=Z z/\(z=.inr ()\/z=.inl (i:J)/\ze7 4 1 ((ls.getD i []).getD t [])):=by
 obtain⟨l,hl⟩:∃l,l=(ls.getD i []).getD t []:=⟨_,O⟩;rw[<-hl]at c⊢;refine zU (λs:J×J=>∃u:K,s=((i:J),(u:J))/\u<=X l/\∀j,j<u->(l.getD j ((I,[]),[])).1.2.length<=1/\(l.getD j ((I,[]),[])).2.length<=1) (λs=>X l-s.2.toNat) _ ?_ fu _ ⟨0,O,xah _,λj a=>kW a<|xbc _⟩ (by show X l-(0:J).toNat<fu;lia);rintro _ L ⟨u,rfl,n,g⟩ f;unfold UM;simp only;rw[zp hi,F,zp ht,F,<-hl];by_cases b:u<X l
 ·rw[E W,zp hi,F,zp ht,F,<-hl,zp b,F];by_cases o:1<(l.getD u ((I,[]),[])).1.2.length
  ·rw[E W];exact⟨_,O,.inl O⟩
  ·rw[P W,zp hi,F,zp ht,F,<-hl,zp b,F];by_cases p:1<(l.getD u ((I,[]),[])).2.length
   ·rw[E W];exact⟨_,O,.inl O⟩
   ·rw[P W,vO ⟨W,W⟩];refine f _ ⟨u+1,O,W,λj a=> ?_⟩ (by show X l-((u:J)+1).toNat<X l-(u:J).toNat;lia);by_cases e:j=u
    ·rw[e];lia
    ·exact g j W
 ·rw[P W];exact⟨_,O,.inr ⟨O,W,λj a=>g j W⟩⟩
theorem zkL{ls:N (N<|N Qr)}{i n:K}(hi:i<X ls)(hl:X (ls.getD i [])<=100)(c:3000000<=fu):
 ∃z,zg (UB fu (i:J)) fu ((n:J),ls,0)=Z z/\(z=.inr ()\/z=.inl ((n:J),ls)/\∀j,j<X (ls.getD i [])->ze7 4 1 ((ls.getD i []).getD j [])):=by
 refine zU (λs:J×N (N<|N Qr)×J=>∃u:K,s=((n:J),ls,(u:J))/\u<=X (ls.getD i [])/\∀j,j<u->ze7 4 1 ((ls.getD i []).getD j [])) (λs=>X (ls.getD i [])-s.2.2.toNat) _ ?_ fu _ ⟨0,O,xah _,λj a=>kW a<|xbc _⟩ (by show(ls.getD i []).length-(0:J).toNat<fu;lia);rintro _ L ⟨u,rfl,l,g⟩ f;unfold UB;simp only;rw[zp hi,F];by_cases b:u<X (ls.getD i [])
 ·rw[E W,zp hi,F,zp b,F];by_cases o:4<X ((ls.getD i []).getD u [])
  ·rw[E W];exact⟨_,O,.inl O⟩
  ·rw[P W];obtain⟨z,h,z2⟩:=zkG (fu:=fu) hi b W c;rw[Y h];obtain rfl|⟨rfl,z2⟩:=z2
   ·exact⟨_,O,.inl O⟩
   ·simp only;rw[vO ⟨W,W⟩];refine f _ ⟨u+1,O,W,λj a=> ?_⟩ (by show(ls.getD i []).length-((u:J)+1).toNat<X (ls.getD i [])-(u:J).toNat;lia);by_cases e:j=u
    ·rw[e];exact z2
    ·exact g j W
 ·rw[P W];exact⟨_,O,.inr ⟨O,λj a=>g j W⟩⟩
theorem zhJ{n:K}{ls:N (N<|N Qr)}(hl:X ls<=10)(hn:n<=100)(o:3000000<=fu):∃c,Xq fu (n:J) ls=Z c/\(c=qR->∀j,j<X ls->zhy n (ls.getD j [])):=by
 unfold Xq;have⟨y,h1,a⟩:=zU (f:=U3 fu (n:J) ls) (λs:J=>∃i:K,s=(i:J)/\i<=X ls/\∀j,j<i->zhy n (ls.getD j [])) (λs=>X ls-s.toNat) (λy=>y=.inr ()\/y=.inl ()/\∀j,j<X ls->zhy n (ls.getD j [])) (by
  rintro _ L ⟨i,rfl,hi,g⟩ p;unfold U3;by_cases l:i<X ls;rw[E W,zp l,F];by_cases t:n<X (ls.getD i []);simp_all;rw[P W];have⟨z,q,z2⟩:=zkL (fu:=fu) (n:=n) l W o;rw[Y q];obtain rfl|⟨rfl,z2⟩:=z2
  exact⟨_,O,.inl O⟩;simp only;rw[vO ⟨W,W⟩];refine p _ ⟨i+1,O,W,λj b=> ?_⟩ W;by_cases e:j=i;rw[e];exact⟨W,z2⟩;exact g j W
  rw[P W];exact⟨_,O,.inr ⟨O,λj b=>g j W⟩⟩) fu 0 ⟨0,O,xah _,λj b=>kW b (xbc _)⟩ (by show X ls-(0:J).toNat<fu;lia)
 rw[Y h1];obtain rfl|⟨rfl,a⟩:=a
 exact⟨_,O,λh=>nomatch h⟩;exact⟨_,O,λ_=>a⟩
theorem Rm{A:N (N Qr)}{n:K}(c:QO k n A)(hn:n<=1000)(f:3000000<=fu):yD fu A A=Z qR:=by
 have h:=c.ln;have b:Jz fu A A=Z qR:=by
  unfold Jz;rw[E O,Y (v:=.inl ())];refine zC (λs:J=>∃i:K,s=(i:J)/\i<=X A) (λs=>X A-s.toNat) _ ?_ fu 0 ⟨0,O,xah _⟩ (by show X A-(0:J).toNat<fu;lia);rintro _ L ⟨i,rfl,hi⟩ g;unfold eR;by_cases a:i<X A;have e:dk k (A.getD i []):=by rw[UV,xaa a];exact c.el _<|xbI a
  rw[E W,zp a,F,zp a,F,Y<|sQ (by have:=e.ln;lia) e.ok f,P m6,vO ⟨W,W⟩];exact g _ ⟨i+1,O,W⟩ W
  grind
 unfold yD;rw[Y b]
theorem zht{A:N (N Qr)}{n:K}(f:(Ty.l (.l (.p (.p .b (.l .u)) (.l .u)))).ok A)(h:zhy n A):QO 257 n A:=⟨λx c=>by
 obtain⟨i,hi,e⟩:=xbZ.1 c;have a:=h.2 i hi;rw[UV,xaa hi,xdb,e]at a;obtain⟨g1,g⟩:=zoA m6 (f.2 x c) a;exact⟨λy j=>(g1 y j).mono m6,by have:=a.1;lia,g⟩,h.1⟩
end
section
set_option maxRecDepth 100000
theorem Tn:YJ 4000000=Z qR:=by decide+kernel
end
theorem zjH{N K:wP}{u:R}(h:∀i,N<=i->u i=0)(a:N<=K)(t:uP):yc K (λi=>(u i:uP)) t=yc N (λi=>(u i:uP)) t:=kD a (λi hi=>by rw[h i hi];rfl) t
theorem zm2{P:R}{d N:K}{β f:K->uP}(l:Ir P)(C:Tp P d)(o:∀i,β i*(P d:uP)=(P i:uP))(E:¬xz (yc (d+1) β) (yc N f) λ_=>0):∃F,Zz F/\xz (yc (d+1) β) (λt=>F t*yc N f t) λ_=>1:=by
 obtain⟨D,G,D0,H,p⟩:=LZ f N;have rD:(D:uP)≠0:=λe=>by have:=xdr.1<|e.trans (by rfl:(0:uP)=((0:K):uP));lia
 obtain⟨g,s,u,γ,L,M,⟨ns,Q⟩,⟨a,T⟩,q,e,⟨w,V,r⟩,⟨v,fv,ev⟩⟩:=zlW l.fs l.pm.nz ⟨N,p⟩;have j:∀t,yc (d+1) (λi=>(P i:uP)) t=(P d:uP)*yc (d+1) β t:=λt=>by rw[<-vV];exact vG λi _=>by rw[<-o i];grind
 have k:∀t,yc N (λi=>(G i:uP)) t=(D:uP)*yc N f t:=λt=>by rw[<-vV];exact vG λi hi=>by rw[<-H i hi];grind
 have A:∀i,d+1<=i->P i=0:=λi hi=>C.2 i W;obtain hc|hc:=l.ir w g V L r
 ·exfalso;obtain⟨c,rfl⟩:=hc.ex;have h1:c*c=1:=by rcases AY (show Pm (pc c*g)by rw[<-r];exact l.pm).left with h|h<;>rw[h]<;>rfl
  have h2:G=v*pc c*P:=by rw[ev,r,zd,<-zd<|pc c,jR,h1,zE]
  obtain⟨n,hn⟩:=fv.mul<|Fs.pc c;refine E ⟨λt=>1/(D:uP)*(P d:uP)*yc n (λi=>((v*pc c) i:uP)) t,(Zz.self _ _).smul _,λt=> ?_⟩;have m:=DN t P (d+1) A n (v*pc c) hn (N+(n+(d+1))) W;rw[<-h2,zjH p W,k,j]at m;have y:yc N f t=1/(D:uP)*((D:uP)*yc N f t):=by grind
  rw[y,m];grind
 ·obtain⟨c,rfl⟩:=hc.ex;have hd:c≠0:=by obtain h|h:=AY M<;>lia
  obtain⟨x,z⟩:∃x:J,x=γ*c:=⟨_,O⟩;have x0:x≠0:=by rw[z];exact xcz q hd
  have rx:(x:uP)≠0:=λe=>x0<|xfW.1<|e.trans (by rfl:(0:uP)=((0:J):uP));refine⟨λt=>(D:uP)/(x:uP)*yc a (λi=>(u i:uP)) t,(Zz.self _ _).smul _,λt=> -((P d:uP)/(x:uP))*yc ns (λi=>(s i:uP)) t,(Zz.self _ _).smul _,λt=> ?_⟩;have m:=DN t P (d+1) A ns s Q (1+(ns+a+(d+1+N))) W;have y:=DN t G N p a u T (1+(ns+a+(d+1+N))) W;have b:yc (1+(ns+a+(d+1+N))) (λi=>((pc x i:J):uP)) t=(x:uP):=by
   rw[xdW,vS,show yc _ (λi=>((pc x (i+1):J):uP)) t=0 from uY λi _=>by show((0:J):uP)*_=0;grind];show(x:uP)+t*0=_;grind
  rw[z,<-jR,e]at b;have h6:(λi=>(((s*P+u*G) i:J):uP))=λi=>(((s*P) i:J):uP)+(((u*G) i:J):uP):=Z0 λi=>by rw[zW,xfn]
  rw[h6,YM,m,y,j,k,<-z]at b;show(D:uP)/(x:uP)*yc a (λi=>(u i:uP)) t*yc N f t-1=yc (d+1) β t*(-((P d:uP)/(x:uP))*yc ns (λi=>(s i:uP)) t);generalize yc a (λi=>(u i:uP)) t=U at b⊢;generalize yc ns (λi=>(s i:uP)) t=S at b⊢;generalize yc N f t=Y at b⊢;generalize yc (d+1) β t=B at b⊢;grind
section
variable{fu d k k':wP}{r:d7}{β:wP->uP}{m:wF Zr}
def zlt(M:FM m r d β){a:N Qr}(b:¬xz (yc (d+1) β) (yG<|vl a) λ_=>0):∃F,Zz F/\xz (yc (d+1) β) (λt=>F t*yG (vl a) t) λ_=>1:=zm2 M.pr M.tp M.at_ b
theorem FV.nil:FV d β (k+1) 0 [] λ_ _=>0:=⟨⟨λi=>by skip;exact bg.nil d,λi=>by skip;exact dk.nil.ht,λh=>kW O h⟩,Nm _,qi.refl⟩
theorem Plm.z{l:N (N uP)}(a:β d=1)(h:Plm d β k l){i:K}(e:xz (yc (d+1) β) (λt=>yG (vl<|(mm l).getD i []) t) λ_=>0):l.getD i []=[]:=by
 refine bg.inj a (h.rd i) (bg.nil d)<|xz.trans (xz.of λt=> ?_)<|e.trans<|xz.of λt=>(iG t).symm;rw[K4,qC]
theorem znd(M:FM m r d β){A B:wF (wF Qr)}{k4 u n1 n2:K}{b a l:wF (wF uP)}(eA:FV d β k n1 b (jO A))(p:FV d β k' n2 a (jO B))(e:FV d β k4 u l λx t=>jO A x t*jO B x t):
 (b=[]\/a=[]->l=[])/\(b≠[]->a≠[]->X l+1=X b+X a):=by
 have o:=M.fl.one;have e1:qi (yc (d+1) β) (jO<|mm l) λx t=>jO (mm b) x t*jO (mm a) x t:=e.kg.trans (qi.mul (gf _) (gf _) eA.kg p.kg).symm;constructor;intro h;refine Plm.inj (k':=1) o e.pl (FV.nil (k:=0)).pl<|e1.trans<|qi.of λx t=> ?_;obtain rfl|rfl:=h
 show(0:uP)*_=0;grind;show _*(0:uP)=0;grind
 intro v hc;have⟨n,hn⟩:∃n,X b=n+1:=⟨X b-1,by have:=List.length_pos_iff.2 v;lia⟩;have⟨n',hd⟩:∃n,X a=n+1:=⟨X a-1,by have:=List.length_pos_iff.2 hc;lia⟩;have⟨c,D,c1,c2⟩:=zc8 hn hd;have⟨N,F⟩:∃N,N=max (X l) (n+n'+1):=⟨_,O⟩;have co:∀i,i<N->xz (yc (d+1) β) (λt=>yG (vl<|(mm l).getD i []) t) λt=>(if i<n+n'+1 then c i else λ_=>0) t:=λi hi=>by
  refine qi.coef (n:=N) (f:=λi t=>yG (vl<|(mm l).getD i []) t) (g:=λi t=>(if i<n+n'+1 then c i else λ_=>0) t) ?_ hi;refine qi.trans (qi.of λx t=> ?_)<|e1.trans<|qi.of λx t=> ?_;exact(X2 (by rw[wY];lia) x t).symm;rw[c2];have w:=kD (f:=λi=>(if i<n+n'+1 then c i else λ_=>0) t) (W:n+n'+1<=N) (λj s=>by rw[P W]) x;rw[w];exact vG λj s=>by rw[E s]
 have hi:¬X l>n+n'+1:=λh=>by
  refine e.pl.tp W<|e.pl.z o<|(co (X l-1) W).trans<|xz.of λt=> ?_;rw[P W]
 have lo:¬X l<n+n'+1:=λh=>by
  have z:=co (n+n') W;rw[K4,Vj W]at z;have z2:xz (yc (d+1) β) (λt=>yG (vl<|(mm b).getD n []) t*yG (vl<|(mm a).getD n' []) t) λ_=>0:=by refine xz.trans (xz.of λt=> ?_)<|z.symm.trans<|xz.of λt=> ?_;rw[E W,c1];show yG (vl []) t=0;exact iG t
  have nz:¬xz (yc (d+1) β) (yG<|vl<|(mm b).getD n []) λ_=>0:=λh=>eA.pl.tp W (by rw[(W:X b-1=n)];exact eA.pl.z o h);have⟨q,y,C⟩:=zlt M nz;have k1:xz (yc (d+1) β) (λt=>q t*(yG (vl<|(mm b).getD n []) t*yG (vl<|(mm a).getD n' []) t)) λt=>q t*0:=xz.mul ((wk _).mul<|wk _) y xz.refl z2;have k2:xz (yc (d+1) β) (λt=>yG (vl<|(mm a).getD n' []) t) λ_=>0:=by have k3:xz (yc (d+1) β) (λt=>q t*yG (vl<|(mm b).getD n []) t*yG (vl<|(mm a).getD n' []) t) λt=>1*yG (vl<|(mm a).getD n' []) t:=xz.mul (wk _) (Zz.c 1) C xz.refl;exact xz.trans (xz.of λt=>by grind)<|k3.symm.trans<|(xz.of λt=>by grind).trans<|k1.trans<|xz.of λt=>by grind
  exact p.pl.tp W<|by rw[(W:X a-1=n')];exact p.pl.z o k2
 lia
theorem zjU{A:N (N Qr)}{n:K}(h:zhy n A)(i:K):X (A.getD i [])<=4:=by by_cases hi:i<X A;exact(h.2 i hi).1;simp_all
end
section
def ziB:∀(m n:K) (f:K->K),m<n->(∀i,i<n->f i<m)->∃i j,i<j/\j<n/\f i=f j
 |0,n,f,h,a=>kW (a 0 W)<|xbc _
 |m+1,n,f,h,a=>by
  by_cases h0:∃i,i<n-1/\f i=f (n-1);have⟨i,hi,e⟩:=h0;exact⟨i,n-1,hi,W,e⟩
  have h1:∀i,i<n-1->f i≠f (n-1):=λi hi e=>h0 ⟨i,hi,e⟩;have hv:=a (n-1) W;have⟨i,j,b,c,e⟩:=ziB m (n-1) (λi=>if f i=m then f (n-1)else f i) W λi hi=>by
   have d:=a i W;have g:=h1 i hi;show(if f i=m then f (n-1)else f i)<m;split<;>lia
  have d:=h1 i W;have g:=h1 j c;refine⟨i,j,b,W,?_⟩;have e:(if f i=m then f (n-1)else f i)=(if f j=m then f (n-1)else f j):=e;split at e<;>split at e<;>lia
def mx(M:K):K->(K->K)->K
 |0,_=>0
 |n+1,c=>c 0+M*mx M n λi=>c<|i+1
def zl8{M:K}:∀(n:K) (c:K->K),(∀i,i<n->c i<M)->mx M n c<M^n
 |0,_,_=>Nat.one_pos
 |n+1,c,h=>by
  have h1:=zl8 n (λi=>c<|i+1) λi hi=>h (i+1) W;have a:=xaB M (W:mx M n (λi=>c<|i+1)+1<=M^n);show c 0+M*_<M^(n+1);grind
def ze1{M:K}:∀(n:K) (c e:K->K),(∀i,i<n->c i<M)->(∀i,i<n->e i<M)->mx M n c=mx M n e->∀i,i<n->c i=e i
 |0,_,_,_,_,_,i,hi=>kW hi<|xbc _
 |n+1,c,e,hc,a,h,i,hi=>by
  have h:c 0+M*mx M n (λi=>c<|i+1)=e 0+M*mx M n (λi=>e<|i+1):=h;have c0:=hc 0 W;have e0:=a 0 W;have h0:c 0=e 0:=by have:=Z4 (·%M) h;simpa[xap c0,xap e0]using this
  cases i with
  |zero=>exact h0
  |succ i=>
   refine ze1 n _ _ (λi hi=>hc (i+1) W) (λi hi=>a (i+1) W) ?_ i W;exact Nat.eq_of_mul_eq_mul_left (W:0<M) W
def RF{M:K}:∀(n:K) (c e:K->K),(∀i,i<n->c i=e i)->mx M n c=mx M n e
 |0,_,_,_=>rfl
 |n+1,c,e,h=>by
  show c 0+M*_=e 0+M*_;rw[h 0 W,RF n _ _ λi hi=>h (i+1) W]
def zaC{a:K}:∀(n x:K),x<a^n->mx a n (λi=>x/a^i%a)=x
 |0,x,h=>by simp at h;rw[h];rfl
 |n+1,x,h=>by
  have h1:=Nat.div_lt_of_lt_mul (by rwa[xbe,xaO]at h);have b:=zaC n (x/a) h1;show x/a^0%a+a*mx a n (λi=>x/a^(i+1)%a)=x;have e:(λi=>x/a^(i+1)%a)=λi=>x/a/a^i%a:=Z0 λi=>by rw[xbe,xaD,xaO]
  rw[e,b,xeo,xef];exact xee x a
def Fo{B:K}{f:K->J}:∀n,(∀j,j<n->(f j).natAbs<=B)->(ye n f).natAbs<=n*B
 |0,_=>by simp[ye]
 |n+1,h=>by
  have h1:=Fo n λj a=>h j W;show(ye n f+f n).natAbs<=(n+1)*B;grind
def zoo{d s k:K}(n:K->K->J)(G:1<=d)(hd:d<=4)(hn:∀j i,(n j i).natAbs<2^k)(q:(k+4)*(d-1)<s):
 ∃w:K->J,(∃j,j<d/\w j≠0)/\(∀j,(w j).natAbs<2^s)/\∀i,1<=i->i<d->ye d (λj=>w j*n j i)=0:=by
 have⟨a,b⟩:∃a,a=2^s:=⟨_,O⟩;have r:0<a:=by rw[b];exact xbY _
 have⟨M,o⟩:∃M,M=2^(s+k+3):=⟨_,O⟩;have⟨z,g⟩:∃z:K->K->K,∀x j,z x j=x/a^j%a:=⟨λx j=>x/a^j%a,λ_ _=>O⟩;have hc:∀x j,z x j<a:=λx j=>by rw[g];exact xaQ _ r
 have⟨S,l⟩:∃S:K->K->J,∀x i,S x i=ye d λj=>(z x j:J)*n j i:=⟨_,λ_ _=>O⟩;have c:∀x i,(S x i).natAbs<=2^(s+k+2):=λx i=>by
  rw[l];have h1:=Fo (B:=2^(s+k)) (f:=λj=>(z x j:J)*n j i) d λj _=>by
   rw[xcl,xaH,xbd,<-b];exact xcb (xcJ<|hc x j)<|xcJ<|hn j i
  have p:=xag (2^(s+k)) hd;rw[xbd _ (s+k) 2];lia
 have t:M=2*2^(s+k+2):=by rw[o,xbe];lia
 have u:0<2^(s+k+2):=xbY _;generalize H:2^(s+k+2)=T at c t u;have m:∀x i,(S x i+(T:J)).toNat<M+1:=λx i=>by have:=c x i;lia
 have⟨x,y,hl,v,e⟩:=ziB ((M+1)^(d-1)) (a^d) (λx=>mx (M+1) (d-1) λi=>(S x (i+1)+(T:J)).toNat) (by
  have h1:M+1<=2^(s+k+4):=by rw[xbe,<-o];lia
  refine xaI (xeh h1 _) ?_;rw[b,<-xbM,<-xbM];refine xez m6 ?_;obtain⟨e,rfl⟩:∃e,d=e+1:=⟨d-1,W⟩;rw[xfk]at q⊢;rw[Nat.mul_succ,xcQ s k 4,xbl];lia) λx _=>zl8 _ _ λi _=>m x _
 refine⟨λj=>(z y j:J)-z x j,?_,λj=> ?_,λi h1 p=> ?_⟩;refine xad λhn=> ?_;have h1:∀j,j<d->z x j=z y j:=λj A=>xad λh=>hn ⟨j,A,by show(z y j:J)-z x j≠0;lia⟩;have C:x<a^d:=W
 have e1:=zaC d x C;have L:=zaC d y v;have N:=RF (M:=a) d (λi=>x/a^i%a) (λi=>y/a^i%a) λi hi=>by have:=h1 i hi;rwa[g,g]at this
 lia;have h1:=hc x j;have p:=hc y j;show((z y j:J)-z x j).natAbs<2^s;rw[<-b];lia;have D:=ze1 (d-1) _ _ (λi _=>m x _) (λi _=>m y _) e (i-1) W;rw[(W:i-1+1=i)]at D;have E:S x i=S y i:=by have:=c x i;have:=c y i;lia
 rw[l,l]at E;have F:ye d (λj=>((z y j:J)-z x j)*n j i)=ye d (λj=>(z y j:J)*n j i+ -1*((z x j:J)*n j i)):=yC λj _=>by rw[Int.sub_mul];lia
 rw[F,YI,uO];lia
section
variable{d b k:wP}{β:wP->uP}
def te(d:K)(β a:K->uP):K->K->uP
 |0,i=>a i
 |j+1,i=>(if i=0 then 0 else te d β a j (i-1))-te d β a j (d-1)*β i
theorem zhb(hd:1<=d)(e:β d=1)(a:K->uP):∀j,xz (yc (d+1) β) (λt=>t^j*yc d a t) (yc d<|te d β a j)
 |0=>xz.of λt=>by rw[xfY];show 1*yc d a t=yc d a t;grind
 |j+1=>by
  have h1:=xz.mul (F':=λt=>t) (G':=λt=>t) Zz.x (Zz.self d<|te d β a j) (zhb hd e a j) xz.refl;refine xz.trans (xz.of λt=> ?_)<|h1.trans ⟨λ_=>te d β a j<|d-1,Zz.c _,λt=> ?_⟩;grind;have e1:yc (d+1) (λi=>if i=0 then 0 else te d β a j (i-1)) t=t*yc d (te d β a j) t:=by rw[vS];grind
  have f:yc (d+1) (λi=>if i=0 then 0 else te d β a j (i-1)) t=yc d (λi=>if i=0 then 0 else te d β a j (i-1)) t+te d β a j (d-1)*t^d:=by show _+(if d=0 then 0 else te d β a j (d-1))*t^d=_;rw[zF];rfl
  have g:yc d (te d β a<|j+1) t=yc d (λi=>if i=0 then 0 else te d β a j (i-1)) t+ -1*(te d β a j (d-1)*yc d β t):=by rw[<-vV,<-vV,<-YM];refine qm λi _=> ?_;show((if i=0 then 0 else te d β a j (i-1))-te d β a j (d-1)*β i)*t^i=_;grind
  have h:yc (d+1) β t=yc d β t+1*t^d:=by rw[<-e];rfl
  have l:yc d (te d β a j) t*t=yc d (λi=>if i=0 then 0 else te d β a j (i-1)) t+te d β a j (d-1)*t^d:=by rw[<-f,e1];grind
  show yc d (te d β a j) t*t-yc d (te d β a<|j+1) t=yc (d+1) β t*te d β a j (d-1);rw[l,g,h];grind
theorem znO{a:K->uP}(r:UU k a)(s:UU b β)(hd:d<=4):∃(E:K) (n:K->K->J),0<E/\E<2^(k+4*(b+1))/\∀j i,j<d->te d β a j i*(E:uP)=n j i/\(n j i).natAbs<2^(k+4*(b+1)):=by
 have⟨e,a0,t,u⟩:=r;have⟨c,b0,b1,b2⟩:=s;have g:∀j,∀i,∃n:J,te d β a j i*((e*c^j:K):uP)=n/\n.natAbs<2^(k+j*(b+1)):=by
  intro j
  induction j with
  |zero=>intro i;have⟨n,h1,f⟩:=u i;exact⟨n,by rw[xeo,xdQ];exact h1,by rw[xct];exact f⟩
  |succ j p=>
   intro i;have⟨m,v,w⟩:=p<|d-1;have⟨n,n1,n2⟩:=b2 i;have x:∃l:J,(if i=0 then 0 else te d β a j (i-1))*((e*c^j:K):uP)=l/\l.natAbs<2^(k+j*(b+1)):=by split;exact⟨0,by grind,xbY _⟩;exact p<|i-1
   have⟨l,l1,y⟩:=x;refine⟨l*c-m*n,?_,?_⟩;show((if i=0 then 0 else te d β a j (i-1))-te d β a j (d-1)*β i)*_=_;rw[xbe,<-xbj,xds,Rat.intCast_sub,xbh,xbh,<-l1,<-v,<-n1];show _=_*(c:uP)-_;grind;have h1:=yN y (show(c:J).natAbs<2^b by rw[xaH];exact b1);have f:=yN w n2;have q:=lV h1 (show(-(m*n)).natAbs<_ by rw[xey];exact f);rw[show k+(j+1)*(b+1)=k+j*(b+1)+b+1 by rw[xcM];lia];rwa[<-Int.sub_eq_add_neg]at q
 have hc:∀j i,∃n:J,j<d->te d β a j i*((e*c^4:K):uP)=n/\n.natAbs<2^(k+4*(b+1)):=λj i=>by
  by_cases o:j<d;have⟨n,n1,n2⟩:=g j i;refine⟨n*((c^(4-j):K):J),λ_=>⟨?_,?_⟩⟩;rw[show e*c^4=e*c^j*c^(4-j)by rw[xbj,<-xbd,(W:j+(4-j)=4)],xds,xbh,<-n1];show _=_*((c^(4-j):K):uP);grind;have h1:((c^(4-j):K):J).natAbs<2^(b*(4-j)+1):=by rw[xaH,xbe,xbM];have:=xeh (xcJ b1)<|4-j;have:=xbY<|b*(4-j);rw[xbM]at this;lia
  refine xac (yN n2 h1)<|xai m6 ?_;have f:b*(4-j)+1<=(4-j)*(b+1):=by rw[xcm,xdQ,xaO];lia
  have q:j*(b+1)+(4-j)*(b+1)=4*(b+1):=by rw[<-xbl,(W:j+(4-j)=4)]
  lia;exact⟨0,λh=>kW h o⟩
 refine⟨e*c^4,λj i=>xfK<|hc j i,xdn a0<|xaS b0,?_,λj i o=>xeV (hc j i) o⟩;have h1:c^4<2^(4*(b+1)):=by rw[(W:4*(b+1)=(b+1)*4),xbM];exact Nat.pow_lt_pow_left (xeT b1<|xez m6 W) m6
 rw[xbd];exact xcf t h1
theorem zob(hd:1<=d)(hc:d<=4)(a:β d=1)(A:UU b β){al y:N uP}(C:Ht k al)(D:X al<=d)(F:X y<=d)(h:xz (yc (d+1) β) (λt=>yG y t*yG al t) λ_=>1):Ht (4*(k+4*b+10)) y:=by
 have⟨E,n,U,E1,hn⟩:=znO (d:=d) C A hc;have⟨K,G⟩:∃K,K=k+4*(b+1):=⟨_,O⟩;rw[<-G]at E1 hn;have⟨s,V⟩:∃s,s=(K+4)*3+1:=⟨_,O⟩;have⟨w,⟨g,H,L⟩,u,M⟩:=zoo (s:=s) (λj i=>if j<d then n j i else 0) hd hc (λj i=>by
  show(if j<d then n j i else 0).natAbs<2^K;split;rename_i h;exact(hn j i h).2;exact xbY _) (by have:=xaB (K+4) (mS:d-1<=3);lia)
 have⟨W,v⟩:∃W,W=ye d (λj=>w j*(if j<d then n j 0 else 0)):=⟨_,O⟩;have step:∀m,m<=d->xz (yc (d+1) β) (λt=>yc m (λj=>(w j:uP)) t*yG al t*(E:uP)) (yc d λi=>((ye m (λj=>w j*(if j<d then n j i else 0)):J):uP)):=by
  intro m
  induction m with
  |zero=>intro _;exact xz.of λt=>by rw[show yc d (λi=>((ye 0 (λj=>w j*(if j<d then n j i else 0)):J):uP)) t=0 from uY λi _=>by show((0:J):uP)*_=0;grind];show(0:uP)*_*_=0;grind
  |succ m P=>
   intro Y;have h1:=(zhb hd a (y7 al) m).smul<|(w m:uP)*(E:uP);have l:=(P mS).add h1;refine xz.trans (xz.of λt=> ?_)<|l.trans<|xz.of λt=> ?_;show(yc m (λj=>(w j:uP)) t+(w m:uP)*t^m)*_*_=_;rw[kF D];grind;rw[<-vV,<-YM];refine qm λi _=> ?_;show _=((ye m (λj=>w j*(if j<d then n j i else 0))+w m*(if m<d then n m i else 0):J):uP)*t^i;rw[yg,xfn,xbh,<-(hn m i mS).1];grind
 have h1:=step d<|Nm d;have l:xz (yc (d+1) β) (λt=>yc d (λj=>(w j:uP)) t*yG al t*(E:uP)) λ_=>(W:uP):=h1.trans (xz.of λt=>by
  obtain⟨e,rfl⟩:∃e,d=e+1:=⟨d-1,mS⟩;rw[vS,show yc e (λi=>((ye (e+1) (λj=>w j*(if j<e+1 then n j (i+1)else 0)):J):uP)) t=0 from uY λi hi=>by
   show((ye (e+1) (λj=>w j*(if j<e+1 then n j (i+1)else 0)):J):uP)*t^i=0;rw[M (i+1) mS mS];show((0:J):uP)*_=0;grind,v]
  grind)
 have Q:xz (yc (d+1) β) (yc d λj=>(w j:uP)*(E:uP)) (yc d λj=>(W:uP)*y7 y j):=by have R:=xz.mul (F':=yG y) (G':=yG y) (wk y) (Zz.c (W:uP)) l xz.refl;have S:=xz.mul (F':=λt=>yc d (λj=>(w j:uP)) t*(E:uP)) (G':=λt=>yc d (λj=>(w j:uP)) t*(E:uP)) ((Zz.self d _).mul<|Zz.c _) (Zz.c 1) h xz.refl;refine xz.trans (xz.of λt=> ?_)<|S.symm.trans<|xz.trans (xz.of λt=> ?_)<|R.trans<|xz.of λt=> ?_;rw[show(λj=>(w j:uP)*(E:uP))=λj=>(E:uP)*(w j:uP)from Z0 λj=>by grind,vV];grind;grind;rw[vV,kF F]
 have x:=xz.inj a Q;have rE:((E:wP):uP)≠0:=λe=>by have:=xdr.1<|e.trans (by rfl:(0:uP)=((0:wP):uP));lia
 have W0:W≠0:=λe=>by
  have e1:=x g H;rw[e]at e1;have:(w g:uP)=0:=by
   have o:(w g:uP)*(E:uP)=0:=by rw[e1];show((0:J):uP)*_=0;grind
   grind
  exact L<|xfW.1<|this.trans (by rfl:(0:uP)=((0:J):uP))
 have T:W.natAbs<2^(s+K+3):=by
  have p:=Fo (B:=2^(s+K)) (f:=λj=>w j*(if j<d then n j 0 else 0)) d λj z=>by
   show(w j*(if j<d then n j 0 else 0)).natAbs<=_;rw[iq z];exact xcJ<|yN (u j) (hn j 0 z).2
  have q:=xag (2^(s+K)) hc;have h7:=xbY<|s+K;rw[v,xbd _ (s+K) 3];lia
 refine UU.mono (j:=s+K+3) ⟨W.natAbs,mS,T,λi=> ?_⟩ mS;by_cases hi:i<d;have e1:=x i hi;have p:=yN (u i) (show(E:J).natAbs<2^K by rw[xaH];exact E1);have q:=xai (m6:0<2) (mS:s+K<=s+K+3);have o:((w i*(E:J):J):uP)=(w i:uP)*(E:uP):=by rw[xbh];rfl
 obtain h7|h7:=Int.natAbs_eq W
 refine⟨w i*E,?_,xac p q⟩;have r:((W.natAbs:wP):uP)=(W:uP):=by
  conv=>rhs;rw[h7]
  rfl
 rw[r,o,e1];grind;refine⟨-(w i*E),?_,by rw[xey];exact xac p q⟩;have r:((W.natAbs:wP):uP)= -(W:uP):=by
  have:(W:uP)= -((W.natAbs:wP):uP):=by
   conv=>lhs;rw[h7]
   rw[xeW];rfl
  rw[this];grind
 rw[r,xeW,o,e1];grind;exact⟨0,by rw[Yd];show(0:uP)*_=((0:J):uP);grind,xbY _⟩
end
end
section
variable{fu d k k':wP}{r:d7}{β:wP->uP}{m:wF Zr}
theorem FV.co{l:wF (wF uP)}{A:wF (wF Qr)}{n:K}(e:FV d β k n l (jO A))(i:K):xz (yc (d+1) β) (yG<|l.getD i []) (yG<|vl<|A.getD i []):=by
 have⟨N,a⟩:∃N,N=max (max (X A) (X l)) (i+1):=⟨_,O⟩;have:=qi.coef (n:=N) (i:=i) (f:=λi t=>yG (vl<|(mm l).getD i []) t) (g:=λi t=>yG (vl<|A.getD i []) t) (qi.trans (qi.of λx t=> ?_)<|e.kg.trans<|qi.of λx t=> ?_) W
 refine xz.trans (xz.of λt=> ?_) this;rw[K4,qC];exact(X2 (by rw[wY];lia) x t).symm;exact X2 W x t
theorem FV.tight(M:FM m r d β){l:N (N uP)}{A:N (N Qr)}{n n':K}(e:FV d β k n l (jO A))(a:QO (256+1) n' A)(b:∀i,X (A.getD i [])<=4)(i:K):Ht 301 (l.getD i []):=by have o:=a.at i;have hl:=b i;have⟨q,_,q2,c,f⟩:=JV M.fl o.ok W o.ht W<|Nm _;have:l.getD i []=q:=bg.inj M.fl.one (e.pl.rd i) q2<|(e.co i).trans c.symm;rw[this];exact UU.mono f W
def znq(M:FM m r d β){y:N uP}(b:bg d y)(h0:y≠[])(ht:Ht 301 y)(i:3000000<=fu):
 ∃q,xZ fu (Z r) (y.map cq)=Z (q.map cq,0)/\dk 1404 (q.map cq)/\xz (yc (d+1) β) (λt=>yG q t*yG y t) λ_=>1:=by
 have hd:=M.d4;have l:=b.1;have⟨n,_,j,c,_,f⟩:=C6 (fu:=fu) (k:=301) (a:=y.map cq) M.fl M.d4 m6 M.irq M.ne M.by_ (UE ht m6) (by rw[xaj];lia) (by rw[qC];exact ht) (by rw[xaj];lia) m6 i;rw[qC]at c f;obtain rfl:=bg.inj M.fl.one j b c;rcases f with⟨e,_⟩|⟨_,q,q1,q2,_,g⟩
 simp_all;have h:Ht 1404 q:=UU.mono (zob M.fl.d1 M.d4 M.fl.one M.fl.ht ht b.1 q2.1 g) m6;exact⟨q,q1,⟨UE h m6,by rw[xaj];have:=q2.1;lia,by rw[qC];exact h⟩,g⟩
theorem zj6(M:FM m r d β){B T Q:N (N Qr)}{t5:N Qr}{q:N uP}{i n n':K}{a b c:K}(o:dk (a+1) (q.map cq))(S:Q.getD i []=q.map cq)(U:i<X Q)(hg:X Q<=1000)(V:QO (b+1) n B)(u:QO (c+1) n' T)(hi:i+X B<=X T)(hn:n'<=1000)(hk:c+a+b+1490<=250000)(w:3000000<=fu):
 ∃y,zg (uw fu (i:J) B) fu (Z r,t5,0,B,T,Q)=Z y/\∃g,y=.inl (Z r,t5,B,g,Q)/\QO (c+a+b+1488) n' g/\X g=X T/\(∀j,(j<i\/i+X B<=j)->g.getD j []=T.getD j [])/\(∀j,j<X B->∃z,g.getD (i+j) []=z.map cq/\bg d z/\xz (yc (d+1) β) (yG z) λt=>yG (vl<|T.getD (i+j) []) t-yG q t*yG (vl<|B.getD j []) t)/\qi (yc (d+1) β) (jO g) (λx t=>jO T x t-yG q t*x^i*jO B x t):=by
 have hd:=M.d4;have hl:=u.ln;have kw:c+1<=c+a+b+1488:=W
 refine zU (λs=>∃(j:K) (e:N (N Qr)),s=(Z r,t5,(j:J),B,e,Q)/\j<=X B/\QO (c+a+b+1488) n' e/\X e=X T/\(∀q,(q<i\/i+j<=q)->e.getD q []=T.getD q [])/\(∀h,h<j->∃z,e.getD (i+h) []=z.map cq/\bg d z/\xz (yc (d+1) β) (yG z) λt=>yG (vl<|T.getD (i+h) []) t-yG q t*yG (vl<|B.getD h []) t)/\qi (yc (d+1) β) (jO e) (λx t=>jO T x t-yG q t*x^i*yc j (λq=>yG (vl<|B.getD q []) t) x)) (λs=>X B-s.2.2.1.toNat) _ ?_ fu _ ⟨0,T,O,xah _,u.mono kw,O,λ_ _=>O,λh A=>kW A<|xbc _,qi.of λx t=>by show _=_-_*0;grind⟩ (by show X B-(0:J).toNat<fu;lia);rintro _ L ⟨j,e,rfl,hj,g1,C,l,D,v⟩ ih;unfold uw;simp only;by_cases h:j=X B;rw[P W,Y O];simp only[xam,Z9];refine⟨_,O,e,O,g1,C,λq o=>l q W,λq o=>D q W,?_⟩;rw[h]at v;exact v;rw[E W,Y O];simp only[Xs];have e2:(i:J)+j=((i+j:K):J):=W
 have⟨p,p1,G⟩:=zaQ (fu:=fu) M o (V.at j) W w;have d32:d<=32:=W
 have k1:a+1+(b+1)+1111<=256000:=W
 have k2:a+1+(b+1)+1111<=a+b+1113:=W
 have p3:dk (a+b+1113) (p.map cq):=dk.mono (G.opd d32 k1) k2;have⟨z,z1,z2⟩:=znh (fu:=fu) M (u.at<|i+j) p3 W w;have H:xz (yc (d+1) β) (yG z) λt=>yG (vl<|T.getD (i+j) []) t-yG q t*yG (vl<|B.getD j []) t:=by refine z2.kg.trans<|xz.refl.sub ?_;rw[qC];have:=G.kg;rw[qC]at this;exact this
 rw[zp W,ze,e2,vO ⟨W,W⟩,vO ⟨W,W⟩,zp W,ze,zp U,ze,S,Y p1];simp only;rw[Y Jm];simp only;rw[l (i+j) (.inr<|Nm _),Y z1];simp only;rw[Y Jm];simp only;rw[zp W,ze,vO ⟨W,W⟩];have k3:c+1+(a+b+1113)+374<=256000:=W
 have k4:c+1+(a+b+1113)+374<=c+a+b+1488:=W
 have qo:dk (c+a+b+1488) (z.map cq):=dk.mono (z2.opd d32 k3) k4;have R:∀f,f≠i+j->(e.set (i+j)<|z.map cq).getD f []=e.getD f []:=λf hc=>by rw[UV,xfN W,<-UV]
 refine ih _ ⟨j+1,_,O,W,Ml g1 qo,by rw[xaP,C],λf hc=> ?_,λh A=> ?_,?_⟩ (by show X B-((j:J)+1).toNat<X B-(j:J).toNat;lia);rw[R f W];exact l f W
 by_cases he:h=j;subst he;exact⟨z,by rw[UV,xcX W];rfl,z2.rd,H⟩;rw[R (i+h) W];exact D h W
 have a2:=v.add<|qi.mono (i+j)<|H.sub<|xz.refl (F:=yG<|vl<|T.getD (i+j) []);refine qi.trans (qi.of λx t=> ?_)<|a2.trans<|qi.of λx t=> ?_;rw[Cl W,l (i+j) (.inr<|Nm _),qC];rw[eV];show _=_-_*(yc j (λq=>yG (vl<|B.getD q []) t) x+yG (vl<|B.getD j []) t*x^j);grind
theorem zhG(M:FM m r d β){A:N (N Qr)}{b:N (N uP)}{nb its HQ:K}{top:N uP}(H:X b=nb+1)(R:QO (300+1) 4 (mm b))(ht:dk 1404 (top.map cq))(hc:xz (yc (d+1) β) (λt=>yG top t*yG (b.getD nb []) t) λ_=>1)(hp:its=0/\X A<=nb\/X A=its+nb)(hq:X A<=100)
 (c f:K->K) (S:QO (c 0+1) (X A) A) (l:∀s,c s+f s+1788<=c (s+1)) (hi:∀s,s<=its->c s+f s<=240000) (U:∀s,s<its->f s<=HQ) (a:K->N (N Qr)->N (N Qr)->Prop) (hl:a its (So its []) A)
 (V:∀n (Q T:N (N Qr)) (z:N uP),n<its->a (n+1) Q T->bg d z->xz (yc (d+1) β) (yG z) (λt=>yG (vl<|T.getD (n+nb) []) t*yG top t)->Ht (c (its-(n+1))+1+1404+1111) z->Ht (f (its-(n+1))+1) z/\∀g,qi (yc (d+1) β) (jO g) (λx t=>jO T x t-yG z t*x^n*jO (mm b) x t)->a n (Q.set n<|z.map cq) g) (o:3000000<=fu):
 ∃y,zg (uj fu (Z r)<|top.map cq) fu ((its:J)-1,mm b,A,So its [])=Z y/\∃T Q,y=.inl (T,Q)/\QO (c its+1) (X A) T/\QO (HQ+1) its Q/\(∀j,nb<=j->T.getD j []=[])/\qi (yc (d+1) β) (jO A) (λx t=>jO Q x t*jO (mm b) x t+jO T x t)/\a 0 Q T:=by
 have hd:=M.d4;have mono:∀s,c s<=c (s+1):=λs=>by have:=l s;lia
 refine zU (λs=>∃(n:K) (T Q:N (N Qr)),s=((n:J)-1,mm b,T,Q)/\n<=its/\QO (c (its-n)+1) (X A) T/\X T=X A/\QO (HQ+1) its Q/\X Q=its/\(∀j,j<n->Q.getD j []=[])/\(∀j,n+nb<=j->T.getD j []=[])/\qi (yc (d+1) β) (jO A) (λx t=>jO Q x t*jO (mm b) x t+jO T x t)/\a n Q T) (λs=>(s.1+1).toNat) _ ?_ fu _
  ⟨its,A,So its [],O,Nm _,by rw[xcx];exact S,O,zi4 its,m7,λj _=>by rw[UV,xcT];split<;>rfl,λj e=>Mm W,qi.of λx t=>by rw[ziT];grind,hl⟩ (by show((its:J)-1+1).toNat<fu;lia)
 rintro _ L ⟨n,T,Q,rfl,hn,g1,g2,p,g4,q,u,v,w⟩ ih;unfold uj;simp only
 cases n with
 |zero=>
  rw[P W];exact⟨_,O,T,Q,O,g1,p,λj e=>u j W,v,w⟩
 |succ n=>
  have hr:X A=its+nb:=W
  have hu:=hi (its-(n+1)) W;have hm:=l<|its-(n+1);have hv:=U (its-(n+1)) W;rw[(W:its-(n+1)+1=its-n)]at hm;have⟨z,z1,z2⟩:=zaQ (fu:=fu) M (g1.at<|n+nb) ht W o;have h:=z2.kg;rw[qC]at h;have⟨B,zJ⟩:=V n Q T z W w z2.rd h z2.ht;have C:dk (f (its-(n+1))+1) (z.map cq):=⟨UE B W,by rw[xaj];have:=z2.rd.1;lia,by rw[qC];exact B⟩;have D:∀j,(Q.set n<|z.map cq).getD j []=if j=n then z.map cq else Q.getD j []:=λj=>by
   rw[UV,List.getElem?_set];by_cases e:n=j;subst e;rw[E O,E W,E O];rfl;rw[P e,P W,UV]
  obtain⟨_,w1,g,rfl,w2,w3,w4,w5,G⟩:=zj6 (fu:=fu) (t5:=top.map cq) (Q:=Q.set n<|z.map cq) (i:=n) M C (by rw[D,E O]) (by rw[xaP];lia) (by rw[xaP];lia) R g1 (by rw[wY];lia) W W o;rw[E W,wY,H,(W:((n+1:K):J)-1=(n:J)),vO ⟨W,W⟩,vO ⟨W,W⟩,(W:(n:J)+((nb+1:K):J)-1=((n+nb:K):J)),zp W,ze,Y z1];simp only;rw[Y Jm];simp only;rw[zp W,ze,Y w1];simp only;rw[vO ⟨W,W⟩];refine ih _ ⟨n,g,_,O,W,w2.mono W,W,Ml p (C.mono W),by rw[xaP,g4],λj e=>by rw[D,P W];exact q j W,λj e=> ?_,?_,zJ g G⟩ (by show((n:J)-1+1).toNat<(((n+1:K):J)-1+1).toNat;lia);by_cases ho:j=n+nb;subst ho;have⟨y,y1,y2,y3⟩:=w5 nb (by rw[wY];lia);have:y=[]:=by
   refine bg.inj M.fl.one y2 (bg.nil d)<|y3.trans ?_;have a1:xz (yc (d+1) β) (λt=>yG z t*yG (vl<|(mm b).getD nb []) t) λt=>yG (vl<|T.getD (n+nb) []) t*1:=by have b1:=xz.mul (F':=yG<|vl<|(mm b).getD nb []) (G':=yG<|vl<|(mm b).getD nb []) (wk _) ((wk _).mul<|wk top) h xz.refl;refine b1.trans<|xz.trans (xz.of λt=> ?_)<|xz.mul (F':=λt=>yG top t*yG (b.getD nb []) t) (G':=λ_=>1) ((wk _).mul<|wk _) (wk<|vl<|T.getD (n+nb) []) xz.refl hc;rw[K4,qC];grind
   exact(xz.refl.sub a1).trans<|xz.of λt=>by rw[iG];grind
  rw[y1,this];rfl;rw[w4 j (.inr<|by rw[wY];lia)];exact u j W
  refine v.trans<|qi.trans (qi.of λx t=> ?_)<|(qi.refl (F:=λx t=>jO (Q.set n<|z.map cq) x t*jO (mm b) x t)).add G.symm;rw[Cl W,qC,q n W];show _=(_+(_-yG [] t)*_)*_+_;rw[iG];grind
end
end Go.Proofs.YtoegnnjcmlghhaaGreat
