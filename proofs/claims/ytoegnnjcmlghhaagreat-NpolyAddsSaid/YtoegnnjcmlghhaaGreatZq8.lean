/- What a proof needs: rules of walking, mirrors of functions and their plain laws. No condition. -/
import Derived.Test.YtoegnnjcmlghhaaGreatZq7
set_option linter.all false
namespace Go.Proofs.YtoegnnjcmlghhaaGreat
open Bool renaming false->I,true->wT
open Go renaming maxLen->QR,madeCells->lm
open Go.Proofs.YtoegnnjcmlghhaaGreat renaming cf->M,bd->G,za->Y,Zr->U,ci->C,nm->B,Qr->D,ze->F,iq->Q,pc->E,zf->A,ir->S,nv->P
open List renaming length->X,length->Ap
open Nat renaming beq->R
open Option renaming some->Z
open _root_ renaming rfl->O,List->N,Int->J,Nat->K,Option->V,List->ww,Int->wF,Nat->wL,Option->wN,absurd->jp,Bool->ut,Rat->uL,funext->uT,Unit->Wd,True->Wr,False->UP,propext->lM
open Classical renaming axiomOfChoice->xeG
open Int renaming mul_comm->xbI,zero_ediv->xek,zero_emod->xaq
open List renaming drop_eq_getElem_cons->xbX,ext_getElem->xeb,filter_cons_of_neg->xfn,filter_cons_of_pos->xfm,getElem?_append_left->xaZ,getElem?_set_ne->xfN,length->xaK,length_range->xex,map_congr_left->xcc,mem_iff_getElem->xcr,pairwise_iff_getElem->xcU,range->xaC,range_succ->xcT,replicate->So,take_add_one->xeV
open Nat renaming add_mul->xbk,lt_of_lt_of_le->xag,mul_add->xcp,mul_left_comm->xfw,pow_add->xbg,pow_le_pow_right->xam,pow_mul->xcg,pow_succ->xbA
open Prod renaming ext->xfo
open Rat renaming divInt->xff,intCast_neg->xfp
section
variable{a b k:wL}{p:wF}{f u v g q:Pz}
def znu{A B:Pz}{d e:K}(c:Mn A d)(h:Mn B e):Mn (A*B) (d+e):=
 ⟨by rw[aU c.2 h.2,c.1,h.1];rfl,λk l=>uE (n:=d+1) (m:=e+1) (λj i=>c.2 j W)<|λj i=>h.2 j W⟩
def zjR:∀{l:N Pz},(∀A∈l,∃d,Mn A d)->∃d,Mn (prZ l) d
 |[],_=>⟨0,O,λk j=>by show E 1 k=0;unfold E;rw[zG]⟩
 |A::l,h=>by
  have⟨d,hd⟩:=h A<|IR;have⟨e,c⟩:=zjR λB i=>h B<|FS _ i;exact⟨d+e,znu hd c⟩
def pS{α:Type}(F:α->Pz)(P:α->ut):∀l:N α,prZ (l.map F)=prZ ((l.filter P).map F)*prZ ((l.filter λx=> !P x).map F)
 |[]=>(yp _).symm
 |x::l=>by
  have c:=pS F P l
  cases h:P x with
  |true=>
   rw[xfm h,xfn<|by rw[h];decide];show F x*_=F x*_*_;rw[c,zd]
  |false=>
   rw[xfn (by rw[h];decide),xfm<|by rw[h];rfl];show F x*_=_*(F x*_);rw[c,zF]
def zaI{P:J}(hp:qt P=wT){a b:Pz}{c:J}(s:Fs a)(t:Fs b)(h:Cg P (a*b) (E c))(hc:¬P∣c):∃x,Cg P a (E x):=by
 have⟨F,G⟩:=zA hp;obtain⟨Q,rfl⟩:=xaE (W:0<=P);have l:=WB hp;rw[xba]at l;have d:∀f:Pz,Fs f->¬Cg (Q:J) f (E 0)->∃g n,Tp g n/\Cg (Q:J) g f/\¬(Q:J)∣g n:=λf w hn=>by
  have f2:Fs (λk=>f k%(Q:J)):=by have⟨n,hn⟩:=w;exact⟨n,λk y=>by show f k%_=0;rw[hn k y,xaq]⟩
  have⟨n,h1⟩:=Tp.ex f2 (xak λz=>hn λk=>by
   have:=Nz.not z k;rw[zS,xaq];exact this)
  exact⟨_,n,h1,λk=>xaR _ _,λhd=>h1.1 (by show f n%_=0;have:=xax hd;rwa[xaR]at this)⟩
 have A:¬Cg (Q:J) a (E 0):=λe=>hc (by have:=(h.symm.trans<|e.mul_zero_r b).dvd 0;unfold E at this;rwa[iq O]at this)
 have B:¬Cg (Q:J) b (E 0):=λe=>hc (by have:=(h.symm.trans<|e.mul_zero_l a).dvd 0;unfold E at this;rwa[iq O]at this)
 have⟨u,i,m,o,H⟩:=d a s A;have⟨v,j,v1,C,v3⟩:=d b t B;have h1:=(o.mul C).trans h;by_cases D:i=0
 subst D;obtain⟨x,rfl⟩:=((rk.tp m).2 O).ex;exact⟨x,o.symm⟩;exfalso;have r:=h1<|i+j;rw[aU m.2 v1.2,show E c (i+j)=0 from zG,xaq]at r;rcases Nf W l (xaH r)with h3|h3
 lia;exact v3 h3
theorem tz{p a:J}(hp:qt p=wT)(d:a%p≠0):∀k,∃w,p^k∣w*a-1
 |0=>⟨0,by rw[xce];exact Int.one_dvd _⟩
 |k+1=>by
  have⟨l,m⟩:=zA hp;by_cases i:k=0
  subst i;obtain⟨Q,rfl⟩:=xaE (W:0<=p);have⟨w,c⟩:=zbr hp λh=>d<|xax h;grind;have⟨w,c⟩:=tz hp d k;refine⟨w*(2-w*a),?_⟩;have e:w*(2-w*a)*a-1= -((w*a-1)*(w*a-1)):=by grind
  rw[e];refine Int.dvd_neg.2<|xbw (mQ (j:=k+k)) ?_;rw[Int.pow_add];exact xfU c c
abbrev Lx:=N U×N J
def pu(xs:N Lx):Pz:=prZ<|xs.map λx=>(M x.1:Pz)
def pl(xs:N Lx):Pz:=prZ<|xs.map λx=>(C x.2:Pz)
def znO(xs:N Lx):Fs (pu xs):=Fs.prZ λf c=>by
 obtain⟨x,_,rfl⟩:=xat.1 c;exact Fs.cf _
def zqN(xs:N Lx):Fs (pl xs):=Fs.prZ λf c=>by
 obtain⟨x,_,rfl⟩:=xat.1 c;exact Fs.ci _
structure Lc(p:J)(k:K)(f:Pz)(n:K)(xs:N Lx):Prop where
 hp:qt p=wT
 k1:1<=k
 el:∀x∈xs,Up p k x.1 x.2/\Jj p x.2/\x.2.length<=66
 pw:xs.Pairwise λa b=>km p (C a.2)<|C b.2
 tp:Tp f n
 nb:n<=64
 ps:0<f n
 lc:f n%p≠0
 pm:Pm f
 cg:Cg (p^k) f (E (f n)*pu xs)
def zqQ{x:Lx}(h:Up p k x.1 x.2/\Jj p x.2/\X x.2<=66):Mn (M x.1) (X x.2-1):=by have⟨h1,d,_⟩:=h;have c:=h1.top;rw[h1.len]at c;exact⟨c,λj e=>ym<|by rw[h1.len];lia⟩
def TG{p:J}{k:K}:∀{xs:N Lx},(∀x∈xs,Up p k x.1 x.2/\Jj p x.2/\X x.2<=66)->Cg p (pu xs) (pl xs)
 |[],_=>Cg.rfl
 |x::xs,h=>(h x<|IR).1.cg.mul<|TG λy c=>h y<|FS _ c
def zrj{xs:N Lx}(h:∀x∈xs,Up p k x.1 x.2/\Jj p x.2/\X x.2<=66):∃d,Mn (pu xs) d:=zjR λA c=>by
 obtain⟨x,e,rfl⟩:=xat.1 c;exact⟨_,zqQ<|h x e⟩
def zj1{xs:N Lx}(h:∀x∈xs,Up p k x.1 x.2/\Jj p x.2/\X x.2<=66):∃d,Mn (pl xs) d:=zjR λA c=>by
 obtain⟨x,e,rfl⟩:=xat.1 c;exact⟨_,(h x e).2.1.mn.mn⟩
def Lc.lcp{n:K}{xs:N Lx}(h:Lc p k f n xs):Cg p f (E (f n)*pl xs):=
 (h.cg.down<|uh h.k1).trans (Cg.rfl.mul<|TG h.el)
def Lc.sf{n:K}{xs:N Lx}(h:Lc p k f n xs):∃(m:N J) (w:J),Sf p m (xs.map (·.2))/\Cg p (C m) (E w*f):=by
 have⟨A,B⟩:=zA h.hp;have⟨w,i⟩:=tz h.hp h.lc 1;rw[xbO,xce,xdd]at i;have o:∀k,n+1<=k->(λk=>(w*f k)%p) k=0:=λk D=>by
  show(w*f k)%p=0;rw[h.tp.2 k W,xaA,xaq]
 have hc:(w*f n)%p=1:=by have:=(xcA (w*f n)<|xei p);have d:(w*f n)%p=1%p:=xaM.2<|xax i;rw[d,xaJ rx W]
 have c:=DT o;have hd:=Ck (n+1)<|λk=>(w*f k)%p;have r:=Mi (n+1)<|λk=>(w*f k)%p;have⟨m,s⟩:∃m,m=nl (n+1) (λk=>(w*f k)%p):=⟨_,O⟩;rw[<-s]at c hd r;have t:X m=n+1:=by
  by_cases e:X m=n+1
  exact e;have:=c n;rw[yz W]at this;lia
 have l:Cg p (C m) (E w*f):=λk=>by rw[c k,zY];exact xaR _ _
 refine⟨m,w,⟨h.hp,⟨⟨λk=>by rw[c k];exact(xf).1,λk=>by rw[c k];exact(xf).2,hd⟩,W,by rw[c];show(w*f (X m-1))%p=1;rw[t];exact hc⟩,by have:=h.nb;lia,λu y=> ?_,?_,?_⟩,l⟩;obtain⟨x,z,rfl⟩:=xat.1 y;have⟨_,d,F⟩:=h.el x z;exact⟨d,W⟩;exact xey.2 h.pw;refine l.trans<|(Cg.rfl.mul h.lcp).trans ?_;rw[<-zd,ky,xcE];refine Cg.trans (Cg.mul (f':=E 1) (λj=> ?_) Cg.rfl)<|Cg.of<|zE _;unfold E;split;rw[hc];exact(xaJ rx W).symm;rfl
noncomputable def own(p:J)(u:Pz)(xs:N Lx):N Lx:=by
 classical exact xs.filter λx=>decide<|Di p (C x.2) u
noncomputable def oth(p:J)(u:Pz)(xs:N Lx):N Lx:=by
 classical exact xs.filter λx=> !decide (Di p (C x.2) u)
theorem dS{xs:N Lx}{x:Lx}:x∈own p u xs↔x∈xs/\Di p (C x.2) u:=by grind [own]
def zdf(p:J)(u:Pz)(xs:N Lx):pu xs=pu (own p u xs)*pu (oth p u xs)/\pl xs=pl (own p u xs)*pl (oth p u xs):=by exact⟨pS _ _ xs,pS _ _ xs⟩
def Lc.or{n:K}{xs:N Lx}(h:Lc p k f n xs)(fu:Fs u)(d:Fs v)(l:∀j,b<=j->u j=0)(o:b<=290)(e:f=u*v){x:Lx}(c:x∈xs):(Di p (C x.2) u\/Di p (C x.2) v)/\¬(Di p (C x.2) u/\Di p (C x.2) v):=by
 have⟨m,w,r,s⟩:=h.sf;have⟨h1,t,D⟩:=h.el x c;have A:x.2∈xs.map (·.2):=xbE c;constructor;obtain hd|hc:=t.or' h.hp W l o
 simp_all;right;have i:Di p (C x.2) f:=by refine Di.cg ?_ h.lcp.symm;exact(dN (λy B=>by obtain⟨z,_,rfl⟩:=xat.1 B;exact Fs.ci _)<|xbE c).mul _<|Fs.pc _
 rw[e]at i;exact Di.euclid d hc i;rintro⟨d1,d2⟩;exact r.apart fu d ⟨E w,Fs.pc w,by rw[<-e];exact s⟩ A d1 d2
def Lc.oth_own{n:K}{xs:N Lx}(h:Lc p k f n xs)(fu:Fs u)(c:Fs v)(d:∀j,b<=j->u j=0)(i:b<=290)(e:f=u*v):oth p u xs=own p v xs:=by refine List.filter_congr λx l=> ?_;have⟨h1,m⟩:=h.or fu c d i e l;by_cases hd:Di p (C x.2) u;simp_all;simp_all
def Lc.pcop{n:K}{xs:N Lx}(h:Lc p k f n xs):(own p u xs).Pairwise (λa b=>km p (C a.2)<|C b.2):=by exact h.pw.sublist List.filter_sublist
def Lc.odv{n:K}{xs:N Lx}(h:Lc p k f n xs)(fu:Fs u):Di p (pl<|own p u xs) u:=by refine Di.prz fu (λy c=>by obtain⟨z,_,rfl⟩:=xat.1 c;exact Fs.ci _) (xey.2 h.pcop) λy c=> ?_;obtain⟨z,d,rfl⟩:=xat.1 c;exact(dS.1 d).2
def DZ{n:K}{xs:N Lx}(h:Lc p k f n xs)(u:Pz):∀x∈own p u xs,Up p k x.1 x.2/\Jj p x.2/\X x.2<=66:=λx c=>h.el x (dS.1 c).1
def Lc.loc{n:K}{xs:N Lx}(h:Lc p k f n xs)(c:Tp u a)(hv:Tp v b)(e:f=u*v):Cg p u (E (u a)*pl (own p u xs))/\Mn (pl<|own p u xs) a:=by
 have⟨t,G⟩:=zA h.hp;have fu:=c.fs;have o:=hv.fs;have w:a+b=n:=by have:=c.mul hv;rw[<-e]at this;exact this.uniq h.tp
 have y:f n=u a*v b:=by rw[<-w,e,aU c.2 hv.2]
 have z:oth p u xs=own p v xs:=h.oth_own fu o (b:=a+1) (λj H=>c.2 j W) (by have:=h.nb;lia) e;have⟨α,i,h1⟩:=h.odv fu;have⟨β,l,A⟩:=h.odv o;have⟨d0,hi⟩:=zj1 h.el;have r:=(zdf p u xs).2;rw[z]at r;have B:Cg p ((α*β-E (f n))*pl xs) (E 0):=by rw[ki];refine Cg.iff_sub.1<|Cg.trans ?_ h.lcp;rw[e];refine Cg.trans (Cg.of ?_) (h1.mul A).symm;rw[r,zd α,zd α,zF (pl<|own p u xs) β]
 have C:=hi.zero t ((i.mul l).subt<|Fs.pc _) λj _=>by rw[B j,zS,xaq]
 have hc:¬p∣f n:=λhd=>h.lc<|xax hd;have⟨x,D⟩:=zaI h.hp i l (Cg.iff_sub.2 C) hc;have m:Cg p u (E x*pl (own p u xs)):=h1.trans<|D.mul Cg.rfl;have⟨d,hd⟩:=zj1<|DZ h u;have s:¬p∣u a:=λhd=>hc (by rw[y];exact xbw hd<|xbZ _ _);have t1:=m a;have t2:=m d;rw[zY]at t1 t2;rw[hd.1,xcO]at t2;have F:a=d:=by by_cases c1:a<d;exfalso;rw[c.2 d c1,xaq]at t2;refine s<|xaH ?_;rw[t1,xcd,<-t2,xbc,xaq];by_cases c2:d<a;exfalso;rw[hd.2 a c2,xaA,xaq]at t1;exact s<|xaH t1;lia
 subst F;refine⟨m.trans<|Cg.mul (λj=> ?_) Cg.rfl,hd⟩;unfold E;split;exact t2.symm;rfl
theorem Lc.up{n:K}{xs:N Lx}(h:Lc p k f n xs)(i:Tp u a)(hv:Tp v b)(e:f=u*v):Cg (p^k) u (E (u a)*pu (own p u xs)):=by
 have⟨T,p2⟩:=zA h.hp;have fu:=i.fs;have s:=hv.fs;have U:a+b=n:=by have:=i.mul hv;rw[<-e]at this;exact this.uniq h.tp
 have t:f n=u a*v b:=by rw[<-U,e,aU i.2 hv.2]
 have L:¬p∣f n:=λhd=>h.lc<|xax hd;have V:u a%p≠0:=λhd=>L (by rw[t];exact xbw (xaH hd)<|xbZ _ _);have ht:v b%p≠0:=λhd=>L (by rw[t];exact xbw (xaH hd)<|xcK _ _);have Y:oth p u xs=own p v xs:=h.oth_own fu s (b:=a+1) (λj m=>i.2 j W) (by have:=h.nb;lia) e;have⟨l1,m1⟩:=h.loc i hv e;have⟨l2,m2⟩:=h.loc hv i (by rw[e,zo]);have⟨w,o⟩:=tz h.hp V k;have⟨z,P⟩:=tz h.hp ht k;have C:=uh (p:=p) h.k1;have one:∀{M c d:J},M∣c*d-1->Cg M (E c*E d) (E 1):=λ{M c d} hd j=>by
  rw[ky];unfold E;split;exact xaM.2<|xax hd;rfl
 have hA:∃A:Pz,Mn A a/\Fs A/\Cg (p^k) A (E w*u):=by refine⟨λj=>if j=a then 1 else w*u j,⟨Q O,λj m=> ?_⟩,⟨a+1,λj m=> ?_⟩,λj=> ?_⟩;show(if j=a then(1:J)else w*u j)=0;rw[zG,i.2 j m,xaA];show(if j=a then(1:J)else w*u j)=0;rw[zG,i.2 j W,xaA];show(if j=a then(1:J)else w*u j)%_=_;rw[zY];by_cases c:j=a;rw[Q c,c];exact(xaM.2<|xax o).symm;rw[S c]
 have⟨A,D,fA,F⟩:=hA;have⟨l,G⟩:=zrj<|DZ h u;have H:=TG<|DZ h u;have hB:=TG<|DZ h v;have r:Cg p A (pl<|own p u xs):=by refine(F.down C).trans<|(Cg.rfl.mul l1).trans ?_;rw[<-zd];exact(Cg.mul (one<|xbw C o) Cg.rfl).trans<|Cg.of<|zE _
 have cv:Cg p (E z*v) (pl<|own p v xs):=by refine(Cg.rfl.mul l2).trans ?_;rw[<-zd];exact(Cg.mul (one<|xbw C P) Cg.rfl).trans<|Cg.of<|zE _
 have mu:Mn (pu<|own p u xs) a:=by
  have t1:=(H.trans r.symm) a;have t2:=(H.trans r.symm) l;rw[D.1]at t1;rw[G.1]at t2;have R:(1:J)%p=1:=xaJ rx W;have:l=a:=by
   by_cases c1:l<a;rw[G.2 a c1,xaq,R]at t1;cases t1
   by_cases c2:a<l;rw[D.2 l c2,xaq,R]at t2;cases t2
   lia
  rw[<-this];exact G
 have hn:km p (pl<|own p u xs) (pl<|own p v xs):=by
  have:=Me (p:=p) (A:=(own p u xs).map (·.2)) (B:=(own p v xs).map (·.2)) λc hc d hd=>by
   obtain⟨x,hx,rfl⟩:=xat.1 hc;obtain⟨y,hy,rfl⟩:=xat.1 hd;have hi:=dS.1 hx;have hp:=dS.1 hy;have⟨_,i1,i2⟩:=h.el x hi.1;have⟨_,i3,i4⟩:=h.el y hp.1;refine i1.cop h.hp i3 W W λee=> ?_;have:=(h.or fu s (b:=a+1) (λj m=>i.2 j W) (by have:=h.nb;lia) e hi.1).2;exact this ⟨hi.2,by rw[ee];exact hp.2⟩
  rw[xcE,xcE]at this;exact this
 have hl:Cg (p^k) (A*(E z*v)) (pu (own p u xs)*pu (own p v xs)):=by
  have e1:=(zdf p u xs).1;rw[Y]at e1;rw[<-e1];refine(F.mul Cg.rfl).trans ?_;have e2:E w*u*(E z*v)=E w*(E z*f):=by rw[e,zd,zF u (E z) v]
  rw[e2];refine(Cg.mul Cg.rfl<|Cg.mul Cg.rfl h.cg).trans ?_;have e3:E w*(E z*(E (f n)*pu xs))=(E w*E (u a))*((E z*E (v b))*pu xs):=by rw[t,<-zd,<-zd,<-zd,ky,ky,ky,ky,ky];congr 2;grind
  rw[e3];exact(Cg.mul (one o)<|(Cg.mul (one P) Cg.rfl).trans<|Cg.of<|zE _).trans<|Cg.of<|zE _
 have⟨r1,_⟩:=S8 T D mu fA (znO _) ((Fs.pc z).mul s) (znO _) (hn.congr r.symm cv.symm) (r.trans H.symm) (cv.trans hB.symm) k hl;refine Cg.trans ?_<|Cg.rfl.mul r1;refine Cg.trans ?_<|Cg.rfl.mul F.symm;rw[<-zd];refine Cg.symm<|(Cg.mul (one (d:=w) ?_) Cg.rfl).trans<|Cg.of<|zE _;rw[xbI];exact o
def Lc.step{n:K}{xs:N Lx}(h:Lc p k f n xs)(c:Tp g a)(d:Tp q b)(m:0<g a)(e:f=q*g):Lc p k q b (oth p g xs):=by
 have i:f=g*q:=by rw[e,zo]
 have o:a+b=n:=by have:=c.mul d;rw[<-i]at this;exact this.uniq h.tp
 have l:f n=g a*q b:=by rw[<-o,i,aU c.2 d.2]
 have r:=h.oth_own c.fs d.fs (b:=a+1) (λj s=>c.2 j W) (by have:=h.nb;lia) i;have hc:=h.ps;rw[r];refine⟨h.hp,h.k1,DZ h q,h.pcop,d,by have:=h.nb;lia,?_,λhd=> ?_,?_,h.up d c e⟩;rw[l]at hc;exact Int.pos_of_mul_pos_right hc m;exact h.lc<|by rw[l];exact xax<|xbw (xaH hd)<|xcK _ _
 have:=h.pm;rw[e]at this;exact this.left
def Lc.pick{n:K}{xs S:N Lx}(h:Lc p k f n xs)(o:∀x∈S,x∈xs)(H:Tp g a)(V:Tp q b)(e:f=g*q){γ:J}(hc:Cg p (E γ*g) (E (f n)*pl S)){x:Lx}(r:x∈xs):Di p (C x.2) g↔x∈S:=by
 have⟨s,Y⟩:=zA h.hp;have D:¬p∣f n:=λhd=>h.lc<|xax hd;have l:=λy i=>h.el y<|o y i;have⟨d,hd⟩:=zj1 l;have m:¬p∣γ:=λhi=>D (by have t:=hc d;rw[zY,zY,hd.1,xcO]at t;refine xaH ?_;rw[<-t];exact xax<|xbw hi<|xbZ _ _)
 have⟨_,i1,i2⟩:=h.el x r;have j:∀{c:J}{y:Pz},¬p∣c->Fs y->Di p (C x.2) (E c*y)->Di p (C x.2) y:=λ{c y} hc L hd=>by
  rcases i1.or' h.hp W (f:=E c) (n:=1) (λk hk=>by unfold E;rw[zG]) rx with h1|h1
  exact jp (i1.const s h1) hc;exact Di.euclid L h1 hd
 constructor
 intro h1;have M:Di p (C x.2) (pl S):=j D (zqN S)<|(h1.mul (E γ)<|Fs.pc γ).cg hc;have P:=i1.mem h.hp (us:=S.map (·.2)) W (λw Q=>by
  obtain⟨y,i,rfl⟩:=xat.1 Q;have⟨_,R,j2⟩:=l y i;exact⟨R,W⟩) (by rw[xcE];exact M)
 have⟨y,i,T⟩:=xat.1 P;have:x=y:=by
  by_cases ne:x=y;exact ne;exfalso;have KJ:=h.pw;have F:km p (C x.2) (C y.2):=by
   have⟨A,B,U⟩:=xeo r;have G:=o y i;rw[U]at G KJ;rw[xdm,xdi]at KJ;obtain h4|h4:=xab.1 G
   exact(KJ.2.2 y h4 x<|IR).symm;obtain h5|h5:=xai.1 h4
   exact jp h5.symm ne;exact KJ.2.1.1 y h5
  rw[T]at F;exact i1.self s F
 rw[this];exact i;intro h1;refine j m H.fs<|Di.cg ?_ hc.symm;exact(dN (λy i=>by obtain⟨z,_,rfl⟩:=xat.1 i;exact Fs.ci _)<|xbE (f:=λx:Lx=>(C x.2:Pz)) h1).mul _<|Fs.pc _
end
section
variable{f u v g q:Pz}{p:wF}{k N:wL}{xs:ww Lx}{a:ww wF}
theorem zst{α:Type}{P Q R:α->ut}:∀{l:ww α},(∀x∈l,P x=wT->R x=wT)->(∀x∈l,Q x=wT->R x=wT)->(∀x∈l,¬(P x=wT/\Q x=wT))->X (l.filter P)+X (l.filter Q)<=X (l.filter R)
 |[],_,_,_=>Nm _
 |x::l,h1,c,d=>by
  have e:=zst (λy b=>h1 y<|FS _ b) (λy b=>c y<|FS _ b) λy b=>d y<|FS _ b;grind
def Ls(p:J)(f:Pz)(xs:ww Lx)(c:K):Prop:=∀u v,Fs u->Fs v->f=u*v->¬rk u->c<=X (own p u xs)
def Jf(c:Nz f)(e:f=u*v):Nz u/\Nz v:=by have⟨k,b⟩:=c;rw[e]at b;exact⟨xak λhn=>b (xb λi _=>by rw[Nz.not hn i,xbc]),xak λhn=>b<|xb λi _=>by rw[Nz.not hn _,xaA]⟩
def Ls.one{n:K}(h:Lc p k f n xs):Ls p f xs 1:=λu v fu i e j=>by
 have⟨l,P⟩:=Jf h.tp.nz e;have⟨a,c⟩:=Tp.ex fu l;have⟨b,m⟩:=Tp.ex i P;have⟨_,d⟩:=h.loc c m e
 cases o:own p u xs with
 |nil=>
  exfalso;rw[o]at d;have h1:=d.1;refine j<|(rk.tp c).2<|xak λh0=> ?_;rw[show pl [] a=0 from S h0]at h1;cases h1
 |cons x r=>exact Nat.succ_le_succ<|xaf _
def Ls.two{w:Pz}{n:K}(h:Lc p k f n xs)(fu:Fs u)(c:Fs v)(d:Fs w)(e:f=u*v*w):X (own p u xs)+X (own p v xs)<=X (own p (u*v) xs):=by
 classical
 have⟨n1,nw⟩:=Jf h.tp.nz e;have⟨l,P⟩:=Jf n1 O;have⟨a,i⟩:=Tp.ex fu l;have⟨b,m⟩:=Tp.ex (c.mul d)<|Nz.mul c d P nw;have hc:a+b=n:=by have:=i.mul m;rw[<-zd,<-e]at this;exact this.uniq h.tp
 refine zst (λx _ h1=> ?_) (λx _ h1=> ?_) λx o ⟨h1,r⟩=> ?_;refine Ws ?_;rw[zo];exact(WL h1).mul v c;exact Ws<|(WL h1).mul u fu;refine(h.or fu (c.mul d) (b:=a+1) (λj s=>i.2 j W) (by have:=h.nb;lia) (by rw[e,zd]) o).2 ⟨WL h1,?_⟩;rw[zo];exact(WL r).mul w d
def Ls.ir{n c:K}(h:Lc p k f n xs)(hl:Ls p f xs c)(hc:1<=c)(i:Fs g)(fq:Fs q)(e:f=g*q)(pm:Pm g)(j:¬rk g)(hn:X (own p g xs)<2*c):Ir g:=by refine⟨i,pm,j,λu v fu b l=>xak λd=> ?_⟩;have m:=λh=>d (.inl h);have cv:=λh=>d (.inr h);subst l;have h1:=hl u (v*q) fu (b.mul fq) (by rw[e,zd]) m;have o:=hl v (u*q) b (fu.mul fq) (by rw[e,zd,zF]) cv;have r:=Ls.two h fu b fq e;lia
def Ls.step{n c:K}(h:Lc p k f n xs)(hl:Ls p f xs c)(d:Fs g)(fq:Fs q)(e:f=q*g):Ls p q (oth p g xs) c:=λu v fu i m o=>by
 classical
 subst m;have h1:=hl u (v*g) fu (i.mul d) (by rw[e,zd]) o;have⟨n1,r⟩:=Jf h.tp.nz e;have⟨a,l⟩:=Tp.ex d r;have⟨b,s⟩:=Tp.ex fq n1;have hc:b+a=n:=by have:=s.mul l;rw[<-e]at this;exact this.uniq h.tp
 have:own p u (oth p g xs)=own p u xs:=by unfold own oth;rw[List.filter_filter];refine List.filter_congr λx t=> ?_;by_cases hd:Di p (C x.2) u;have w:=(h.or d fq (b:=a+1) (λj z=>l.2 j W) (by have:=h.nb;lia) (by rw[e,zo]) t).2;rw[Ws hd,Ww λy=>w ⟨y,by rw[zo];exact hd.mul v i⟩];rfl;simp_all
 simp_all
structure CC(N c:K)(a:ww J):Prop where
 ln:a.length=c
 lo:∀i,i<c->(i:J)<=C a i
 hi:∀i,i<c->C a i+c<=N+i
 st:∀i,i+1<c->C a i<C a (i+1)
def Lt(f g:K->J)(c:K):Prop:=∃j,j<c/\f j<g j/\∀k,k<j->f k=g k
def Gr(f g:K->J)(c:K):(∀k,k<c->f k=g k)\/Lt f g c\/Lt g f c:=by by_cases h:∃k,k<c/\f k≠g k;have⟨j,⟨d,m⟩,i⟩:=zm8 h;have e:=λk b=>xak λhn=>i k b ⟨W,hn⟩;by_cases l:f j<g j;exact .inr (.inl ⟨j,d,l,e⟩);exact .inr (.inr ⟨j,d,W,λk b=>(e k b).symm⟩);simp_all
theorem Lt.asy{f g:K->J}{c:K}(h:Lt f g c)(b:Lt g f c):UP:=by have⟨i,i1,i2,d⟩:=h;have⟨j,l,m,n⟩:=b;by_cases e:i<j;simp_all;grind
def nxA(c k:K)(a:ww J):ww J:=zl c λi=>if i<k then C a i else C a k+1+((i:J)-k)
theorem CC.up{N c:K}{T:ww J}(b:CC N c T){i:K}:∀d,i+d<c->C T i+d<=C T (i+d)
 |0,_=>by rw[xbT];lia
 |d+1,h=>by
  have h1:=b.up (i:=i) d W;have e:=b.st (i+d) W;grind
def aY{c:K}{i:K}(h:i<c:=by lia):C (nxA c k a) i=if i<k then C a i else C a k+1+((i:J)-k):=ZI h
theorem CC.next{c:K}(h:CC N c a)(b:k<c)(h1:C a k+c<N+k):CC N c (nxA c k a):=by refine⟨ye _ _,λi hi=> ?_,λi hi=> ?_,λi hi=> ?_⟩;rw[aY hi];have:=h.lo i hi;have:=h.lo k b;lia;rw[aY hi];have:=h.hi i hi;lia;rw[aY,aY hi];by_cases e:i+1<k;rw[yg,Q e];exact h.st i hi;by_cases d:i<k;have:=h.st i hi;grind;lia
def zsl{c:K}{T:ww J}(l:CC N c T)(r:k<c)(n:∀i,k<i->i<c->C a i+c=N+i)(h:Lt (C a) (C T) c):(∀i,i<c->C (nxA c k a) i=C T i)\/Lt (C<|nxA c k a) (C T) c:=by
 have⟨j,b,o,m⟩:=h;have hc:j<=k:=by by_cases e:j<=k;exact e;have:=n j W b;have:=l.hi j b;lia
 by_cases e:j<k;exact .inr ⟨j,b,by rw[aY b,Q e];exact o,λi hi=>by rw[aY,yg];exact m i hi⟩;obtain rfl:j=k:=W
 rcases Gr (C<|nxA c j a) (C T) c with h1|h1|h1
 simp_all;simp_all;exfalso;have⟨i,i1,i2,s⟩:=h1;rw[aY i1]at i2;by_cases d:i<j;rw[Q d,m i d]at i2;lia;rw[S d]at i2;have:=l.up (i:=j) (i-j) W;rw[(W:j+(i-j)=i)]at this;lia
def msr(N:K)(f:K->J):K->K
 |0=>0
 |n+1=>msr N f n*(N+1)+(N-(f n).toNat)
def zkk(N:K)(f:K->J):∀n,msr N f n+1<=(N+1)^n
 |0=>Nm _
 |n+1=>by
  have b:=xac (N+1)<|zkk N f n;rw[xbk]at b;show msr N f n*(N+1)+(N-(f n).toNat)+1<=(N+1)^n*(N+1);lia
def ziO{N:K}{f g:K->J}:∀n,(∀k,k<n->f k=g k)->msr N f n=msr N g n
 |0,_=>rfl
 |n+1,h=>by
  show msr N f n*(N+1)+_=msr N g n*(N+1)+_;rw[ziO n λk b=>h k W,h n W]
def zjV{N:K}{f g:K->J}{j:K}(h0:∀k,k<j->f k=g k)(h1:0<=g j)(b:f j=g j+1)(c:f j<=N):∀d,msr N f (j+1+d)+1<=msr N g (j+1+d)
 |0=>by
  show msr N f j*(N+1)+_+1<=msr N g j*(N+1)+_;rw[ziO j h0];lia
 |d+1=>by
  have e:=xac (N+1)<|zjV h0 h1 b c d;rw[xbk]at e;show msr N f (j+1+d)*(N+1)+(N-(f<|j+1+d).toNat)+1<=msr N g (j+1+d)*(N+1)+(N-(g<|j+1+d).toNat);lia
end
section
variable{B R Q:Pz}{la lb ql K J fu:wL}{b a:ww Zr}
structure DvZ(A B Q R:Pz)(la lb n ql K J:wL):Prop where
 eq:A=Q*B+R
 q1:∀k,k<n->Q k=0
 q2:∀k,ql<=k->Q k=0
 r:∀k,n+(lb-1)<=k->R k=0
 bz:∀k,Bz (K+(ql-n)*(J+1))<|R k
 bq:∀k,Bz (K+(ql-n)*(J+1))<|Q k
theorem ML{n m:wL}(e:Tp B m)(h:Zd B R)(g:∀k,n+m<=k->R k=0):∃w:Pz,R=w*B/\∀k,n<=k->w k=0:=by
 obtain⟨w,f,rfl⟩:=h;refine⟨w,O,?_⟩;by_cases nw:Nz w
 ·obtain⟨d,hd⟩:=Tp.ex f nw;have h1:=(hd.mul e).1;intro k i;refine hd.2 k ?_;by_cases c:d<n
  ·lia
  ·simp_all
 ·exact λk _=>Nz.not nw k
theorem DvZ.step{A:Pz}{n:wL}(h:DvZ A B Q R la lb (n+1) ql K J)(f:Tp B (lb-1))(hn:n+1<=ql){c:wF}(hc:R (n+(lb-1))=c*B (lb-1))(i:∀k,Bz J<|B k):
 DvZ A B (XV Q n c) (λk=>R k-c*sh B n k) la lb n ql K J:=by
 have hd:Bz (K+(ql-(n+1))*(J+1)) c:=(h.bz<|n+(lb-1)).le (by
  rw[hc,xcw];exact xcj _ (by have:=f.1;lia))
 have g:K+(ql-n)*(J+1)=K+(ql-(n+1))*(J+1)+J+1:=by rw[(W:ql-n=ql-(n+1)+1),xbk];lia
 have e1:XV Q n c=Q+mono n c:=uT λk=>by
  rw[zX];unfold XV mono;by_cases e:k=n
  ·rw[iq e,iq e,e,h.q1 n W];lia
  ·lia
 refine⟨?_,λk d=> ?_,λk d=> ?_,λk d=> ?_,λk=> ?_,λk=> ?_⟩
 ·rw[e1,yV];funext k;have:=WP h.eq k;rw[zX]at this;rw[zX,zX,VZ];show _=_+_+(R k-c*sh B n k);lia
 ·unfold XV;rw[zG];exact h.q1 k W
 ·unfold XV;rw[zG];exact h.q2 k d
 ·show R k-c*sh B n k=0;unfold sh;rw[yg];by_cases e:k=n+(lb-1)
  ·rw[e,hc,(W:n+(lb-1)-n=lb-1)];lia
  ·rw[h.r k W,f.2 _ W];lia
 ·rw[g];refine Bz.sub ((h.bz k).mono W)<|hd.mul ?_;unfold sh;split
  ·exact i _
  ·exact Bz.zero _
 ·rw[g];unfold XV;split
  ·exact hd.mono W
  ·exact(h.bq k).mono W
theorem zlY{n:wL}{c:wF}(d:xa J b)(o:X b=lb)(hn:n+lb<=la)(hl:la<=1000)(i:∀k,Bz K<|R k)(hc:Bz K c)(p:K+J+1<=40000)(f:3000000<=fu):
 zg (bn fu (n:wF) b) fu ((0:wF),b,zi la R,zi ql Q,yC c)=Z (b,zi la<|λk=>R k-c*sh (M b) n k,zi ql Q):=by
 refine zB (λs:wF×N U×N U×N U×U=>∃j:wL,j<=lb/\s=((j:wF),b,zi la (λk=>if k<n+j then R k-c*sh (M b) n k else R k),zi ql Q,yC c)) (λs=>lb-s.1.toNat) _ ?_ _ _ ⟨0,xaf _,?_⟩ (by show lb-0<fu;lia)
 ·rintro s L ⟨j,q,rfl⟩ l;unfold bn;simp only;by_cases h1:j<lb
  ·rw[yg,Y O];simp only[Z4];have hd:=d.get j;rw[yn,F,(W:(n:wF)+(j:wF)=((n+j:wL):wF)),zb,zb,zm (by rw[yw];lia),F,YJ W,zG,Y<|yi (hc.ok W) (fW.of hd W) f,zn,Qw];have m:Bz (K+J) (c*M b j):=hc.mul<|d.bz j;rw[Y<|qg ((i _).ok W) (m.ok W) f,zn,zn,zm (by rw[yw];lia),F,dp,zb];refine l _ ⟨j+1,W,?_⟩ (by show lb-((j:wF)+1).toNat<lb-(j:wF).toNat;lia);rw[(W:((j:wF)+1)=((j+1:wL):wF))];refine xfo O<|xfo O<|xfo ?_ O;refine xc λk g=> ?_;unfold XV;by_cases e:k=n+j
   ·rw[iq e,yg,e];unfold sh;rw[yg,(W:n+j-n=j)]
   ·rw[S e];show(if k<n+j then R k-c*sh (M b) n k else R k)=_;by_cases h:k<n+j
    ·rw[iq h,yg]
    ·rw[S h,zG]
  ·rw[zG,Y O];simp only[xaj,Z5];obtain rfl:j=lb:=W
   refine Z2 Z<|xfo O<|xfo ?_ O;refine xc λk g=> ?_;by_cases e:k<n+j
   ·rw[iq e]
   ·rw[S e];unfold sh;rw[yg,ym W];lia
 ·refine xfo O<|xfo O<|xfo ?_ O;refine xc λk g=> ?_;by_cases e:k<n+0
  ·rw[iq e];unfold sh;rw[zG];lia
  ·rw[S e]
theorem zpc(a:N U):yu a=zi (X (yu a)) (M a):=by
 have h:yu a=zi (dg (M a) (X a)) (M a):=O;rw[show(yu a).length=dg (M a) (X a) from xE _ _];exact h
theorem Vb(h:X (yu a)≠0):Tp (M a) (X (yu a)-1):=by
 have h1:=XC (de a) h;rw[Ye]at h1;exact⟨h1,λk c=>by rw[<-Ye];exact ym W⟩
theorem VI(h:X (yu a)=0)(k:wL):M a k=0:=by rw[<-Ye];exact ym W
theorem KO(G:xa K a)(y:xa J b)(hK:K+(X a+1)*(J+1)<=30000)(hJ:X a<=1000)(hL:X b<=1000)(h0:X (yu b)≠0)(o:3000000<=fu):
 ∃q e,wB fu a b=Z (q,e)/\(e=0↔Zd (M b) (M a))/\(e=0->(M a:Pz)=M q*M b/\yu q=q/\X q<=X a):=by
 have hn:=fZ y;have hM:=ZP b;have hN:=ZP a;have l:=Vb h0;have hO:J+1<=(X a+1)*(J+1):=xdX _ W;obtain⟨la,hi⟩:∃la,la=X (yu a):=⟨_,O⟩;obtain⟨lb,t⟩:∃lb,lb=X (yu b):=⟨_,O⟩;obtain⟨ql,hP⟩:∃ql,ql=la+1-lb:=⟨_,O⟩;have u:=zpc a;rw[<-hi]at u;rw[<-t]at l h0;unfold wB;rw[Y<|zK G W W o,Y<|zK y W W o,show wO (X a) (M a)=yu a from O,show wO (X b) (M b)=yu b from O,<-hi,<-t,zG];by_cases hR:0<la/\la<lb
 ·rw[Y (v:=Sum.inr ())<|by rw[yg,yg]];refine⟨[],4,O,⟨λh=>jp h rx,λh=> ?_⟩,λh=>jp h rx⟩;exfalso;have z:=Vb (a:=a) W;rw[<-hi]at z;obtain⟨w,p,w0⟩:=ML (n:=0) l h λk A=>z.2 k W;exact z.1<|by rw[p,vt,xb λi _=>by rw[w0 i W,xbc]]
 ·rw[Y (v:=Sum.inl ()) (by
   by_cases h1:0<la
   ·rw[yg,zG]
   ·rw[zG])]
  simp only;have hp:max ((la:wF)-lb+1) 0=(ql:wF):=W
  rw[zb,zb,F,hp,yF,y9,F,db,yw,zb]
  obtain⟨s,C,hQ⟩:=zM (f:=bj fu) (λs:wF×N U×N U×N U=>∃(n:wL) (Q R:Pz),n<=ql/\s=((n:wF)-1,yu b,zi la R,zi ql Q)/\DvZ (M a) (M b) Q R la lb n ql K J) (λs=>(s.1+1).toNat)
   (λr=>(∃Q R:Pz,r=.inl (zi la R,zi ql Q)/\DvZ (M a) (M b) Q R la lb 0 ql K J)\/(r=.inr 4/\¬Zd (M b) (M a))) (by
   rintro s L ⟨n,Q,R,hy,rfl,d⟩ ih
   unfold bj
   simp only
   cases n with
   |zero=>
    rw[zG]
    exact⟨_,O,.inl ⟨Q,R,O,d⟩⟩
   |succ n=>
    have hA:(ql-(n+1))*(J+1)<=(X a+1)*(J+1):=xac _ W
    have hH:(ql-(n+1))*(J+1)+(J+1)<=(X a+1)*(J+1):=by
     have:=xac (J+1) (W:ql-(n+1)+1<=X a+1);rw[xbk,xcN]at this;exact this
    have hl:=d.bz
    rw[(W:((n+1:wL):wF)-1=(n:wF)),yg,<-t,zb,(W:(n:wF)+(lb:wF)-1=((n+(lb-1):wL):wF)),zb,zm (by rw[yw];lia),F,YJ W,(W:(lb:wF)-1=((lb-1:wL):wF)),zb,yn,F]
    have H:=hn.get<|lb-1
    rw[Y<|vO ((hl _).okS W) ⟨H.1,by have:=H.2;lia⟩ o,zn,Qw,Ye]
    simp only
    have P:=l.1
    have x:exE (R<|n+(lb-1)) (M b<|lb-1)=if R (n+(lb-1))%M b (lb-1)=0 then 0 else 4:=by unfold exE;rw[S P]
    have T:exI (R<|n+(lb-1)) (M b<|lb-1)=if R (n+(lb-1))%M b (lb-1)=0 then R (n+(lb-1))/M b (lb-1)else 0:=by unfold exI;rw[S P]
    by_cases hd:R (n+(lb-1))%M b (lb-1)=0
    ·rw[iq hd]at x T
     obtain⟨c,V⟩:∃c,c=R (n+(lb-1))/M b (lb-1):=⟨_,O⟩
     have hc:R (n+(lb-1))=c*M b (lb-1):=by rw[V,Int.ediv_mul_cancel<|xaH hd]
     have hB:Bz (K+(ql-(n+1))*(J+1)) c:=(hl<|n+(lb-1)).le (by
      rw[hc,xcw];exact xcj _ W)
     rw[x,T,<-V,iq O,zm (by rw[yw];lia),F,dp,Y<|zlY hn t.symm W W hl hB W o]
     simp only
     rw[zb]
     have C:=d.step l hy hc y.bz
     have e:(λk=>R k-c*sh (M<|yu b) n k)=λk=>R k-c*sh (M b) n k:=by rw[show M (yu b)=M b from uT (Ye b)]
     rw[e]
     exact ih _ ⟨n,_,_,W,O,C⟩ (by show((n:wF)-1+1).toNat<(((n+1:wL):wF)-1+1).toNat;lia)
    ·rw[S hd]at x
     rw[x,S rx]
     refine⟨_,O,.inr ⟨O,λu=>hd ?_⟩⟩
     have D:Zd (M b) R:=by
      have e:R=(M a:Pz)-Q*M b:=uT λk=>by
       have:=WP d.eq k;rw[zX]at this;rw[y8];lia
      rw[e];exact u.sub ⟨Q,⟨ql,d.q2⟩,O⟩
     obtain⟨w,p,w0⟩:=ML (n:=n+1) l D d.r
     have:=aU (f:=w) (g:=M b) (n:=n) (m:=lb-1) (λk A=>w0 k W) l.2
     rw[<-p]at this
     rw[this,Int.mul_emod_left]) fu ((ql:wF)-1,yu b,yu a,zi ql λ_=>0) ⟨ql,λ_=>0,M a,Nm _,by rw[u],⟨uT λk=>by
    rw[zX,vt,xb λi _=>xbc _,xcI],λ_ _=>O,λ_ _=>O,λk A=>by
    by_cases e:la=0
    ·exact VI W k
    ·rw[<-Ye];exact ym W,λk=>(G.bz k).mono W,λk=>Bz.zero _⟩⟩ (by show((ql:wF)-1+1).toNat<fu;lia)
  rw[Y C];rcases hQ with⟨Q,R,rfl,d⟩|⟨rfl,hC⟩
  ·have hA:(ql-0)*(J+1)<=(X a+1)*(J+1):=xac _ W;have hD:xa 30000 (zi la R):=Xq λj=>(d.bz j).mono W;have hF:xa 30000 (zi ql Q):=Xq λj=>(d.bq j).mono W;have hv:∀k,la<=k->R k=0:=λk A=>by
    by_cases e:la=0
    ·have h1:=WP d.eq k;rw[zX,vt,xb (n:=k+1) λi _=>by rw[d.q2 i W,xbc],VI W]at h1;lia
    ·exact d.r k W
   simp only;rw[Y<|zK hD rx (by rw[yw];lia) o,yw,FZ];by_cases hr:X (wO la R)=0
   ·have E:∀k,R k=0:=λk=>by rw[<-j7 hv k];exact ym W
    have hG:(M (wO ql Q):Pz)=Q:=uT λk=>j7 d.q2 k;have he:(M a:Pz)=M (wO ql Q)*M b:=by
     rw[hG];funext k;have:=WP d.eq k;rw[zX,E k,xbY]at this;exact this
    rw[zG,Y<|zK hF rx (by rw[yw];lia) o,yw,FZ];refine⟨_,0,O,⟨λ_=>⟨_,Fs.cf _,he⟩,λ_=>O⟩,λ_=>⟨he,(JK _ _).symm,?_⟩⟩;rw[xE];have:=qS Q ql;lia
   ·rw[yg];refine⟨[],4,O,⟨λh=>jp h rx,λh=> ?_⟩,λh=>jp h rx⟩;exfalso;have e:R=(M a:Pz)-Q*M b:=uT λk=>by
     have:=WP d.eq k;rw[zX]at this;rw[y8];lia
    have D:Zd (M b) R:=by
     rw[e];exact h.sub ⟨Q,⟨ql,d.q2⟩,O⟩
    obtain⟨w,p,w0⟩:=ML (n:=0) l D d.r;have E:∀k,R k=0:=λk=>by rw[p,vt,xb λi _=>by rw[w0 i W,xbc]]
    have ht:=XC (JK la R) hr;rw[j7 hv]at ht;exact ht<|E _
  ·exact⟨[],4,O,⟨λh=>jp h rx,λh=>jp h hC⟩,λh=>jp h rx⟩
theorem C0(c:xa K a)(d:xa J b)(e:K<=40000)(f:J<=40000)(hc:X a<=1000)(hd:X b<=1000)(h0:X (yu b)=0)(g:3000000<=fu):wB fu a b=Z ([],3):=by grind [wB,yu,Y,zK]
end
section
variable{N fu:wL}{a:ww wF}
theorem CC.ext{c:K}{b:ww J}(d:CC N c a)(e:CC N c b)(h:∀k,k<c->C a k=C b k):a=b:=by
 rw[<-Tm a,<-Tm b,d.ln,e.ln];exact y6 h
theorem Ib{c:K}(hc:c<=1000)(f:3000000<=fu):zg (λL (z:ww J×J)=>
 if z.2<(X (zl c λ_=>0):J)then
  zD z.2 (X z.1) λj=>
  B (z.1.set j z.2) λxs=>
  A (z.2+1) λi=>L (xs,i)
 else Z z.1) fu (zl c λ_=>0,0)=Z (zl c λi=>(i:J)):=by
 refine zB (λs:ww J×J=>∃j:K,j<=c/\s=(zl c (λk=>if k<j then(k:J)else 0),(j:J))) (λs=>c-s.2.toNat) _ ?_ _ _ ⟨0,xaf _,?_⟩ (by show c-0<fu;lia)
 ·rintro s L ⟨j,g,rfl⟩ d
  simp only[ye]
  by_cases h1:j<c
  ·rw[yg,zm h1,F,Yh,zb]
   refine d _ ⟨j+1,W,?_⟩ (by show c-((j:J)+1).toNat<c-(j:J).toNat;lia)
   refine xfo (y6 λk b=> ?_) O
   unfold XV
   by_cases e:k=j
   ·lia
   ·grind
  ·rw[zG]
   obtain rfl:j=c:=W
   exact Z2 Z<|y6 λk b=>Q b
 ·exact xfo (y6 λk b=>(S<|xbb k).symm) O
theorem PB{c:K}(b:CC N c a)(o:N<=1000)(p:3000000<=fu):
 ∃i:J,zg (λL i=>
 if 0<=i then
  zD i (X a) λj=>
  B (a.getD j 0) λy=>
  A ((N:J)-c) λe=>
  A (e+i) λe=>
  if y=e then A (i-1) λi=>L i
  else Z i
 else Z i) fu ((c:J)-1)=Z i/\ -1<=i/\i<c/\(∀j:K,i<j->j<c->C a j+c=N+j)/\∀k:K,i=k->C a k+c<N+k:=by
 have hd:c<=N\/c=0:=by
  by_cases h:c=0
  ·lia
  ·have:=b.hi 0 W;have:=b.lo 0 W;exact .inl W
 obtain⟨r,h1,l⟩:=zM (f:=λL (i:J)=>
  if 0<=i then
   zD i (X a) λj=>
   B (a.getD j 0) λy=>
   A ((N:J)-c) λe=>
   A (e+i) λe=>
   if y=e then A (i-1) λi=>L i
   else Z i
  else Z i) (λi:J=> -1<=i/\i<c/\∀j:K,i<j->j<c->C a j+c=N+j) (λi=>(i+1).toNat) (λi=> -1<=i/\i<c/\(∀j:K,i<j->j<c->C a j+c=N+j)/\∀k:K,i=k->C a k+c<N+k) (by
   rintro i L ⟨i1,i2,d⟩ m;by_cases h0:0<=i
   ·obtain⟨k,rfl⟩:=xaE h0;have q:=b.ln;rw[Q h0,yn,F,zb,zb,JH];by_cases e:C a k=(N:J)-c+k
    ·rw[Q e,zb];refine m _ ⟨W,W,λj g hc=> ?_⟩ W;by_cases n:j=k
     ·rw[n];lia
     ·exact d j W hc
    ·rw[S e];refine⟨_,O,i1,i2,d,λj g=> ?_⟩;obtain rfl:k=j:=W
     have:=b.hi k W;lia
   ·rw[S h0];exact⟨_,O,i1,i2,d,λj g=>by lia⟩) fu ((c:J)-1) ⟨W,W,λj g hc=>by lia⟩ W
 exact⟨r,h1,l⟩
theorem zao{c k:K}(f:CC N c a)(o:N<=1000)(d:k<c)(h1:C a k+c<N+k)(p:3000000<=fu):
 zg (λL (z:J×ww J)=>
 if z.1<(c:J)then
  A (z.1-1) λe=>
  zD e (X z.2) λj=>
  B (z.2.getD j 0) λy=>
  A (y+1) λe=>
  zD z.1 (X z.2) λj=>
  B (z.2.set j e) λxs=>
  A (z.1+1) λi=>L (i,xs)
 else Z z.2) fu ((k:J)+1,a.set k (C a k+1))=Z (nxA c k a):=by
 have hc:=f.hi k d;have hd:=f.lo k d;refine zB (λs:J×ww J=>∃j:K,k+1<=j/\j<=c/\s=((j:J),zl c (λi=>if i<k then C a i else if i<j then C a k+1+((i:J)-k)else C a i))) (λs=>c-s.1.toNat) _ ?_ _ _ ⟨k+1,Nm _,d,?_⟩ (by show c-((k:J)+1).toNat<fu;lia)
 ·rintro s L ⟨j,q,r,rfl⟩ l;simp only[ye];by_cases n:j<c
  ·obtain⟨i,rfl⟩:∃i,j=i+1:=⟨j-1,W⟩;rw[yg,(W:((i+1:K):J)-1=(i:J)),zb,yn,F,uc,zG,yg,zb,zm n,F,Yh,zb];refine l _ ⟨i+1+1,W,W,?_⟩ (by show c-(((i+1:K):J)+1).toNat<c-((i+1:K):J).toNat;lia);refine xfo O<|y6 λm g=> ?_;unfold XV;by_cases e:m=i+1
   ·rw[Q e,zG,yg];lia
   ·rw[S e];show(if m<k then C a m else if m<i+1 then C a k+1+((m:J)-k)else C a m)=_;by_cases b:m<k
    ·rw[Q b,Q b]
    ·rw[S b,S b];by_cases h:m<i+1
     ·rw[Q h,yg]
     ·rw[S h,zG]
  ·rw[zG];obtain rfl:j=c:=W
   refine Z2 Z<|y6 λm g=> ?_;by_cases b:m<k
   ·rw[Q b,Q b]
   ·rw[S b,S b,Q g]
 ·refine xfo (by show(k:J)+1=((k+1:K):J);lia) ?_;show a.set k (C a k+1)=_;conv=>lhs;rw[<-Tm a,f.ln]
  rw[Yh];refine y6 λm g=> ?_;unfold XV;by_cases e:m=k
  ·rw[Q e,zG,yg,e];rw[show C (zl c<|C a) k=C a k from ZI d];lia
  ·rw[S e];by_cases b:m<k
   ·rw[Q b]
   ·rw[S b,zG]
theorem OI{X Y:Type}{c:K}{g:ww J->X->V (ww J×(X⊕Y))}{x0:X}{Rej:ww J->Prop}{Acc:ww J->Y->Prop}(hl:1<=c)(hn:c<=N)(hN:N<=10)(E:c<=5)(p:3000000<=fu)(G:∀a,CC N c a->(g a x0=Z (a,.inl x0)/\Rej a)\/∃y v,g a x0=Z (v,.inr y)/\Acc a y):
 (vm fu (c:J) (N:J) g x0=Z (.inl x0)/\∀a,CC N c a->Rej a)\/∃a y,CC N c a/\Acc a y/\vm fu (c:J) (N:J) g x0=Z (.inr y):=by
 have h0:CC N c (zl c λi=>(i:J)):=⟨ye _ _,λi hi=>by rw[ZI hi];lia,λi hi=>by rw[ZI hi];lia,λi hi=>by rw[ZI W,ZI hi];lia⟩;have H:∀T,CC N c T->¬Lt (C T) (C<|zl c λi=>(i:J)) c:=λT b ⟨j,n,o,_⟩=>by
  rw[ZI n]at o;have:=b.lo j n;lia
 have M:msr N (C<|zl c λi=>(i:J)) c<fu:=by
  have h1:=zkk N (C<|zl c λi=>(i:J)) c;have w:(N+1)^c<=11^5:=xal (Nat.pow_le_pow_left W c)<|xam rx E;lia
 obtain⟨r,P,R⟩:=zM (f:=λL (q:X×ww J)=>qA fu (c:J) (N:J) g q.1 q.2 (λx xs _ _ _ _ _=>L (x,xs)) (λx _ _ _=>Z (.inl x)) λy _=>Z (.inr y))
  (λs:X×ww J=>s.1=x0/\CC N c s.2/\∀T,CC N c T->Lt (C T) (C s.2) c->Rej T) (λs=>msr N (C s.2) c) (λr:X⊕Y=>(r=.inl x0/\∀a,CC N c a->Rej a)\/∃a y,CC N c a/\Acc a y/\r=.inr y) (by
  rintro⟨x,a⟩ L ⟨z,l,t⟩ U
  simp only at z l t
  subst z
  simp only
  unfold qA
  rcases G a l with⟨e,A⟩|⟨y,v,e,ac⟩
  ·rw[za e]
   simp only[Sum.elim_inl]
   obtain⟨i,l1,l2,l3,B,l5⟩:=PB l W p
   rw[zb,za l1]
   by_cases hi:i<0
   ·rw[Q hi]
    refine⟨_,O,.inl ⟨O,λT b=> ?_⟩⟩
    rcases Gr (C T) (C a) c with h|h|h
    ·rw[b.ext l h];exact A
    ·exact t T b h
    ·exfalso
     obtain⟨j,n,o,_⟩:=h
     have:=B j W n
     have:=b.hi j n
     lia
   ·obtain⟨k,rfl⟩:=xaE (W:0<=i)
    have ho:=l.ln
    have D:=l5 k O
    have hp:=l.lo k W
    rw[S hi,yn,F,JH,zb,yn,F,zb,za<|zao l W W D p]
    refine U _ ⟨O,l.next W D,λT b u=> ?_⟩ ?_
    ·rcases Gr (C T) (C a) c with h|h|h
     ·rw[b.ext l h];exact A
     ·exact t T b h
     ·exfalso
      simp only at u
      rcases zsl (k:=k) b W (λi hi hc=>B i W hc) h with h6|h6
      ·obtain⟨j,n,o,_⟩:=u
       rw[h6 j n]at o
       lia
      ·exact u.asy h6
    ·obtain⟨d,hd⟩:∃d,c=k+1+d:=⟨c-k-1,W⟩
     have:=zjV (N:=N) (f:=C<|nxA c k a) (g:=C a) (j:=k) (λm hm=>by rw[aY,Q hm]) W (by rw[aY,zG];lia) (by rw[aY,zG];lia) d
     rw[<-hd]at this
     exact this
  ·rw[za e]
   simp only[Sum.elim_inr]
   exact⟨_,O,.inr ⟨a,y,l,ac,O⟩⟩) fu (x0,zl c λi=>(i:J)) ⟨O,h0,λT b h=>jp h (H T b)⟩ M
 have hM:vm fu (c:J) (N:J) g x0=Z r:=by
  unfold vm;rw[yF,y9,F,gJ,za<|Ib W p];exact P
 rw[hM];rcases R with⟨rfl,h⟩|⟨a,y,h1,w,rfl⟩
 ·exact .inl ⟨O,h⟩
 ·exact .inr ⟨a,y,h1,w,O⟩
end
section
variable{a:ww wF}{m:wF}{xs:ww Lx}{i fu:wL}
theorem zmh{a:N U}(h:¬m<=0):zeK a m=(vH a m,0):=by unfold zeK;rw[S h]
theorem Bu(a:N U):(yD a).natAbs=Wz (M a) (X (yu a)):=by grind [yD]
theorem nk(a:N U):E (yD a)*(M (zH a):Pz)=M a:=by grind [zY,ZH,WI,Int.mul_ediv_cancel']
theorem QJ{a:N U}(h:X (yu a)≠0):Pm (M<|zH a)/\Po (M<|zH a):=by
 have h0:=sZ h;have e:=nk a;constructor
 ·intro d hd;have h1:(yD a).natAbs*d∣Wz (M a) (X (yu a)):=NZ _ λk _=>by
   have b:=WP e k;rw[zY]at b;have c:=xcm.2<|xfU (xei<|yD a)<|hd k;rw[b,xcw,xaL]at c;exact c
  rw[<-Bu]at h1;have f:(yD a).natAbs*d∣(yD a).natAbs*1:=by rw[xeF];exact h1
  exact Nat.dvd_one.1<|Nat.dvd_of_mul_dvd_mul_left W f
 ·have ht:=Vb h;refine⟨X (yu a)-1,?_,λk g=>by rw[ZH,ht.2 k g,xek]⟩;have b:=WP e<|X (yu a)-1;rw[zY]at b;have c:=ht.1;obtain⟨x,j⟩:∃x,x=M (zH a) (X (yu a)-1):=⟨_,O⟩;rw[<-j]at b⊢;have n:(0:J)<(Wz (M a) (X (yu a)):K):=by
   have:=Bu a;lia
  have hc:yD a=if M (yu a) (X (yu a)-1)<0 then-((Wz (M a) (X (yu a)):K):J)else((Wz (M a) (X (yu a)):K):J):=O;rw[Ye]at hc;by_cases hn:M a (X (yu a)-1)<0
  ·rw[Q hn]at hc;refine xak λl=> ?_;have:=Int.mul_nonneg_of_nonpos_of_nonpos (W:yD a<=0) (W:x<=0);lia
  ·rw[S hn]at hc;refine xak λl=> ?_;have:=Int.mul_nonpos_of_nonneg_of_nonpos (W:0<=yD a) (W:x<=0);lia
theorem qu(a:N U):yu (zH a)=zH a:=(JK _ _).symm
theorem zjK(a:N U)(c:0<m)(k:K):M (Ai a m) k=near (M a k) m:=j7 (λj b=>by
 rw[ym b];unfold near;rw[xaq,zG]) k
theorem zf8(x:J):near x m%m=x%m:=by
 unfold near;split
 ·simp_all
 ·simp_all
theorem zkI{x y:J}(h:x%m=y%m)(c:2*y.natAbs<m):near x m=y:=by
 unfold near;rw[h];by_cases b:0<=y
 ·rw[xaJ b W,zG]
 ·have e:y%m=y+m:=by
   rw[<-Int.add_emod_right];exact xaJ W W
  lia
def LY(xs:N Lx)(a:N J)(c:K):N Lx:=(xaC c).map λi=>xs.getD (C a i).toNat ([],[])
theorem ziH(xs:N Lx)(a:N J)(c:K):LY xs a (c+1)=LY xs a c++[xs.getD (C a c).toNat ([],[])]:=by grind [LY,xcT]
theorem zfk(a b:N Lx):pu (a++b)=pu a*pu b:=by grind [pu,vo]
theorem SU:(xs.map (·.1)).getD i []=(xs.getD i ([],[])).1:=by grind
theorem Mv(h:i<X xs):xs.getD i ([],[])∈xs:=by grind
theorem zfh{c k:K}{p:J}{f:N U}(hp:qt p=wT)(o:1<=k)(q:k<=1000)(hn:∀x∈xs,Up p k x.1 x.2/\Jj p x.2/\X x.2<=66)(G:X xs<=1000)(b:CC (X xs) c a)(hc:c<=5)(u:xa 250 f)(ht:0<X f)(H:X f<=66)(d:3000000<=fu):
 ∃t,jJ fu f (xs.map (·.1)) a (yC<|p^k)=Z (zH<|Ai t<|p^k,a)/\xa 250 t/\X t<=1+c*66/\Cg (p^k) (M t) (E (M f<|X f-1)*pu (LY xs a c)):=by
 obtain⟨P,Q⟩:=zA hp;have hd:=BE hp q;have hv:=pO hp o;have e:fF (yC<|p^k):=hd.okS rx;have R:=b.ln
 obtain⟨s,v,t,rfl,t1,t2,t3⟩:=zM (f:=uF fu (xs.map (·.1)) a<|yC<|p^k) (λs:N U×J×N J=>∃(i:K) (t:N U),i<=c/\s=(t,(i:J),a)/\xa 250 t/\X t<=1+i*66/\Cg (p^k) (M t) (E (M f<|X f-1)*pu (LY xs a i))) (λs=>c-s.2.1.toNat)
  (λr=>∃t:N U,r=(t,a)/\xa 250 t/\X t<=1+c*66/\Cg (p^k) (M t) (E (M f<|X f-1)*pu (LY xs a c))) (by
  rintro s L ⟨i,t,hi,rfl,h1,w,g⟩ y
  unfold uF
  simp only
  by_cases h:i<c
  ·have S:=b.lo i h
   have T:=b.hi i h
   obtain⟨j,l⟩:=xaE (W:0<=C a i)
   have A:=Mv (xs:=xs) (i:=j) W
   obtain⟨n,V,hl⟩:=hn _ A
   have hB:=n.len
   rw[yg,Y O]
   simp only[Z4]
   rw[yn,F,JH,l,zm (by rw[xan];lia),F,SU,Y<|CR h1 n.rd.ok W W e d,zn,zmh W]
   simp only
   rw[zb]
   have l1:=XG (xd t (xs.getD j ([],[])).1)<|p^k
   have l2:=uu t (xs.getD j ([],[])).1
   refine y _ ⟨i+1,_,W,O,dC hd W,W,?_⟩ (by show c-((i:J)+1).toNat<c-(i:J).toNat;lia)
   refine(Wk _ _).trans ?_
   rw[ur,ziH,zfk,l,xba,<-zd]
   refine g.mul<|Cg.of ?_
   exact(yp _).symm
  ·rw[zG,Y O]
   simp only[xaj,Z5]
   obtain rfl:i=c:=W
   exact⟨_,O,t,O,h1,w,g⟩) fu (f.drop (X f-1),0,a) ⟨0,_,xaf _,O,λz B=>u z (xfK B),by rw[xch];lia,by
   rw[Lr]
   refine Cg.of<|funext λj=> ?_
   rw[show LY xs a 0=[]from O,show pu []=E 1 from O,yp]
   cases j with
   |zero=>rfl
   |succ j=>exact ym (p:=[f.getD (X f-1) (I,[])]) rC⟩ (by show c-(0:J).toNat<fu;lia)
 refine⟨t,?_,t1,t2,t3⟩;unfold jJ;rw[(W:(X f:J)-1=((X f-1:K):J)),zb,yF,y9,F,Y v];simp only;have D:xa 250 (Ai t<|p^k):=xh λj=>Bz.near hd W;have hC:X (Ai t<|p^k)<=X t:=by unfold Ai;rw[xE];exact qS _ _
 rw[Y<|BB t1 rx e W d,zn];unfold zaT;rw[zG];simp only;rw[Y<|vR D]
theorem Tc{x:J}(hl:X a<=1000)(p:3000000<=fu):wm fu a x=Z (decide<|x∈a,a):=by
 unfold wm qU;obtain⟨s,g,l⟩:=zM (f:=v8 fu a x) (λi:J=>0<=i/\i<=X a/\∀j:K,j<i->C a j≠x) (λi=>(X a-i).toNat) (λr:Wd⊕J=>(r=.inl ()/\¬x∈a)\/∃i:K,r=.inr (i:J)/\x∈a) (by
  rintro i L ⟨i1,i2,d⟩ n;obtain⟨k,rfl⟩:=xaE i1;unfold v8;by_cases h1:k<X a
  ·rw[yg,zm h1,F,JH];by_cases b:x=C a k
   ·rw[Q b];refine⟨_,O,.inr ⟨k,O,?_⟩⟩;rw[b,<-JH,UV,xaa h1];simp_all
   ·rw[S b,zb];refine n _ ⟨W,W,λj c=> ?_⟩ W;by_cases e:j=k
    ·rw[e];exact λh=>b h.symm
    ·exact d j W
  ·rw[zG];refine⟨_,O,.inl ⟨O,λo=> ?_⟩⟩;obtain⟨j,c,e⟩:=xcr.1 o;refine d j W ?_;rw[<-JH,UV,xaa c];exact e) fu 0 ⟨W,W,λj c=>by lia⟩ W
 rw[g];rcases l with⟨rfl,h⟩|⟨i,rfl,h⟩
 ·rw[Ww h];rfl
 ·rw[Ws h];show(if(0:J)<=(i:J)then Z (wT,a)else Z (I,a))=Z (wT,a);rw[yg]
theorem O5{us:N (N U)}(hl:X us<=1000)(d:X a<=1000)(e:3000000<=fu):
 xT fu us a=Z (((xaC (X us)).filter λi:K=> !decide ((i:J)∈a)).map λi=>us.getD i [],a):=by
 unfold xT;rw[Y (v:=(((xaC (X us)).filter λi:K=> !decide ((i:J)∈a)).map λi=>us.getD i [],a))];refine zB (λs:N (N U)×J×N J=>∃j:K,j<=X us/\s=(((xaC j).filter λi:K=> !decide ((i:J)∈a)).map λi=>us.getD i [],(j:J),a)) (λs=>X us-s.2.1.toNat) _ ?_ _ _ ⟨0,xaf _,O⟩ (by show X us-0<fu;lia);rintro s L ⟨j,f,rfl⟩ c;unfold uY;simp only;by_cases h1:j<X us
 ·rw[yg,Y O];simp only[Z4];rw[zm h1,F,Y<|Tc d e];simp only;have hc:X ((xaC j).filter λi:K=> !decide ((i:J)∈a))<=j:=xal (xfG _ _) (by rw[xex];exact Nm j);by_cases b:(j:J)∈a
  ·rw[Ws b,S rx,zb];refine c _ ⟨j+1,W,?_⟩ (by show X us-((j:J)+1).toNat<X us-(j:J).toNat;lia);rw[xcT,List.filter_append,xfn (by rw[Ws b];decide),List.filter_nil,xbo];rfl
  ·rw[Ww b,Q rx,xN (by rw[xan];simp only[xaw,xbV];lia),F,zb];refine c _ ⟨j+1,W,?_⟩ (by show X us-((j:J)+1).toNat<X us-(j:J).toNat;lia);rw[xcT,List.filter_append,xfm (by rw[Ww b];decide),List.filter_nil,xaO];rfl
 ·rw[zG,Y O];simp only[xaj,Z5];obtain rfl:j=X us:=W
  rfl
end
section
variable{M p:wF}{f q g f0:Pz}{k i fu:wL}{xs:ww Lx}{a:ww wF}
def Bdz(M:J)(f:Pz):Prop:=∀(u v:Pz) (b:K),Fs u->Tp v b->f=u*v->∀j,2*((v b*u j).natAbs:J)<M
theorem Bdz.dv(h:Bdz M f)(d:Nz g)(l:Fs g)(e:f=q*g):Bdz M q:=λu v b fu hv m j=>by
 obtain⟨a,c⟩:=Tp.ex l d;have h1:=h u (v*g) (b+a) fu (hv.mul c) (by rw[e,m,zd]) j;rw[aU hv.2 c.2]at h1;have n:(v b*u j).natAbs<=(v b*g a*u j).natAbs:=by
  rw[Int.mul_right_comm,xcw<|v b*u j];exact xcj _ (by have:=c.1;lia)
 lia
theorem zqX{K:wL}(h:Bdz M f)(c:Nz g)(d:Fs g)(fq:Fs q)(e:f=q*g)(j:Bz K M)(k:wL):Bz K (q k):=by
 obtain⟨a,b⟩:=Tp.ex d c;have h1:=h q g a fq b e k;have l:(q k).natAbs<=(g a*q k).natAbs:=by
  rw[xcw];exact xdX _ (by have:=b.1;lia)
 exact j.le W
structure Gd(g:N U):Prop where
 can:yu g=g
 ir:Ir (cf g)
 ps:Po (cf g)
 ok:xa 250 g
 ln:g.length<=11
structure Ch(p:J)(k:K)(f0:Pz)(F:N U)(xs:N Lx)(out:N (N U))(c:K):Prop where
 lc:Lc p k (cf F) (F.length-1) xs
 k2:k<=1000
 can:yu F=F
 ok:xa 250 F
 ln:F.length<=11
 bd:Bdz (p^k) (cf F)
 ls:Ls p (cf F) xs c
 ct:xs.length+out.length<=10
 pr:f0=prZ (out.map λg=>(cf g:Pz))*cf F
 gd:∀g∈out,Gd g
theorem Ch.l0{c:K}{F:N U}{out:N (N U)}(h:Ch p k f0 F xs out c):0<X F:=by
 have h1:=h.lc.tp.1;by_cases e:X F=0
 ·exact jp (ym W) h1
 ·lia
theorem zoM(c:2<=p)(d:∀x∈xs,Jj p x.2)(KJ:xs.Pairwise λa b=>km p (C a.2)<|C b.2){j:K}(hi:i<X xs)(e:j<X xs)(h:xs.getD i ([],[])=xs.getD j ([],[])):i=j:=by grind [Jj.self,xcU]
theorem zga(c:2<=p)(d:∀x∈xs,Jj p x.2)(KJ:xs.Pairwise λa b=>km p (C a.2)<|C b.2):xs.Nodup:=by grind [Jj.self,xcU]
theorem zaQ{α:Type}(d:α)(xs:N α):xs=(xaC (X xs)).map λi=>xs.getD i d:=by
 refine xeb rC λi h1 b=> ?_;simp_all
theorem zd0{c:K}(d:CC (X xs) c a):∀x∈LY xs a c,x∈xs:=λx e=>by
 obtain⟨j,b,rfl⟩:=xat.1 e;have b:=xbd.1 b;have h1:=d.hi j b;have h:=d.lo j b;grind
theorem zn0{c:K}(n:2<=p)(hc:∀x∈xs,Jj p x.2)(KJ:xs.Pairwise λa b=>km p (C a.2)<|C b.2)(l:CC (X xs) c a)(hi:i<X xs):xs.getD i ([],[])∈LY xs a c↔(i:J)∈a:=by
 have hd:=l.ln;constructor
 ·intro h;obtain⟨j,d,e⟩:=xat.1 h;have d:=xbd.1 d;have h1:=l.hi j d;have r:=l.lo j d;have m:=zoM n hc KJ W hi e;have o:i=C a j:=W
  rw[o,<-JH];simp_all
 ·intro h;obtain⟨j,d,e⟩:=xcr.1 h;have m:C a j=i:=by
   rw[<-JH,UV,xaa d];exact e
  exact xat.2 ⟨j,xbd.2 W,by rw[m];rfl⟩
theorem zcH{α:Type}(P:α->ut):∀l:N α,X (l.filter P)+X (l.filter λx=> !P x)=X l
 |[]=>rfl
 |x::l=>by
  have b:=zcH P l;grind
theorem za7{c:K}{F:N U}{out:N (N U)}(h:Ch p k f0 F xs out c)(hH:1<=c)(hI:c<=5)(L:CC (X xs) c a)(T:3000000<=fu):
 (qY fu (yC<|p^k) a (F,xs.map (·.1),out)=Z (a,.inl (F,xs.map (·.1),out))/\∀u v,Fs u->Fs v->cf F=u*v->¬rk u->own p u xs≠LY xs a c)\/
 ∃y a',qY fu (yC<|p^k) a (F,xs.map (·.1),out)=Z (a',.inr y)/\∃F' H D,y=(F',H.map (·.1),D)/\Ch p k f0 F' H D c/\X H<X xs:=by
 have l:=h.lc;have hp:=l.hp;obtain⟨p1,p2⟩:=zA hp;have hz:=BE hp h.k2;have hZ:=pO hp l.k1;have hJ:=h.l0;have h0:=h.ln;have h8:=h.ct;have hA:=λx hx=>(l.el x hx).2.1;obtain⟨t,t1,t2,t3,t4⟩:=zfh (fu:=fu) hp l.k1 h.k2 l.el W L hI h.ok hJ W T;obtain⟨G,V⟩:∃G,G=Ai t (p^k):=⟨_,O⟩;rw[<-V]at t1;have hC:∀j,cf G j=near (cf t j) (p^k):=λj=>by rw[V];exact zjK t W j
 have hK:Cg (p^k) (cf G) (E (cf F<|X F-1)*pu (LY xs a c)):=Cg.trans (λj=>by rw[hC];exact zf8 _) t4;have hM:xa 250 G:=by rw[V];exact xh λj=>Bz.near hz W
 have h9:X G<=400:=by
  have:X (Ai t<|p^k)<=X t:=by unfold Ai;rw[xE];exact qS _ _
  rw[V];lia
 have hk:=Aw hM;have hN:=ZN G;have h':=ZP G;have hm:=nk G;have hn:=qu G;obtain⟨g,hg⟩:∃g,g=zH G:=⟨_,O⟩;rw[<-hg]at t1 hk hN hm hn;have r:∀u v,Fs u->Fs v->cf F=u*v->own p u xs=LY xs a c->∃b,Tp v b/\(cf G:Pz)=E (v b)*u:=λu v s fv e ho=>by
  obtain⟨nu,P⟩:=Jf l.tp.nz e;obtain⟨d,hd⟩:=Tp.ex s nu;obtain⟨b,z⟩:=Tp.ex fv P;refine⟨b,z,uT λj=> ?_⟩;have h1:=l.up hd z e;have hO:d+b=X F-1:=by
   have:=hd.mul z;rw[<-e]at this;exact this.uniq l.tp
  have hP:cf F (X F-1)=u d*v b:=by rw[<-hO,e,aU hd.2 z.2]
  rw[hC,zY];refine zkI ?_ ?_
  ·have h2:Cg (p^k) (cf t) (E (v b)*u):=by
    refine t4.trans ?_;rw[hP,<-ho,xbI,<-ky,zd];exact Cg.rfl.mul h1.symm
   rw[h2 j,zY]
  ·exact h.bd u v b s z e j
 have n:¬(Zd (cf g) (cf F)/\1<X g)->∀u v,Fs u->Fs v->cf F=u*v->¬rk u->own p u xs≠LY xs a c:=λhQ u v s fv e nc ho=>by
  obtain⟨b,z,A⟩:=r u v s fv e ho;obtain⟨nu,_⟩:=Jf l.tp.nz e;have hq:X (yu G)≠0:=λe0=>by
   obtain⟨j,hj⟩:=nu;have:=VI e0 j;rw[A,zY]at this;exact(xdH z.1 hj) this
  obtain⟨q1,q2⟩:=QJ hq;rw[<-hg]at q1 q2;have z1:Zd (cf g) (cf G):=⟨E<|yD G,Fs.pc _,hm.symm⟩;rw[A]at z1;have z2:=Zd.pm (Fs.cf g) q1 z.1 z1;refine hQ ⟨z2.trans ⟨v,fv,by rw[e,zo]⟩,xak λhl=>nc λj hj=> ?_⟩;have h3:cf G j=0:=by rw[<-hm,zY,ym W,xaA]
  rw[A,zY]at h3;obtain h4|h4:=xeQ.1 h3
  ·exact jp h4 z.1
  ·exact h4
 have hB:∀{q:N U}{e:J},wB fu F g=Z (q,e)->qY fu (yC<|p^k) a (F,xs.map (·.1),out)=if e=0 then(if 1<(X g:J)then ck ((X out+1)*24<=140737488355328)<|B (out++[g]) λpr=>bd (xT fu (xs.map (·.1)) a) λw=>Z (w.2,.inr (q,w.1,pr))else Z (a,.inl (F,xs.map (·.1),out)))else Z (a,.inl (F,xs.map (·.1),out)):=λ{q e} hd=>by
  unfold qY;simp only;rw[Y t1];simp only;rw[Y hd]
 by_cases hr:X (yu g)=0
 ·rw[hB<|C0 h.ok hk rx rx W W hr T,S rx];refine .inl ⟨O,n λhh=> ?_⟩;rw[hn]at hr;lia
 ·obtain⟨q,e,d1,d2,d3⟩:=KO (fu:=fu) h.ok hk (by have:=xac (250+1) (W:X F+1<=12);lia) W W hr T;rw[hB d1];by_cases A:e=0
  ·by_cases hR:1<X g
   ·right;obtain⟨e1,e2,e3⟩:=d3 A;have hq:X (yu G)≠0:=W
    obtain⟨q1,q2⟩:=QJ hq;rw[<-hg]at q1 q2;have hc:Tp (cf g) (X g-1):=by
     have:=Vb (a:=g) W;rwa[hn]at this
    obtain⟨nq,ng⟩:=Jf l.tp.nz e1;have hS:X (yu q)≠0:=λe0=>by
     obtain⟨j,hj⟩:=nq;exact hj<|VI e0 j
    have ht:Tp (cf q) (X q-1):=by
     have:=Vb hS;rwa[e2]at this
    have o:(cf F:Pz)=cf g*cf q:=by rw[e1,zo]
    have R:¬rk (cf g):=λhD=>by
     have:=(rk.tp hc).1 hD;lia
    have hE:∀x∈xs,Di p (C x.2) (cf g)↔x∈LY xs a c:=λx hx=>l.pick (zd0 L) hc ht o (γ:=yD G) (by
     rw[hm];exact(hK.down<|uh l.k1).trans<|Cg.rfl.mul<|TG λy hy=>l.el y<|zd0 L y hy) hx
    have hT:=zga p1 hA l.pw;have hW:X (own p (cf g) xs)<=c:=by
     classical
     have h1:(own p (cf g) xs).Nodup:=by unfold own;exact hT.sublist List.filter_sublist
     have h2:=iL h1 (us:=LY xs a c) λx hx=>(hE x (dS.1 hx).1).1 (dS.1 hx).2;have h3:X (LY xs a c)=c:=by unfold LY;simp
     lia
    have hU:=h.ls (cf g) (cf q) (Fs.cf g) (Fs.cf q) o R;have hF:=Ls.ir l h.ls hH (Fs.cf g) (Fs.cf q) o q1 R W;have hu:0<cf g (X g-1):=by
     obtain⟨m,m1,m2⟩:=q2.tp;have:=m1.uniq hc;rw[<-this];exact m2
    have hv:=l.step hc ht hu e1;have hX:X (own p (cf g) xs)+X (oth p (cf g) xs)=X xs:=by
     classical
     unfold own oth;exact zcH (λx:Lx=>decide<|Di p (C x.2)<|cf g) xs
    have hY:0<p^k:=W
    have hw:(((xaC (X (xs.map (·.1)))).filter λi:K=> !decide ((i:J)∈a)).map λi=>(xs.map (·.1)).getD i [])=(oth p (cf g) xs).map (·.1):=by
     classical
     have e4:oth p (cf g) xs=((xaC (X xs)).filter λi:K=> !decide ((i:J)∈a)).map λi=>xs.getD i ([],[]):=by
      unfold oth;conv=>lhs;rw[zaQ ([],[]) xs]
      rw[List.filter_map];refine Z2 _<|List.filter_congr λi hi=> ?_;have hi:=xbd.1 hi;show(!decide (Di p (C (xs.getD i ([],[])).2)<|cf g))=_;have h5:=(hE _<|Mv hi).trans<|zn0 p1 hA l.pw L hi;by_cases h6:(i:J)∈a
      ·rw[Ws h6,Ws<|h5.2 h6]
      ·rw[Ww h6,Ww λh7=>h6<|h5.1 h7]
     rw[e4,xcE,xan];refine xcc λi _=> ?_;exact SU
    have a0:=L.ln;refine⟨(q,(oth p (cf g) xs).map (·.1),out++[g]),a,?_,q,oth p (cf g) xs,out++[g],O,?_,W⟩
    ·rw[Q A,yg,y9,ze,Y<|O5 (by rw[xan];lia) W T,hw]
    ·have hV:∀j,Bz 250 (cf q j):=zqX h.bd ng (Fs.cf g) (Fs.cf q) e1 hz;refine⟨hv,h.k2,e2,by rw[<-e2];exact xh hV,W,h.bd.dv ng (Fs.cf g) e1,h.ls.step l (Fs.cf g) (Fs.cf q) e1,?_,?_,λx hx=> ?_⟩
     ·rw[xau,List.length_singleton];lia
     ·rw[xaO,vo,h.pr,o];show prZ _*(cf g*cf q)=prZ _*(cf g*E 1)*cf q;rw[yp,zd]
     ·obtain hx|hx:=xab.1 hx
      ·exact h.gd x hx
      ·obtain rfl:=xad.1 hx;have:X x<=11:=by
        have:=(hc.mul ht).uniq (by rw[<-o];exact l.tp);lia
       exact⟨hn,hF,q2,hk,this⟩
   ·rw[Q A,zG];exact .inl ⟨O,n λhh=>hR hh.2⟩
  ·rw[S A];exact .inl ⟨O,n λhh=>A<|d2.2 hh.1⟩
theorem zoB{is:N (Fin (X xs))}(hp:is.Pairwise (· < ·)):CC (X xs) (X is) (is.map λi=>(i.val:J))/\LY xs (is.map λi=>(i.val:J)) (X is)=is.map (xs[·]):=by
 have b:∀j (c:j<X is),C (is.map λi=>(i.val:J)) j=(is[j].val:J):=λj c=>by
  rw[<-JH,UV,xci,xaa c];rfl
 have hc:∀i j (hi:i<X is) (c:j<X is),i<j->is[i].val<is[j].val:=λi j hi c h=>xcU.1 hp i j hi c h;have hd:∀d i (hi:i+d<X is),is[i].val+d<=is[i+d].val:=λd=>by
  induction d with
  |zero=>intro i hi;exact Nm _
  |succ d l=>
   intro i hi;have h1:=l i W;have e:=hc (i+d) (i+(d+1)) W hi W;lia
 refine⟨⟨rC,λi hi=> ?_,λi hi=> ?_,λi hi=> ?_⟩,?_⟩
 ·rw[b i hi];have:=hd i 0 W;simp only[xaD]at this;lia
 ·rw[b i hi];have h1:=hd (X is-1-i) i W;have e:=is[i+(X is-1-i)].isLt;lia
 ·rw[b i W,b (i+1) hi];have:=hc i (i+1) W hi W;lia
 ·unfold LY;refine xeb rC λi h1 e=> ?_;rw[xan]at e;rw[List.getElem_map,List.getElem_range,List.getElem_map,b i e,xba,UV,xaa is[i].isLt];rfl
theorem Sd{F:List Zr}(h0:Ch p k f0 F xs [] 1)(hf:3000000<=fu):
 ∃s,zg (fun L x=>YI fu (yC<|p^k) x L) fu (F,xs.map (·.1),[],1)=some s/\∃(F:List Zr) (xs:List Lx) (out:List (List Zr)) (c:Nat),s=(F,xs.map (·.1),out)/\Ch p k f0 F xs out c/\xs.length<2*c:=by
 exact zM (f:=fun L x=>YI fu (yC<|p^k) x L) (fun s:List Zr×List (List Zr)×List (List Zr)×Int=>∃(F:List Zr) (xs:List Lx) (out:List (List Zr)) (c:Nat),s=(F,xs.map (·.1),out,(c:Int))/\Ch p k f0 F xs out c/\1<=c/\c<=6) (fun s=>s.2.1.length*20+(20-s.2.2.2.toNat))
  (fun r=>∃(F:List Zr) (xs:List Lx) (out:List (List Zr)) (c:Nat),r=(F,xs.map (·.1),out)/\Ch p k f0 F xs out c/\xs.length<2*c) (by
  rintro s L ⟨F,xs,out,c,rfl,hC,hc,hi⟩ ih
  unfold YI
  simp only
  have hk:=hC.ct
  rw[zb,xan]
  by_cases h2:2*c<=xs.length
  ·rw[yg]
   have hd:=fun a ha=>za7 (fu:=fu) (a:=a) hC hc (show c<=5 by lia) ha hf
   rcases OI (fu:=fu) (N:=xs.length) (c:=c) (g:=qY fu<|yC<|p^k) (x0:=(F,xs.map (·.1),out)) (Rej:=fun a=>∀u v,Fs u->Fs v->cf F=u*v->¬rk u->own p u xs≠LY xs a c) (Acc:=fun a y=>∃F' xs' out',y=(F',xs'.map (·.1),out')/\Ch p k f0 F' xs' out' c/\xs'.length<xs.length) hc (by lia) (by lia) (by lia) hf hd with⟨e,hr⟩|⟨a,y,ha,⟨F',xs',out',rfl,hj,hl⟩,e⟩
   ·rw[za e]
    rw[Sum.elim_inl]
    simp only
    rw[zb]
    refine ih _ ⟨F,xs,out,c+1,by rw[show((c+1:Nat):Int)=(c:Int)+1 by lia],?_,by lia,by lia⟩ (by
     show(xs.map (·.1)).length*20+(20-((c:Int)+1).toNat)<(xs.map (·.1)).length*20+(20-(c:Int).toNat);lia)
    refine⟨hC.lc,hC.k2,hC.can,hC.ok,hC.ln,hC.bd,fun u v fu' fv e nc=> ?_,hC.ct,hC.pr,hC.gd⟩
    have h3:=hC.ls u v fu' fv e nc
    by_cases h4:(own p u xs).length=c
    ·exfalso
     have he:(own p u xs).Sublist xs:=by unfold own;exact List.filter_sublist
     obtain⟨is,e5,e6⟩:=List.sublist_eq_map_getElem he
     obtain⟨i1,i2⟩:=zoB e6
     have hg:is.length=c:=by rw[<-h4,e5,xan]
     rw[hg]at i1 i2
     exact hr _ i1 u v fu' fv e nc<|by rw[i2,e5]
    ·lia
   ·rw[za e]
    rw[Sum.elim_inr]
    refine ih _ ⟨F',xs',out',c,rfl,hj,hc,hi⟩ ?_
    show(xs'.map (·.1)).length*20+(20-(c:Int).toNat)<(xs.map (·.1)).length*20+(20-(c:Int).toNat)
    rw[xan,xan]
    lia
  ·rw[zG]
   exact⟨_,rfl,F,xs,out,c,rfl,hC,by lia⟩) fu (F,xs.map (·.1),[],1) ⟨F,xs,[],1,rfl,h0,by lia,by lia⟩ (by
   show(xs.map (·.1)).length*20+(20-(1:Int).toNat)<fu
   rw[xan]
   have:=h0.ct
   lia)
theorem Ra{F:N U}(h0:Ch p k (cf F) F xs [] 1)(o:3000000<=fu):
 ∃out,Yw fu F (xs.map (·.1)) (yC<|p^k)=Z out/\X out<=11/\(∀g∈out,Gd g)/\cf F=prZ (out.map λg=>(cf g:Pz)):=by
 obtain⟨f0,hc⟩:∃f0:Pz,f0=cf F:=⟨_,O⟩;rw[<-hc]at h0⊢;obtain⟨s,r,b,l,j,n,rfl,c,z⟩:=Sd h0 o;unfold Yw;rw[Y r];simp only;have hl:=c.ct;have A:=c.l0;have hn:=c.ln;have m:=c.lc.pm;by_cases h1:1<X b
 ·have B:X (yu b)≠0:=by rw[c.can];lia
  have t:yD b=1:=by
   have u:=Bu b;rw[c.can]at u;have v:=(m _ (r9 λk w=>ym w):Wz (cf b) (X b)=1);have a3:yD b=if cf (yu b) (X (yu b)-1)<0 then-((Wz (cf b) (X (yu b)):K):J)else((Wz (cf b) (X (yu b)):K):J):=O;rw[c.can,S (by have:=c.lc.ps;lia),v]at a3;exact a3
  have x:zH b=b:=Dz (qu b) c.can λk=>by rw[ZH,t,Int.ediv_one]
  have hi:Ir (cf b):=by
   have y:¬rk (cf b):=λh=>by have:=(rk.tp c.lc.tp).1 h;lia
   have hc1:1<=n\/n=0:=W
   obtain hc1|hc1:=hc1
   ·refine Ls.ir c.lc c.ls hc1 (Fs.cf b) (Fs.pc 1) (yp _).symm m y ?_;have:X (own p (cf b) l)<=X l:=by unfold own;exact xfG _ _
    lia
   ·lia
  refine⟨j++[b],?_,by rw[xau,List.length_singleton];lia,λg hg=> ?_,?_⟩
  ·rw[yg,Y<|vR c.ok,x,y9,ze]
  ·obtain hg|hg:=xab.1 hg
   ·exact c.gd g hg
   ·obtain rfl:=xad.1 hg;exact⟨c.can,hi,⟨_,c.lc.ps,c.lc.tp.2⟩,c.ok,c.ln⟩
  ·rw[c.pr,xaO,vo];show _=prZ _*(cf b*E 1);rw[yp]
 ·refine⟨j,by rw[zG],W,c.gd,?_⟩;obtain⟨d,hd⟩:=((rk.tp c.lc.tp).2 W).ex;rw[hd]at m;have C:=c.lc.ps;have D:cf b (X b-1)=d:=by rw[hd,(W:X b-1=0)];exact Q O
  rw[c.pr,hd];obtain e|e:=L8 m
  ·rw[e,yp]
  ·lia
end
section
variable{a b K fu bx by_:wL}{y:wF}
def Bb(b:wL)(x:J):Prop:=x.natAbs<2^b
theorem Bb.mono{x:J}(h:Bb a x)(c:a<=b):Bb b x:=xag h<|xam rx c
theorem Bb.mul{x:J}(c:Bb a x)(d:Bb b y):Bb (a+b) (x*y):=by
 unfold Bb at*
 rw[xcw,xbg];by_cases h:y.natAbs=0
 ·rw[h,xdo];exact xdr (xaY rx)<|xaY rx
 ·exact Nat.mul_lt_mul_of_lt_of_le c (xdC d) W
theorem Bb.sub{x:J}(c:Bb b x)(d:Bb b y):Bb (b+1) (x-y):=by grind [Bb,xbA]
theorem Bb.zero(b:wL):Bb b 0:=xaY rx
theorem Bb.bz{x:J}(h:Bb b x)(c:b<=64*K):Bz K x:=by
 unfold Bz;rw[(rx:(18446744073709551616:wL)=2^64),<-xcg];exact xag h<|xam rx c
theorem Bb.le{x:J}(c:Bb b y)(h:x.natAbs<=y.natAbs):Bb b x:=xaI h c
theorem Bb.pow{b:wL}{x:J}(h:Bb b x):∀n,Bb (n*b+1) (x^n)
 |0=>by rw[xce];unfold Bb;rw[xcC];decide
 |n+1=>by
  rw[xbO,xbk,xcN,Nat.add_right_comm];exact(Bb.pow h n).mul h
theorem Bb.pow'{b:wL}{x y:J}{c:wL}(h:Bb b x)(d:Bb c y):∀n,Bb (n*b+c) (x^n*y)
 |0=>by rw[xce,xdd,xcC,xaD];exact d
 |n+1=>by
  rw[xbO,Int.mul_right_comm,xbk,xcN,Nat.add_right_comm];exact(Bb.pow' h d n).mul h
theorem CN{n:wL}{a:J}(hn:n<=65536)(e:∀d,d<=n->Bz K (a^d))(h1:Bz K a)(g:K<=40000)(c:3000000<=fu):Js fu (yC a) (n:J)=Z (yC<|a^n):=by
 unfold Js;rw[Y<|yr rx c,Y (v:=yC<|a^n)];refine zB (λs:J×U=>∃i:wL,s=((i:J),yC<|a^i)/\i<=n) (λs=>n-s.1.toNat) _ ?_ _ _ ⟨0,by rw[xce];rfl,xaf _⟩ (by show n-0<fu;lia);rintro s L ⟨i,rfl,hi⟩ f;unfold gB;simp only;by_cases h:i<n
 ·rw[yg,Y<|yi ((e i hi).ok W) (h1.ok W) c,zn,zn,zb,<-xbO];exact f _ ⟨i+1,O,W⟩ (by show n-((i:J)+1).toNat<n-(i:J).toNat;lia)
 ·rw[zG];obtain rfl:i=n:=W
  rfl
structure PsI(x y:Pz)(l:J)(ly n bx by_ k:wL)(Q ρ:Pz):Prop where
 fq:Fs Q
 eq:E (l^(n-k))*x=Q*y+ρ
 z:∀j,k+(ly-1)<=j->ρ j=0
 b:∀j,Bb (bx+(n-k)*(by_+1))<|ρ j
theorem PsI.step{x y:Pz}{l:J}{c n k:wL}{Q d:Pz}(h:PsI x y l c n bx by_ (k+1) Q d)(o:k+1<=n)(g:Tp y (c-1))(hl:y (c-1)=l)(f:∀j,Bb by_<|y j):
 PsI x y l c n bx by_ k (E l*Q+mono k (d<|k+(c-1))) (λj=>l*d j-d (k+(c-1))*sh y k j):=by
 have e1:n-k=n-(k+1)+1:=W
 have i:bx+(n-k)*(by_+1)=by_+(bx+(n-(k+1))*(by_+1))+1:=by rw[e1,xbk];lia
 refine⟨((Fs.pc l).mul h.fq).add ⟨k+1,λj m=>zG⟩,?_,λj m=> ?_,λj=> ?_⟩
 ·rw[e1,xbO,xbI,<-ky,zd,h.eq,wI,yV,zd];funext j;rw[zX,zX,zX,VZ,zY l d];show _=_+_+(l*d j-d (k+(c-1))*sh y k j);lia
 ·show l*d j-d (k+(c-1))*sh y k j=0;unfold sh;rw[yg];by_cases e:j=k+(c-1)
  ·rw[e,(W:k+(c-1)-k=c-1),hl,xbI];lia
  ·rw[h.z j W,g.2 _ W];lia
 ·rw[i];refine Bb.sub ((show Bb by_ l by rw[<-hl];exact f _).mul<|h.b j) ?_;rw[xdA by_];refine(h.b _).mul ?_;unfold sh;split
  ·exact f _
  ·exact Bb.zero _
theorem zpU{n:wL}{l:N U}(j:wL):M (So n (I,[])++l) j=sh (M l) n j:=by
 unfold sh;by_cases h:n<=j
 ·rw[Q h];unfold M;rw[UV,xbl (by rw[xaN];exact h),xaN,<-UV]
 ·rw[S h];unfold M;rw[UV,xaZ (by rw[xaN];lia),xdP];rw[yg];rfl
theorem BH{x y:N U}(hx:yu x=x)(p:yu y=y)(hl:X y<=X x)(hJ:0<X y)(hK:X x<=60)(bX:∀j,Bb bx<|M x j)(C:∀j,Bb by_<|M y j)(hT:bx+(X x-X y+1)*(by_+1)<=2400000)(m:3000000<=fu):
 ∃q r c Q,Ys fu x y=Z (q,r,0)/\yu r=r/\X r<X y/\c≠0/\Fs Q/\(E c*M x:Pz)=Q*M y+M r/\∀j,Bb (bx+(X x-X y+1)*(by_+1)) (M r j):=by
 obtain⟨n,hn⟩:∃n,n=X x-X y+1:=⟨_,O⟩;rw[<-hn]at hT⊢;obtain⟨T,hL⟩:∃T,T=bx+n*(by_+1):=⟨_,O⟩;have ty:Tp (M y) (X y-1):=by
  have:=Vb (a:=y) (by rw[p];lia);rwa[p]at this
 obtain⟨l,D⟩:∃l,l=M y (X y-1):=⟨_,O⟩;have u:l≠0:=by rw[D];exact ty.1
 have i:Bb by_ l:=by rw[D];exact C _
 have hm:∀d,d<=n->d*(by_+1)<=n*(by_+1):=λd hd=>xac _ hd;have ho:∀d:wL,d*(by_+1)=d*by_+d:=λd=>by rw[xcp,xeF]
 have hM:by_+1<=T:=by have:=hm 1 W;rw[xcN]at this;lia
 have oX:xa 37500 x:=by rw[<-hx];exact xh λj=>(bX j).bz W
 have oY:xa 37500 y:=by rw[<-p];exact xh λj=>(C j).bz W
 have v:∀d,d<=n->Bz 37501 (l^d):=λd hd=>(Bb.pow i d).bz (by have:=hm d hd;have:=ho d;lia);have A:∀d,d<=n->∀z,Bb (bx+(n-d)*(by_+1)) z->Bb T (l^d*z):=λd hd z hz=>(Bb.pow' i hz d).mono (by
  have h1:=ho d;have h2:n*(by_+1)=d*(by_+1)+(n-d)*(by_+1):=by rw[<-xbk];congr 1;lia
  lia)
 have hB:y.getD (X y-1) (I,[])=yC l:=by rw[D];exact Ee (show y=wO (X y) (M y)from p.symm)
 obtain⟨r0,hi⟩:∃r0,r0=wO (X x) (λj=>M x j*l^n):=⟨_,O⟩;have ht:∀j,M r0 j=l^n*M x j:=λj=>by rw[hi,j7 (λj G=>by rw[ym G,xbc]),xbI]
 obtain⟨s,hs,r,q,rfl,g,Q,r1,r2,H,r4⟩:=zM (f:=Q7 fu<|yC l) (λs:N U×N U×J×N U=>∃(k:wL) (r q:N U),s=(y,r,(k:J)-1,q)/\k<=n/\yu r=r/\X r<=X x+60*(n-k)/\X q=n/\xa 37500 q/\∃Q g,PsI (M x) (M y) l (X y) n bx by_ k Q g/\∀j,M r j=l^k*g j) (λs=>(s.2.2.1+1).toNat)
  (λt=>∃(r q:N U),t=(r,q)/\∃g Q,yu r=r/\(X q=n/\xa 37500 q)/\PsI (M x) (M y) l (X y) n bx by_ 0 Q g/\∀j,M r j=g j) (by
  rintro s L ⟨k,r,q,rfl,hk,P,hN,hp,hq,Q,g,o,hc⟩ ih
  unfold Q7
  simp only
  cases k with
  |zero=>
   rw[zG]
   exact⟨_,O,r,q,O,g,Q,P,⟨hp,hq⟩,o,λj=>by rw[hc j,xce,xdd]⟩
  |succ k=>
   have hH:60*(n-(k+1))+60=60*(n-k):=W
   have hO:60*(n-k)<=60*60:=xaG _ W
   have hu:=o.step hk ty D.symm C
   have bR:∀j,Bb T (M r j):=λj=>by rw[hc j];exact A (k+1) hk _<|o.b j
   have oR:xa 37500 r:=by rw[<-P];exact xh λj=>(bR j).bz W
   rw[(W:((k+1:wL):J)-1=(k:J)),yg,zb]
   by_cases hP:X r<k+X y
   ·have hC:g (k+(X y-1))=0:=by
     have h1:=hc<|k+(X y-1);rw[ym W]at h1;obtain h2|h2:=xeQ.1 h1.symm
     ·exact jp h2<|Int.pow_ne_zero u
     ·exact h2
    rw[yg,zb]
    refine ih _ ⟨k,r,q,O,W,P,W,hp,hq,_,_,hu,λj=> ?_⟩ (by show((k:J)-1+1).toNat<(((k+1:wL):J)-1+1).toNat;lia)
    show M r j=l^k*(l*g j-g (k+(X y-1))*sh (M y) k j)
    rw[hC,xbc,xdf,hc j,xbO,xcY]
   ·have hD:X r=k+X y:=by
     by_cases e:X r=k+X y
     ·exact e
     ·exfalso;have h1:=XC (show r=wO (X r) (M r)from P.symm) W;rw[hc,o.z _ W,xaA]at h1;exact h1 O
    obtain⟨w,R⟩:∃w,w=g (k+(X y-1)):=⟨_,O⟩
    have hF:M r (k+(X y-1))=l^k*w*l:=by rw[hc,<-R,xbO,Int.mul_right_comm]
    have bw:Bb T (l^k*w):=by
     refine A k W w ((o.b _).mono ?_|>λh=>by rw[R];exact h);have:=hm (n-(k+1)) W;have h3:(n-k)*(by_+1)=(n-(k+1))*(by_+1)+(by_+1):=by rw[(W:n-k=n-(k+1)+1),xbk,xcN]
     lia
    have a0:∀j,Bb T (M y j*(l^k*w)):=λj=>by
     have h1:Bb (by_+(k*by_+(bx+(n-(k+1))*(by_+1)))) (M y j*(l^k*w)):=(C j).mul<|Bb.pow' i (by rw[R];exact o.b _) k;refine h1.mono ?_;have h2:n*(by_+1)=(k+1)*(by_+1)+(n-(k+1))*(by_+1):=by rw[<-xbk];congr 1;lia
     have h3:=ho<|k+1;rw[xbk k 1 by_,xcN]at h3;lia
    have hE:exE (l^k*w*l) l=0:=by unfold exE;rw[S u,iq<|Int.mul_emod_left _ _]
    have hX:exI (l^k*w*l) l=l^k*w:=by unfold exI;rw[S u,iq<|Int.mul_emod_left _ _,Int.mul_ediv_cancel _ u]
    rw[zG,zb,(W:(k:J)+(X y:J)-1=((k+(X y-1):wL):J)),zb,yn,F,Y<|vO (oR.okS rx _) ((i.bz (K:=37500) W).okS rx) m,Qw,zn,hF,hX,hE]
    simp only
    have hv:(q.set k<|yC<|l^k*w).getD k (I,[])=yC (l^k*w):=by rw[UV,xdY W];rfl
    rw[yn,F,yF,y9,F,zm (by rw[xbe];lia),F,hv,Y<|jQ (l:=37500) oY ⟨yx _,(bw.bz (K:=37500) W).len⟩ rx W m,zn]
    obtain⟨part,V⟩:∃part,part=wO (X y) (λj=>M y j*(l^k*w)):=⟨_,O⟩
    have hG:∀j,M part j=M y j*(l^k*w):=λj=>by rw[V,j7<|λj G=>by rw[ym G,xbc]]
    have hQ:X part<=X y:=by rw[V,xE];exact qS _ _
    have a1:xa 37500 part:=by rw[V];exact xh λj=>(a0 j).bz W
    have B:xa 37500 (So k (I,[])++part):=λz hz=>by
     obtain hz|hz:=xab.1 hz
     ·rw[(xen.1 hz).2];exact⟨zp.nil,xaf _⟩
     ·exact a1 z hz
    rw[<-V,xN (by rw[xaN];lia),F,Y<|ZL oR B rx W (by rw[xau,xaN];lia) m,zb]
    refine ih _ ⟨k,_,_,O,W,(JK _ _).symm,?_,by rw[xbe];exact hp,?_,_,_,hu,λj=> ?_⟩ (by show((k:J)-1+1).toNat<(((k+1:wL):J)-1+1).toNat;lia)
    ·have:=bW r<|So k (I,[])++part
     rw[xau,xaN]at this
     lia
    ·intro z hz
     obtain h1|h1:=xdx hz
     ·exact hq z h1
     ·rw[h1];exact⟨yx _,(bw.bz (K:=37500) W).len⟩
    ·rw[zc3,zpU,hc j]
     show l^(k+1)*g j-sh (M part) k j=l^k*(l*g j-g (k+(X y-1))*sh (M y) k j)
     rw[<-R]
     have e2:sh (M part) k j=l^k*(w*sh (M y) k j):=by
      unfold sh;split
      ·rw[hG,xbI,xcY]
      ·rw[xaA,xaA]
     rw[e2,xbO,Int.mul_sub,xcY]) fu (y,r0,(n:J)-1,So n (I,[])) ⟨n,r0,_,O,Nm _,by rw[hi];exact(JK _ _).symm,by rw[hi,xE];have:=qS (λj=>M x j*l^n) (X x);lia,xaN,λz hz=>by rw[(xen.1 hz).2];exact⟨zp.nil,xaf _⟩,E 0,M x,⟨Fs.pc 0,by
    rw[xck,xce,zE,yB];exact uT λj=>by rw[zX,zS,xcI],λj G=>ym W,λj=>by rw[xck,xcC];exact bX j⟩,ht⟩ (by show((n:J)-1+1).toNat<fu;lia)
 refine⟨wO (X q)<|M q,r,l^n,Q,?_,r1,?_,Int.pow_ne_zero u,H.fq,?_,λj=>by rw[r4 j];exact H.b j⟩
 ·unfold Ys;have hA:max ((X x:J)-X y+1) 0=(n:J):=W
  rw[Y<|zK oX rx W m,Y<|zK oY rx W m,show wO (X x) (M x)=x from hx,show wO (X y) (M y)=y from p,zG,zb,zb,F,hA,(W:(X y:J)-1=((X y-1:wL):J)),zb,yn,F,hB,Y<|CN W v ((i.bz (K:=37501) W)) rx m,Y<|jQ (l:=37501) oX ⟨yx _,(v n<|Nm _).len⟩ rx W m,zn,<-hi,yF,y9,F,zb,Y hs];simp only;rw[Y<|zK r2.2 rx W m]
 ·by_cases e:X r=0
  ·lia
  ·have h1:=XC (show r=wO (X r) (M r)from r1.symm) e;by_cases h2:X r<X y
   ·exact h2
   ·rw[r4,H.z _ W]at h1;exact jp O h1
 ·have:=H.eq;rw[Nat.sub_zero]at this;rw[this,show(M r:Pz)=g from uT r4]
end
section
def fac:K->J
 |0=>1
 |n+1=>((n+1:K):J)*fac n
theorem YA:∀n,0<fac n
 |0=>by decide
 |n+1=>Int.mul_pos W<|YA n
def ip(n:K)(f g:Pz):J:=yv (n+1) λs=>fac s*fac (n-s)*(f s*g s)
theorem Jx(n:K)(f g:Pz):ip n f g=ip n g f:=yA λs _=>by rw[xbI<|f s]
theorem zcs(n:K)(f g h:Pz):ip n (f+g) h=ip n f h+ip n g h:=by
 unfold ip;rw[<-XH];exact yA λs _=>by rw[zX,Int.add_mul,xfx]
theorem Dh(n:K)(f g h:Pz):ip n h (f+g)=ip n h f+ip n h g:=by grind [Jx,zcs]
theorem zak(n:K)(c:J)(f h:Pz):ip n (E c*f) h=c*ip n f h:=by
 unfold ip;rw[<-ZA];exact yA λs _=>by rw[zY,xcY c<|f s,Int.mul_left_comm]
theorem A1(n:K)(c:J)(f h:Pz):ip n h (E c*f)=c*ip n h f:=by rw[Jx,zak,Jx]
theorem O8{f:K->J}:∀{n},(∀k,k<n->0<=f k)->0<=yv n f
 |0,_=>xfV 0
 |n+1,h=>Int.add_nonneg (O8 λk a=>h k W)<|h n W
theorem znk(n:K)(f:Pz):0<=ip n f f:=O8 λs _=>xcx (xcx (xdG<|YA _)<|xdG<|YA _)<|Y5 _
def xP:Pz:=mono 1 1
theorem zsN(f:Pz):(xP*f) 0=0:=by
 unfold xP;rw[VZ];rfl
theorem zsd(f:Pz)(k:K):(xP*f) (k+1)=f k:=by simp_all [sh,xP,VZ]
theorem adx(n:K)(f g:Pz):ip (n+1) (xP*f) g=ip n f (dvp g):=by
 unfold ip;rw[Zo,zsN,xbc,xaA,xcI];refine yA λs a=> ?_;rw[zsd,(W:n+1-(s+1)=n-s)];show((s+1:K):J)*fac s*fac (n-s)*(f s*g (s+1))=fac s*fac (n-s)*(f s*(((s+1:K):J)*g (s+1)));grind
def dy(n:K)(f:Pz):Pz:=E (n:J)*f-xP*dvp f
theorem TC(n:K)(f:Pz)(k:K):dy n f k=((n:J)-k)*f k:=by
 unfold dy;rw[y8,zY]
 cases k with
 |zero=>rw[zsN];grind
 |succ k=>
  rw[zsd];show n*f (k+1)-((k+1:K):J)*f (k+1)=_;grind
theorem ady(n:K)(f g:Pz)(a:f (n+1)=0):ip (n+1) f g=ip n f (dy (n+1) g):=by
 show yv (n+1) _+fac (n+1)*fac (n+1-(n+1))*(f (n+1)*g (n+1))=_;rw[a,xbc,xaA,xbY];refine yA λs b=> ?_;rw[TC,(W:n+1-s=(n-s)+1)];show fac s*(((n-s+1:K):J)*fac (n-s))*(f s*g s)=_;grind
theorem eul(n:K)(f:Pz):E (n:J)*f=xP*dvp f+dy n f:=by
 unfold dy;funext k;rw[zX,y8];lia
theorem zpm(n m:K)(f g:Pz):dy (n+m) (f*g)=dy n f*g+f*dy m g:=by
 have h1:E ((n+m:K):J)*(f*g)=E n*f*g+f*(E m*g):=by
  rw[zF f,zd];funext k;rw[zX,zY,zY,zY];grind
 have a:xP*(dvp f*g+f*dvp g)=xP*dvp f*g+f*(xP*dvp g):=by rw[wI,zd,zF f]
 unfold dy;rw[ab,h1,a,ki,qx];funext k;simp only[zX,y8];lia
theorem zjM(n:K)(f:Pz):dvp (dy (n+1) f)=dy n (dvp f):=uT λk=>by
 rw[TC];show((k+1:K):J)*dy (n+1) f (k+1)=(n-k)*(((k+1:K):J)*f (k+1));rw[TC];grind
def Dg(n:K)(f:Pz):Prop:=∀k,n<k->f k=0
theorem Dg.dx{n:K}{f:Pz}(h:Dg (n+1) f):Dg n (dvp f):=λk a=>by
 show((k+1:K):J)*f (k+1)=0;rw[h _ W,xaA]
theorem Dg.dy{n:K}{f:Pz}(h:Dg (n+1) f):Dg n (dy (n+1) f):=λk a=>by
 rw[TC];by_cases e:k=n+1
 ·simp_all
 ·rw[h k W,xaA]
theorem Dg.mul{n m:K}{f g:Pz}(a:Dg n f)(b:Dg m g):Dg (n+m) (f*g):=λk d=>uE (n:=n+1) (m:=m+1) (λj c=>a j W)<|λj c=>b j W
theorem Dg.add{n:K}{f g:Pz}(b:Dg n f)(c:Dg n g):Dg n (f+g):=λk a=>by rw[zX,b k a,c k a];rfl
theorem Dg.num{f:Pz}(h:Dg 0 f):f=E (f 0):=uT λk=>by
 unfold E;by_cases e:k=0
 ·simp_all
 ·rw[S e,h k W]
section
variable(a:wL)(u:Pz)
theorem znw{m b q0:K}{v p q:Pz}(hp:Dg (m+1) p)(c:Dg a u)(e:b+q0=m+1+a):
 ((m+1:K):J)*ip (m+1+a) (p*u) (v*q)=ip (m+a) (dvp p*u) (dvp v*q)+ip (m+a) (dy (m+1) p*u) (dy b v*q)+(ip (m+a) (dvp p*u) (v*dvp q)+ip (m+a) (dy (m+1) p*u) (v*dy q0 q)):=by
 rw[<-zak,<-zd,eul,yV,zcs,zd,(W:m+1+a=m+a+1),adx,ady _ _ _ (hp.dy.mul c _ W),ab,Dh,(W:m+a+1=b+q0),zpm,Dh];lia
def Fk:K->K->K->Pz->Pz->Pz->J
 |0,b,_,v,p,q=>ip (b+a) (p*u)<|v*q
 |k+1,b,c,v,p,q=>Fk k (b-1) (c-1) v (dvp p) (dvp q)+Fk k (b-1) (c-1) v (dy b p) (dy c q)
theorem MM(c:Dg a u):∀(k:K) {m b q0:K}{v p q:Pz},k<=m->m<=q0->b+(q0+1)=m+1+a->Dg (m+1) p->
 ((m+1:K)-(k:J))*Fk a u k (m+1) (q0+1) v p q=Fk a u k m (q0+1) (dvp v) (dvp p) q+Fk a u k m (q0+1) (dy b v) (dy (m+1) p) q+Fk a u (k+1) (m+1) (q0+1) v p q
 |0,m,b,q0,v,p,q,_,_,e,hp=>by
  have:=znw a u (v:=v) (q:=q) hp c e;assumption
 |k+1,0,_,_,_,_,_,h,_,_,_=>by lia
 |k+1,m+1,b,0,_,_,_,_,h,_,_=>by lia
 |k+1,m+1,b,q0+1,v,p,q,h1,d,e,hp=>by
  have i1:=MM c k (b:=b) (q0:=q0) (v:=v) (q:=dvp q) W W W hp.dx;have i2:=MM c k (b:=b) (q0:=q0) (v:=v) (q:=dy (q0+1+1) q) W W W hp.dy;rw[zjM]at i2;show((m+1+1:K)-((k+1:K):J))*(Fk a u k (m+1) (q0+1) v (dvp p) (dvp q)+Fk a u k (m+1) (q0+1) v (dy (m+1+1) p) (dy (q0+1+1) q))=Fk a u k m (q0+1) (dvp v) (dvp<|dvp p) (dvp q)+Fk a u k m (q0+1) (dvp v) (dy (m+1)<|dvp p) (dy (q0+1+1) q)+(Fk a u k m (q0+1) (dy b v) (dvp<|dy (m+1+1) p) (dvp q)+Fk a u k m (q0+1) (dy b v) (dy (m+1)<|dy (m+1+1) p) (dy (q0+1+1) q))+(Fk a u (k+1) (m+1) (q0+1) v (dvp p) (dvp q)+Fk a u (k+1) (m+1) (q0+1) v (dy (m+1+1) p) (dy (q0+1+1) q));rw[zjM,(W:((m+1+1:K)-((k+1:K):J))=((m+1:K)-(k:J))),xfx];lia
def pD:K->K->Pz->Pz->Pz
 |0,_,p,q=>p*q
 |k+1,b,p,q=>pD k (b-1) (dvp p) (dvp q)+pD k (b-1) (dy (k+1) p) (dy b q)
theorem zjB:∀(k:K) {b:K}{v p q:Pz},Dg k p->Fk a u k k b v p q=ip a u (v*pD k b p q)
 |0,b,v,p,q,h=>by
  show ip (0+a) (p*u) (v*q)=ip a u (v*(p*q));rw[h.num,xaD,zak,zF,A1]
 |k+1,b,v,p,q,h=>by
  show Fk a u k k (b-1) v (dvp p) (dvp q)+Fk a u k k (b-1) v (dy (k+1) p) (dy b q)=ip a u (v*(pD k (b-1) (dvp p) (dvp q)+pD k (b-1) (dy (k+1) p) (dy b q)));rw[zjB k h.dx,zjB k h.dy,wI,Dh]
end
theorem zgP:∀(k:K) {d:K}{p q:Pz},Dg k p->Dg (k+d) q->Dg d (pD k (k+d) p q)
 |0,d,p,q,hp,a=>by
  have:=hp.mul a;rw[xaD,xaD]at this;exact this
 |k+1,d,p,q,hp,a=>by
  rw[(W:k+1+d=k+d+1)]at a⊢;exact(zgP k hp.dx a.dx).add<|zgP k hp.dy a.dy
theorem zgR:∀(k:K) {d:K}{p q g:Pz},Dg k p->Dg d g->fac k*ip (k+d) q (p*g)=ip d (pD k (k+d) p q) g
 |0,d,p,q,g,hp,a=>by
  show 1*ip (0+d) q (p*g)=ip d (p*q) g;rw[hp.num,xdd,xaD,A1,zak]
 |k+1,d,p,q,g,hp,a=>by
  have i1:=zgR k (q:=dvp q) hp.dx a;have i2:=zgR k (q:=dy (k+d+1) q) hp.dy a;rw[(W:k+1+d=k+d+1)];show((k+1:K):J)*fac k*ip (k+d+1) q (p*g)=ip d (pD k (k+d+1-1) (dvp p) (dvp q)+pD k (k+d+1-1) (dy (k+1) p) (dy (k+d+1) q)) g;rw[Nat.add_sub_cancel,zcs,<-i1,<-i2,xbI _<|fac k,xcY,<-A1,<-zd,eul,yV,Dh,zd,Jx _ q,adx,Jx _ q,ady _ _ _ (hp.dy.mul a _ W),xfx,Jx _<|dvp q,Jx _<|dy _ q]
theorem Ta{a:K}{u:Pz}(e:Dg a u):∀(b:K) {v:Pz},Dg b v->b<=a->∀(j k:K),k+j=b->0<=Fk a u k b a v v u
 |b,v,hv,f,0,k,h=>by
  obtain rfl:k=b:=W
  obtain⟨d,rfl⟩:∃d,a=k+d:=⟨a-k,W⟩;have h1:=zgR k (d:=d) (q:=u) (g:=pD k (k+d) v u) hv<|zgP k hv e;rw[zjB _ _ k hv];have i:=znk d<|pD k (k+d) v u;rw[<-h1]at i;exact Int.nonneg_of_mul_nonneg_right i<|YA k
 |0,v,hv,f,j+1,k,h=>by lia
 |b+1,v,hv,f,j+1,k,h=>by
  obtain⟨c,rfl⟩:∃c,a=c+1:=⟨a-1,W⟩;have h1:=MM (c+1) u e k (m:=b) (b:=b+1) (q0:=c) (v:=v) (p:=v) (q:=u) W W W hv;have i:=Ta e b hv.dx W j k W;have n:=Ta e b hv.dy W j k W;have o:=Ta e (b+1) hv f j (k+1) W;have l:0<=((b+1:K)-(k:J))*Fk (c+1) u k (b+1) (c+1) v v u:=by rw[h1];lia
  exact Int.nonneg_of_mul_nonneg_right l W
theorem zr4{u:Pz}(h:Dg 0 u):dvp u=E 0:=uT λk=>by
 rw[zS];show((k+1:K):J)*u (k+1)=0;rw[h _ W,xaA]
theorem ztP{u:Pz}(h:Dg 0 u):dy 0 u=E 0:=uT λk=>by
 rw[zS,TC];by_cases e:k=0
 ·simp_all
 ·rw[h k W,xaA]
theorem zr0{a b:K}{u v:Pz}(c:Dg a u)(hv:Dg (b+1) v):0<=ip (b+a) (dvp v*u) (v*dvp u)+ip (b+a) (dy (b+1) v*u) (v*dy a u):=by
 by_cases h:b+1<=a
 ·exact Ta c (b+1) hv h b 1 W
 ·cases a with
  |zero=>
   rw[zr4 c,ztP c,zo v,A1,A1];lia
  |succ a=>
   have:=Ta hv (a+1) c W a 1 W;have this:0<=ip (a+(b+1)) (dvp u*v) (u*dvp v)+ip (a+(b+1)) (dy (a+1) u*v) (u*dy (b+1) v):=this;rw[Jx,Jx _<|dy (a+1) u*v,zo u,zo<|dvp u,zo u,zo<|dy (a+1) u,(W:a+(b+1)=b+(a+1))]at this;lia
theorem zrc{a:K}{u:Pz}(c:Dg a u):∀(b:K) {v:Pz},Dg b v->fac b*(v b*v b)*ip a u u<=ip (b+a) (v*u) (v*u)
 |0,v,hv=>by
  rw[hv.num,zak,A1,xaD];show 1*(E (v 0) 0*E (v 0) 0)*ip a u u<=v 0*(v 0*ip a u u);have e:E (v 0) 0=v 0:=O;rw[e,xdd,xcY];lia
 |b+1,v,hv=>by
  have h1:=znw a u (b:=b+1) (q0:=a) (v:=v) (q:=u) hv c O;have f:=zr0 c hv;have g:=znk (b+a)<|dy (b+1) v*u;have d:=zrc c b hv.dx;have e:dvp v b=((b+1:K):J)*v (b+1):=O;rw[e]at d;have h:((b+1:K):J)*(fac (b+1)*(v (b+1)*v (b+1))*ip a u u)=fac b*(((b+1:K):J)*v (b+1)*(((b+1:K):J)*v (b+1)))*ip a u u:=by
   show((b+1:K):J)*(((b+1:K):J)*fac b*(v (b+1)*v (b+1))*ip a u u)=_;grind
  refine Int.le_of_mul_le_mul_left (a:=((b+1:K):J)) ?_ W;lia
theorem De:∀(m n:K),fac (m+n)<=2^(m+n)*(fac m*fac n)
 |0,n=>by
  rw[xaD];show fac n<=2^n*(1*fac n);rw[xdd];have:=xbC (show(1:J)<=2^n from Int.pow_pos rx)<|xdG<|YA n;lia
 |m+1,0=>by
  show fac (m+1)<=2^(m+1)*(fac (m+1)*1);rw[xcO];have:=xbC (show(1:J)<=2^(m+1)from Int.pow_pos rx)<|xdG<|YA<|m+1;lia
 |m+1,n+1=>by
  have i1:=xaU (De m<|n+1) (W:(0:J)<=((m+1:K):J));have i2:=xaU (De (m+1) n) (W:(0:J)<=((n+1:K):J));rw[(W:m+(n+1)=m+n+1)]at i1;rw[(W:m+1+n=m+n+1)]at i2;rw[(W:m+1+(n+1)=m+n+1+1)];have e1:fac (m+n+1+1)=((m+1:K):J)*fac (m+n+1)+((n+1:K):J)*fac (m+n+1):=by
   show((m+n+1+1:K):J)*fac (m+n+1)=_;rw[<-Int.add_mul];congr 1;lia
  have a:(2:J)^(m+n+1+1)*(fac (m+1)*fac (n+1))=((m+1:K):J)*(2^(m+n+1)*(fac m*fac (n+1)))+((n+1:K):J)*(2^(m+n+1)*(fac (m+1)*fac n)):=by
   rw[xbO];have f1:fac (m+1)=((m+1:K):J)*fac m:=O;have f2:fac (n+1)=((n+1:K):J)*fac n:=O;rw[f1,f2];generalize((m+1:K):J)=x;generalize((n+1:K):J)=y;generalize(2:J)^(m+n+1)=z;grind
  rw[e1,a];lia
theorem zh1:∀(m n:K),fac m*fac n<=fac (m+n)
 |0,n=>by
  rw[xaD];show 1*fac n<=fac n;lia
 |m+1,n=>by
  rw[(W:m+1+n=m+n+1)];show((m+1:K):J)*fac m*fac n<=((m+n+1:K):J)*fac (m+n);have h1:=zh1 m n;have a:=xaU h1 (W:0<=((m+1:K):J));have b:=xbC (W:((m+1:K):J)<=((m+n+1:K):J))<|xdG<|YA<|m+n;grind
theorem Ly{f g:K->J}:∀{n},(∀k,k<n->f k<=g k)->yv n f<=yv n g
 |0,_=>xfV 0
 |n+1,h=>Int.add_le_add (Ly λk a=>h k W)<|h n W
theorem SX{f:K->J}{j:K}:∀{n},(∀k,k<n->0<=f k)->j<n->f j<=yv n f
 |0,_,h=>jp h<|xbb _
 |n+1,h,b=>by
  have h1:=O8 λk (a:k<n)=>h k W;have c:=h n W;show f j<=yv n f+f n;by_cases e:j=n
  ·grind
  ·have:=SX (λk a=>h k W) (W:j<n);lia
theorem mig{f u v:Pz}{a b:K}(g:Tp u a)(hv:Tp v b)(e:f=u*v)(k:K):(v b*u k)*(v b*u k)<=4^(a+b)*AB f (a+b+1):=by
 have c:=px f<|a+b+1;by_cases x:k<=a
 ·have h1:=zrc (a:=a) (u:=u) g.2 b (v:=v) hv.2;have j:fac k*fac (a-k)*(u k*u k)<=ip a u u:=SX (f:=λs=>fac s*fac (a-s)*(u s*u s)) (λs _=>xcx (xcx (xdG<|YA _)<|xdG<|YA _)<|Y5 _) W;have y:ip (b+a) (v*u) (v*u)<=fac (b+a)*AB f (a+b+1):=by
   rw[zo,<-e,xdA b a];unfold ip AB;rw[<-ZA];refine Ly λs z=>xbC ?_<|Y5 _;have:=zh1 s<|a+b-s;rwa[(W:s+(a+b-s)=a+b)]at this
  have l:=De b a;have h:=De k<|a-k;rw[(W:k+(a-k)=a)]at h;have d:=YA b;have pw:(0:J)<2^(b+a):=Int.pow_pos rx;have m:=Int.mul_pos (YA k)<|YA<|a-k;have o:=Y5<|v b;generalize fac k*fac (a-k)=X at*
  have g1:=xaU j (show 0<=fac b*(v b*v b)from xcx (xdG d) o);have A:=xbC l c;have p:=xaU h (show 0<=2^(b+a)*fac b from xcx (xdG pw)<|xdG d);have B:=xbC p c;have q:fac b*X*((v b*u k)*(v b*u k))<=fac b*X*(2^(b+a)*2^a*AB f (a+b+1)):=by
   have e1:fac b*X*((v b*u k)*(v b*u k))=fac b*(v b*v b)*(X*(u k*u k)):=by grind
   have r:fac b*X*(2^(b+a)*2^a*AB f (a+b+1))=2^(b+a)*fac b*(2^a*X)*AB f (a+b+1):=by grind
   have C:2^(b+a)*(fac b*fac a)*AB f (a+b+1)=2^(b+a)*fac b*fac a*AB f (a+b+1):=by grind
   rw[e1,r];lia
  have t:=Int.le_of_mul_le_mul_left q<|Int.mul_pos d m;refine Int.le_trans t<|xbC ?_ c;have w:(4:J)^(a+b)=2^(b+a)*2^(a+b):=by rw[(rx:(4:J)=2*2),Int.mul_pow,xdA b a]
  rw[w];refine xaU ?_<|xdG pw;have:=xam (n:=2) rx (W:a<=a+b);have i:∀n:K,((2^n:K):J)=(2:J)^n:=λn=>by simp
  rw[<-i,<-i];lia
 ·rw[g.2 k W,xaA,xaA];exact xcx (Int.pow_nonneg rx) c
end
section
variable{B:(ww Zr×ww Zr->wN (ww Zr))->ww Zr×ww Zr->wN (ww Zr)}{fu ca cb m:wL}{a b:ww Zr}{d p g R q:Pz}
theorem zgK{f:Pz}{M:J}(h:∀k,f k*f k<=M):∀n:K,AB f n<=n*M
 |0=>by show 0<=0*M;lia
 |n+1=>by
  show yv n (λk=>f k*f k)+f n*f n<=_;have h1:yv n (λk=>f k*f k)<=n*M:=zgK h n;grind
theorem zoY{x y:K}(h:x*x<y*y):x<y:=by
 refine xak λhn=> ?_;have:=xcf (W:y<=x) (W:y<=x);lia
theorem NT{f u v:Pz}{n B:K}(c:Tp f n)(fu:Fs u)(j:Fs v)(e:f=u*v)(hn:n<=40)(l:∀k,Bb B<|f k)(k:K):Bb (B+n+4) (u k):=by
 obtain⟨o,P⟩:=Jf c.nz e;obtain⟨a,h⟩:=Tp.ex fu o;obtain⟨b,hc⟩:=Tp.ex j P;have r:a+b=n:=by
  have:=h.mul hc;rw[<-e]at this;exact this.uniq c
 have h1:=mig h hc e k;have s:∀k,f k*f k<=(2^B:J)*2^B:=λk=>by
  have:=l k;unfold Bb at this;have i:(f k*f k)=(((f k).natAbs*(f k).natAbs:K):J):=by simp_all
  rw[i];have y:=xcf (xdC this)<|xdC this;grind
 have i:=zgK s<|a+b+1;have t:(u k).natAbs<=(v b*u k).natAbs:=by
  rw[xcw];exact xdX _ (by have:=hc.1;lia)
 refine xaI t<|zoY ?_;have w:((v b*u k).natAbs*(v b*u k).natAbs:K)=(v b*u k*(v b*u k)).natAbs:=(xcw _ _).symm;rw[w];have x:(v b*u k*(v b*u k)).natAbs<=4^(a+b)*((a+b+1)*(2^B*2^B)):=by
  have z:(4:J)^(a+b)*AB f (a+b+1)<=4^(a+b)*(((a+b+1:K):J)*(2^B*2^B)):=xaU W (Int.pow_nonneg rx);have A:(4:J)^(a+b)*(((a+b+1:K):J)*(2^B*2^B))=((4^(a+b)*((a+b+1)*(2^B*2^B)):K):J):=rC
  have:=Y5<|v b*u k;lia
 refine xaI x ?_;have e1:(2:K)^(B+n+4)*2^(B+n+4)=4^n*(256*(2^B*2^B)):=by
  rw[(rx:(4:K)=2^2),<-xcg,(rx:(256:K)=2^8),<-xbg,<-xbg,<-xbg,<-xbg];congr 1;lia
 rw[e1];have hd:0<(2:K)^B*2^B:=xdr (xaY rx) (xaY rx);rw[r];exact Nat.mul_lt_mul_of_pos_left (xbN W hd)<|xaY rx
theorem Bx{K:wL}(f:xa K a)(h:K+1<=100000)(hl:X a<=1000)(e:3000000<=fu):Vn fu a=Z (wO (X a-1)<|dvp<|M a):=by
 unfold Vn;have hc:∀k:wL,k<=1000->Bz 1 (k:J):=λk n=>Bz.nat (by rw[Nat.pow_one];lia);rw[Y<|DG (g:=λk=>if k<1000 then M a k*(k:J)else 0) W W λj c=> ?_]
 ·have i:min (X a:J) 1=((min (X a) 1:wL):J):=W
  rw[yw,F,i,yF,y9,F];have hd:(zi (X a) λk=>if k<1000 then M a k*(k:J)else 0).drop (min (X a) 1)=zi (X a-1) (dvp<|M a):=by
   refine zjh (by rw[xch,yw,yw];lia) λj c=> ?_;rw[xch,yw]at c;rw[YJ W,UV,xfg,<-UV,YJ W,(W:min (X a) 1+j=j+1),yg];show yC (M a (j+1)*((j+1:wL):J))=yC (((j+1:wL):J)*M a (j+1));grind
  rw[hd,Y<|zK (k:=K+1) (Xq λj=> ?_) h (by rw[yw];lia) e,yw,FZ];unfold dvp;by_cases c:j+1<=1000
  ·rw[xbI];exact(f.bz _).mul<|hc _ c
  ·rw[ym W,xaA];exact Bz.zero _
 ·unfold QQ;have l:=f.get j;rw[Y<|yr ⟨W,W⟩ e,Y<|yi (fW.of l W) ((hc j W).ok rx) e,zn,Qw,yg]
def cW:K->K
 |0=>1
 |1=>1
 |n+2=>2*cW (n+1)+cW n
theorem zjN:∀n,cW n<=cW (n+1)
 |0=>Nm _
 |n+1=>by show _<=2*cW (n+1)+cW n;lia
theorem lu{i:K}:∀d,cW i<=cW (i+d)
 |0=>Nm _
 |d+1=>xal (lu d)<|zjN _
theorem Rf(j:K):∀t,cW j+(t+1+1)*cW (j+1)<=cW (j+1+(t+1))
 |0=>by show _<=2*cW (j+1)+cW j;lia
 |t+1=>by
  have c:=Rf j t;have h1:cW (j+1+(t+1+1))=2*cW (j+1+(t+1))+cW (j+1+t):=O;grind
theorem DC(f:Fs d)(pd:Pm d):Zd d (M<|zH a)↔Zd d (M a):=by
 by_cases h:X (yu a)=0
 ·have h1:(M a:Pz)=E 0:=uT λk=>by rw[VI h k,zS]
  have i:(M (zH a):Pz)=E 0:=uT λk=>by rw[ZH,VI h k,xek,zS]
  grind
 ·have e:=nk a;constructor
  ·intro c;rw[<-e];exact c.mul _<|Fs.pc _
  ·intro c;rw[<-e]at c;exact Zd.pm f pd (sZ h) c
theorem zdD{x y r Q:Pz}{c:J}(i:Fs d)(pd:Pm d)(hc:c≠0)(h:Fs Q)(e:E c*x=Q*y+r):(Zd d y/\Zd d r)↔(Zd d x/\Zd d y):=by
 constructor
 ·rintro⟨f,z2⟩;refine⟨Zd.pm i pd hc ?_,f⟩;rw[e];exact(f.mul _ h).add z2
 ·rintro⟨f,z2⟩;refine⟨z2,?_⟩;have:r=E c*x-Q*y:=uT λk=>by
   have:=WP e k;rw[zX]at this;rw[y8];lia
  rw[this];exact(f.mul _<|Fs.pc c).sub<|z2.mul _ h
theorem P2{Ps:N U->N U->V (N U×N U×J)}{Pr:N U->V (N U)}(hB:∀R x y,B R (x,y)=if(0:J)<(X y:J)then G (Ps x y) λt=>G (Pr t.2.1) λy'=>R (y,y')else Z x)(hk:∀{K:wL}{a:N U},xa K a->K<=9985->X a<=1000->Pr a=Z (zH a))(hl:∀{bx by_:wL}{x y:N U},yu x=x->yu y=y->X y<=X x->0<X y->X x<=60->(∀j,Bb bx<|M x j)->(∀j,Bb by_<|M y j)->bx+(X x-X y+1)*(by_+1)<=2400000->
 ∃q r c Q,Ps x y=Z (q,r,0)/\yu r=r/\X r<X y/\c≠0/\Fs Q/\(E c*M x:Pz)=Q*M y+M r/\∀j,Bb (bx+(X x-X y+1)*(by_+1))<|M r j) {C L n bx b_:wL} (ha:yu a=a) (o:Pm (M a)) (u:Po (M a)) (hb:yu b=b) (hm:X b<X a) (hL:X a<=L) (hv:L<=60) (hC:C*cW (L-1)<=639000) (ho:C*cW L<=2400000) (v:bx+1<=C*cW (L-X a)) (e:∀j,Bb bx (M a j)) (f:b_+1<=C*cW (L-X a+1)) (hc:∀j,Bb b_ (M b j)) (hd:X b≠0->Pm (M b)/\Po (M b)) (hn:X b<n):
 ∃x,zg B n (a,b)=Z x/\yu x=x/\Pm (M x)/\Po (M x)/\X x<=L/\xa 37500 x/\∀d,Fs d->Pm d->(Zd d (M x)↔(Zd d (M a)/\Zd d (M b))):=by
 refine zM (λs:N U×N U=>yu s.1=s.1/\Pm (M s.1)/\Po (M s.1)/\yu s.2=s.2/\X s.2<X s.1/\X s.1<=L/\(∃bx,bx+1<=C*cW (L-X s.1)/\∀i,Bb bx<|M s.1 i)/\(∃b_,b_+1<=C*cW (L-X s.1+1)/\∀i,Bb b_<|M s.2 i)/\(X s.2≠0->Pm (M s.2)/\Po (M s.2))/\∀d,Fs d->Pm d->((Zd d (M s.1)/\Zd d (M s.2))↔(Zd d (M a)/\Zd d (M b)))) (λs=>X s.2) _ ?_ n (a,b) ⟨ha,o,u,hb,hm,hL,⟨bx,v,e⟩,⟨b_,f,hc⟩,hd,λ_ _ _=>Iff.rfl⟩ hn;rintro⟨x,y⟩ R ⟨h1,H,P,w,h5,S,⟨bx,v,e⟩,⟨b_,f,hc⟩,hd,A⟩ ih;simp only at h1 H P w h5 S v e f hc hd A;rw[hB];have T:∀{i},i<=L->C*cW i<=2400000:=λ{i} hi=>xal (xaG _ (by
  have:=lu (i:=i)<|L-i;rwa[(W:i+(L-i)=L)]at this)) ho
 by_cases hp:0<X y
 ·obtain⟨t,ht⟩:∃t,X x-X y=t+1:=⟨X x-X y-1,W⟩;have hg:bx+(X x-X y+1)*(b_+1)+1<=C*cW (L-X y+1):=by
   have D:=Rf (L-X x) t;rw[(W:L-X x+1+(t+1)=L-X y+1)]at D;have hq:=xaG C D;rw[xcp,xfw]at hq;have hw:=xaG (t+1+1) f;rw[ht];lia
  obtain⟨q,r,c,Q,e1,F,e3,e4,e5,e6,e7⟩:=hl h1 w W hp W e hc (by have:=T (i:=L-X y+1) W;lia);have oR:xa 9985 r:=by
   by_cases hr:X r=0
   ·rw[xbt.1 hr];intro z hz;cases hz
   ·rw[<-F];refine xh λj=>(e7 j).bz ?_;have D:C*cW (L-X y+1)<=C*cW (L-1):=xaG _ (by
     have:=lu (i:=L-X y+1)<|X y-2;rwa[(W:L-X y+1+(X y-2)=L-1)]at this)
    lia
  rw[yg,Y e1];simp only;rw[Y<|hk oR rx W];have hu:=ZN r;rw[F]at hu;obtain⟨y1,y2⟩:=hd W;refine ih _ ⟨w,y1,y2,qu r,by show(zH r).length<X y;lia,by show X y<=L;lia,⟨b_,?_,hc⟩,⟨_,hg,λi=> ?_⟩,λ(hn:X (zH r)≠0)=>QJ (by rw[F];show X r≠0;lia),λd l pd=> ?_⟩ (by show(zH r).length<X y;lia)
  ·refine xal f<|xaG _ ?_;show cW (L-X x+1)<=cW (L-X y);have:=lu (i:=L-X x+1)<|X x-X y-1;rwa[(W:L-X x+1+(X x-X y-1)=L-X y)]at this
  ·show Bb _ (M (zH r) i);rw[ZH];exact(e7 i).le<|xbr _ _
  ·rw[<-A d l pd];show(Zd d (M y)/\Zd d (M<|zH r))↔(Zd d (M x)/\Zd d (M y));rw[DC l pd];exact zdD l pd e4 e5 e6
 ·rw[zG];refine⟨x,O,h1,H,P,S,?_,λd l pd=> ?_⟩
  ·rw[<-h1];exact xh λj=>(e j).bz (by have:=T (i:=L-X x) W;lia)
  ·rw[<-A d l pd];have:Zd d (M y):=⟨E 0,Fs.pc 0,uT λk=>by rw[ym W,yB,zS]⟩;exact⟨λh=>⟨h,this⟩,λh=>h.1⟩
def GcZ(ca cb c e:K):Prop:=(∃C,ca+1<=C/\cb+1<=C/\C*cW (c-1)<=639000/\C*cW c<=2400000)\/
 (ca<=639000/\(ca+(c-e+1)*(cb+1)+1)*cW (e-1)<=639000/\(ca+(c-e+1)*(cb+1)+1)*cW e<=2400000)
theorem zn6{Ps:N U->N U->V (N U×N U×J)}{Pr:N U->V (N U)}(A:∀R x y,B R (x,y)=if(0:J)<(X y:J)then G (Ps x y) λt=>G (Pr t.2.1) λy'=>R (y,y')else Z x)(hc:∀{K:wL}{a:N U},xa K a->K<=9985->X a<=1000->Pr a=Z (zH a))(hd:∀{bx by_:wL}{x y:N U},yu x=x->yu y=y->X y<=X x->0<X y->X x<=60->(∀j,Bb bx<|M x j)->(∀j,Bb by_<|M y j)->bx+(X x-X y+1)*(by_+1)<=2400000->
 ∃q r c Q,Ps x y=Z (q,r,0)/\yu r=r/\X r<X y/\c≠0/\Fs Q/\(E c*M x:Pz)=Q*M y+M r/\∀j,Bb (bx+(X x-X y+1)*(by_+1))<|M r j) {n:wL} (w:yu a=a) (l:Pm (M a)) (o:Po (M a)) (hb:yu b=b) (hi:X b<X a) (he:X a<=60) (D:∀j,Bb ca (M a j)) (bB:∀j,Bb cb (M b j)) (hZ:GcZ ca cb (X a) (X b)) (hn:X b+1<n):
 ∃x,zg B n (a,zH b)=Z x/\yu x=x/\Pm (M x)/\Po (M x)/\X x<=X a/\xa 37500 x/\∀d,Fs d->Pm d->(Zd d (M x)↔(Zd d (M a)/\Zd d (M b))):=by
 have z:X (zH b)=X b:=by rw[ZN,hb]
 have e:∀j,Bb cb (M (zH b) j):=λj=>by rw[ZH];exact(bB j).le<|xbr _ _
 have pb:X (zH b)≠0->Pm (M<|zH b)/\Po (M<|zH b):=λh=>QJ (by rw[hb];lia);have s:∀{x:N U},(∀d,Fs d->Pm d->(Zd d (M x)↔(Zd d (M a)/\Zd d (M<|zH b))))->∀d,Fs d->Pm d->(Zd d (M x)↔(Zd d (M a)/\Zd d (M b))):=λh d f pd=>by rw[h d f pd,DC f pd]
 rcases hZ with⟨C,h1,h2,h3,h4⟩|h1
 ·obtain⟨x,e1,u,e3,F,H,P,v⟩:=P2 A hc hd (C:=C) (L:=X a) (n:=n) w l o (qu b) W (Nm _) he h3 h4 (by rw[xck];show ca+1<=C*1;lia) D (by rw[xck];show cb+1<=C*1;lia) e pb W;exact⟨x,e1,u,e3,F,H,P,s v⟩
 ·obtain⟨hj,h1,hf⟩:=h1;obtain⟨n,rfl⟩:∃m,n=m+1:=⟨n-1,W⟩;rw[kQ,A];by_cases hk:0<X b
  ·obtain⟨T,S⟩:∃T,T=ca+(X a-X b+1)*(cb+1):=⟨_,O⟩;rw[<-S]at h1 hf;have hl:T+1<=(T+1)*cW (X b-1):=xcj _<|xag (rx:0<cW 0) (by have h:=lu (i:=0)<|X b-1;rwa[xaD]at h);obtain⟨q,r,c,Q,e1,u,e3,F,H,P,v⟩:=hd w (qu b) W W he D e (by rw[z,<-S];lia);rw[z,<-S]at v;have oR:xa 9985 r:=by rw[<-u];exact xh λj=>(v j).bz W
   rw[yg,Y e1];simp only;rw[Y<|hc oR rx W];have hg:=ZN r;rw[u]at hg;obtain⟨y1,y2⟩:=pb W;obtain⟨x,g1,g2,g3,g4,g5,g6,g7⟩:=P2 A hc hd (C:=T+1) (L:=X b) (n:=n) (qu b) y1 y2 (qu r) W W W h1 hf (bx:=cb) (by
    rw[z,xck];show cb+1<=(T+1)*1;have:=xac (cb+1) (W:1<=X a-X b+1);lia) e (b_:=T) (by rw[z,xck];show T+1<=(T+1)*1;lia) (λj=>by rw[ZH];exact(v j).le (xbr _ _)) (λh=>QJ (by rw[u];lia)) W
   refine⟨x,g1,g2,g3,g4,W,g6,s λd f pd=> ?_⟩;rw[g7 d f pd,DC (a:=r) f pd];exact zdD f pd F H P
  ·rw[zG];refine⟨a,O,w,l,o,Nm _,?_,λd f pd=> ?_⟩
   ·rw[<-w];exact xh λj=>(D j).bz W
   ·have:Zd d (M b):=⟨E 0,Fs.pc 0,uT λk=>by rw[ym W,yB,zS]⟩;exact⟨λh=>⟨h,this⟩,λh=>h.1⟩
theorem HF(f:yu a=a)(r:yu b=b)(hc:yD a=1)(y:X b<X a)(z:X a<=60)(s:∀j,Bb ca<|M a j)(t:∀j,Bb cb<|M b j)(A:GcZ ca cb (X a) (X b))(V:ca<=639000)(hk:cb<=639000)(i:3000000<=fu):
 ∃g,WK fu a b=Z g/\yu g=g/\Pm (M g)/\Po (M g)/\X g<=X a/\∀d,Fs d->Pm d->(Zd d (M g)↔Zd d (M a)/\Zd d (M b)):=by
 have u:xa 9985 a:=by rw[<-f];exact xh λj=>(s j).bz W
 have o:xa 9985 b:=by rw[<-r];exact xh λj=>(t j).bz W
 have hd:zH a=a:=Dz (qu a) f λk=>by rw[ZH,hc,Int.ediv_one]
 obtain⟨c,e⟩:=QJ (a:=a) (by rw[f];lia);rw[hd]at c e;obtain⟨x,C,v,D,E,F,G,H⟩:=zn6 (B:=rJ fu) (Ps:=Ys fu) (Pr:=wh fu) (n:=fu) (λ_ _ _=>O) (λh h1 w=>vR h) (λh1 w L N P Q S T=>BH h1 w L N P Q S T i) f c e r y z s t A W;have b1:=(Bz.one' (k:=1)<|Nm _);have U:=(Fy o);have hi:wO (X x) (λj=>M x j*1)=x:=by rw[show(λj=>M x j*1)=M x from uT λj=>xcO _];exact v
 refine⟨x,?_,v,D,E,F,H⟩;unfold WK;rw[Y<|kY u,Y<|kY o,hc,Y<|Vr (K:=9985) (yx _) (yx _) (xal b1.len rx) U.len rx i,zn,zn,show Int.natAbs 1=1 from O,Nat.gcd_one_left,show((1:wL):J)=1 from O,Y<|vR u,Y<|vR o,hd,Y C,Y<|jQ (l:=1) G ⟨yx _,b1.len⟩ rx W i,zn];show Z (wO (X x) λj=>M x j*1)=_;rw[hi]
theorem zcc(q:Pz):∀n,dvp (pp q<|n+1)=E ((n+1:K):J)*(pp q n*dvp q)
 |0=>by
  show dvp (E 1*q)=E 1*(E 1*dvp q);rw[zE,zE,zE]
 |n+1=>by
  show dvp (pp q (n+1)*q)=E _*(pp q n*q*dvp q);rw[ab,zcc q n,zd<|E _,zd<|pp q n,zo (dvp q) q];show _+pp q n*q*dvp q=_;rw[zd<|pp q n];funext k;rw[zX,zY,zY];grind
theorem zlC(hp:Tp p m)(z:Fs g)(A:Fs R)(e:p=R*g)(C:Zd g (dvp p))(c:Ir q)(h:Zd q p):Zd q R:=by
 refine xak λD=> ?_;obtain⟨n,_,hn⟩:=Mu.ex c m hp;obtain⟨S,F⟩:=Jf hp.nz e;obtain⟨d,hd⟩:=Tp.ex z F;obtain⟨i,_,hi⟩:=Mu.ex c d hd;have h1:=(Mu.zero A D).mul c hi;rw[<-e,xaD]at h1;obtain rfl:=h1.uniq c hn;have T:i≠0:=λh0=>by
  subst h0;obtain⟨u,fu,f,l⟩:=hn;rw[show pp q 0=E 1 from O,yp]at f;simp_all
 obtain⟨j,rfl⟩:∃j,i=j+1:=⟨i-1,W⟩;obtain⟨u,fu,f,l⟩:=hn;obtain⟨v,G,H,_⟩:=hi;have o:Zd (pp q<|j+1) (dvp p):=Zd.trans ⟨v,G,H⟩ C;rw[f,ab]at o;have r:Zd (pp q<|j+1) (u*dvp (pp q<|j+1)):=by
  have:u*dvp (pp q<|j+1)=(dvp u*pp q (j+1)+u*dvp (pp q<|j+1))-dvp u*pp q (j+1):=uT λk=>by simp only[zX,y8];lia
  rw[this];exact o.sub ⟨dvp u,fu.dvp,O⟩
 rw[zcc]at r;obtain⟨w,s,L⟩:=r;have M:w*q=u*(E ((j+1:K):J)*dvp q):=by
  refine FT (s.mul c.fs) (fu.mul<|(Fs.pc _).mul c.fs.dvp) (c.fs.pp j) (c.pm.pp j).nz ?_;have N:w*pp q (j+1)=w*q*pp q j:=by
   show w*(pp q j*q)=_;rw[zd,zo (pp q j) q]
  rw[<-N,<-L,zd u,zd<|E _,zo (dvp q)<|pp q j]
 rcases c.prime fu ((Fs.pc _).mul c.fs.dvp) ⟨w,s,M.symm⟩with h5|h5
 ·exact l h5
 ·obtain⟨t,ht⟩:=Tp.ex c.fs c.pm.nz;have U:t≠0:=λh0=>c.dg<|(rk.tp ht).2 h0;obtain⟨P,hc,Q⟩:=ML (n:=0) ht h5 λk V=>by
   rw[zY];show _*(((k+1:K):J)*q (k+1))=0;rw[ht.2 _ W,xaA,xaA]
  have x:=WP hc<|t-1;rw[vt P,xb λi _=>by rw[Q i W,xbc],zY]at x;have y:((j+1:K):J)*(((t-1+1:K):J)*q (t-1+1))=0:=x;rw[(W:t-1+1=t)]at y;obtain h8|h8:=xeQ.1 y
  ·lia
  ·obtain h9|h9:=xeQ.1 h8
   ·lia
   ·exact ht.1 h9
theorem zql(hp:Tp p m)(o:Fs g)(x:Fs R)(e:p=R*g)(r:∀d,Fs d->Pm d->Zd d p->Zd d (dvp p)->Zd d g)(c:Ir q):¬Zd (q*q) R:=λ⟨z,f,i⟩=>by
 obtain⟨n,_,u,fu,e1,j⟩:=Mu.ex c m hp
 cases n with
 |zero=>
  refine j ⟨z*q*g,(f.mul c.fs).mul o,?_⟩;have s:u=p:=by rw[e1];exact(yp u).symm
  rw[s,e,i];simp only[zo,zF]
 |succ k=>
  have t:=c.fs.pp k;have h:pp q (k+1)=q*pp q k:=zo _ _;obtain⟨w,l,v⟩:=r (pp q k) t (c.pm.pp k) ⟨u*q,fu.mul c.fs,by rw[e1,h,zd]⟩ (by
   rw[e1,ab,zcc];refine Zd.add ⟨dvp u*q,fu.dvp.mul c.fs,by rw[h,zd]⟩ ⟨u*(E ((k+1:K):J)*dvp q),fu.mul<|(Fs.pc _).mul c.fs.dvp,?_⟩;simp only[zo,zF])
  refine j ⟨z*w,f.mul l,?_⟩;refine FT fu ((f.mul l).mul c.fs) (c.fs.pp<|k+1) (c.pm.pp<|k+1).nz ?_;rw[<-e1,e,i,v,h];simp only[zo,zF]
end
noncomputable def zfU(fu:K)(a:N U)(fs:N (N J))(p:J):J:=
 if qt p=wT then(if 65<(yu a).length then 6 else if vE fu (yu a) fs p=Z wT then 0 else 1)else 1
theorem zgq{fu:K}{p k:J}{a:N U}{fs:N (N J)}{us:N (N U)}{e:J}(f:xa 250 a)(hi:X a<=1000)(h1:1<=k)(i:k<=1000)(j:3000200<=fu)(h:jB fu a fs p k=Z (us,e)):e=zfU fu a fs p:=by
 unfold jB at h;unfold zfU;rw[Y<|uM W]at h;simp only at h;rw[Y (zK f rx W W),show wO (X a) (M a)=yu a from O]at h;by_cases hp:qt p=wT
 ·have hc:Au p k=(yC<|p^k.toNat,0):=by
   unfold Au;simp_all
  rw[hc]at h;rw[Q hp];simp only[Z4]at h;by_cases g:65<X (yu a)
  ·grind
  ·rw[zG]at h;rw[S g]
   cases c:vE fu (yu a) fs p with
   |none=>rw[c]at h;cases h
   |some b=>
    rw[c]at h;change(if(!b)=wT then _ else _)=_ at h
    cases b with
    |false=>
     rw[Q rx]at h;rw[S rC];simp only[xav,xcL]at h;exact h.2.symm
    |true=>
     rw[S rx]at h;rw[Q O];split at h
     ·simp only[xav,xcL]at h;exact h.2.symm
     ·cases hd:xp fu (yu a) (yC<|p^k.toNat)with
      |none=>rw[hd]at h;cases h
      |some t=>
       rw[hd]at h;change G (qi fu t fs p k<|yC<|p^k.toNat) _=_ at h
       cases d:qi fu t fs p k (yC<|p^k.toNat)with
       |none=>rw[d]at h;cases h
       |some t3=>
        rw[d]at h;change Z (t3,(0:J))=_ at h;simp only[xav,xcL]at h;exact h.2.symm
 ·have hc:Au p k=((I,[]),1):=by
   unfold Au;rw[S<|λh=>hp h.1]
  rw[hc]at h;rw[S hp];simp only[Int.reduceEq,Z5,xav,xcL]at h;exact h.2.symm
section
variable{fu:wL}{p:wF}{a:ww Zr}
def znb(p:J)(n:K)(fs:N (N J)):Prop:=(∀t,t<X fs->X (fs.getD t [])<=n/\PlL p (fs.getD t []))/\∀t j,t<X fs->j<t->km p (C<|fs.getD t []) (C<|fs.getD j [])
theorem Nj{i:K}{f:N J}{fs:N (N J)}(hp:qt p=wT)(hd:Fp p f)(g:X f<=290)(hi:i<=X fs)(y:i<=1000000)(k:∀j,j<i->Fp p (fs.getD j [])/\X (fs.getD j [])<=290)(l:3000000<=fu):
 ∃r,zg (jS fu p f<|fs.take i) fu 0=Z r/\((r=.inl ()/\∀j,j<i->km p (C f) (C<|fs.getD j []))\/(r=.inr ()/\¬∀j,j<i->km p (C f) (C<|fs.getD j []))):=by
 obtain⟨m,z⟩:=zA hp;have hl:X (fs.take i)=i:=by rw[xas];lia
 have n:∀j,j<i->(fs.take i).getD j []=fs.getD j []:=λj b=>by rw[UV,xbK,Q b,<-UV]
 refine zM (λx:J=>∃j:K,x=(j:J)/\j<=i/\∀t,t<j->km p (C f) (C<|fs.getD t [])) (λx=>i-x.toNat) _ ?_ _ _ ⟨0,O,xaf _,λt h=>jp h<|xbb _⟩ (by show i-0<fu;lia);rintro x L ⟨j,rfl,b,c⟩ o;unfold jS;by_cases h1:j<i
 ·obtain⟨k1,k2⟩:=k j h1;obtain⟨d,s,t,q,u,v⟩:=K8 (fu:=fu) hp hd k1 g k2 l;have hc:=zda m u v;rw[yg,yn,F,n j h1,Y q];simp only;by_cases e:X d=1
  ·rw[yg,zb];refine o _ ⟨j+1,O,W,λt ht=> ?_⟩ W;by_cases w:t=j
   ·rw[w];exact hc.1 e
   ·exact c t W
  ·rw[zG];exact⟨_,O,.inr ⟨O,λh=>e<|hc.2<|h j h1⟩⟩
 ·rw[zG];exact⟨_,O,.inl ⟨O,λt ht=>c t W⟩⟩
theorem zba{fs:N (N J)}(hp:qt p=wT)(e:X a<=66)(h0:X a≠0)(hl:X (jk p a)=X a)(g1:∀t,t<X fs->X (fs.getD t [])<=X a/\PlL p (fs.getD t [])):
 (∀f∈fs,Fp p f)/\(∀f∈fs,X f<=66)/\(jk p a).drop (X a-1)=[C (jk p a)<|X a-1]/\Fp p [C (jk p a)<|X a-1]:=by
 obtain⟨g,i⟩:=zA hp;have c:∀{q:N J->Prop},(∀t,t<X fs->q (fs.getD t []))->∀f∈fs,q f:=λ{q} h f d=>by
  obtain⟨j,k,rfl⟩:=xcr.1 d;simp_all
 have b:=JZ (p:=p) W a;have hd:C (jk p a) (X a-1)≠0:=by
  obtain h|h:=b.nl
  ·lia
  ·simp_all
 have l:=b.nn<|X a-1;have hc:=b.lt<|X a-1;refine⟨c λt ht=>(g1 t ht).2.fp W,c λt ht=>by have:=(g1 t ht).1;lia,?_,Q3 W hc⟩;rw[xbX W,xbQ W];unfold C;rw[UV,xaa W];rfl
theorem pz{k:K}{fs:N (N J)}(hp:qt p=wT)(s:xa k a)(u:k<=40000)(v:X a<=66)(g:3000000<=fu):
 ∃b,vE fu a fs p=Z b/\(b=wT↔gW p a fs):=by
 obtain⟨D,w⟩:=zA hp;unfold vE;rw[Y<|Zp s u W w];simp only;by_cases h0:X a=0
 ·rw[yg];exact⟨_,O,λe=>jp e rx,λe=>jp h0 e.a0⟩
 ·rw[zG];by_cases hl:X (jk p a)=X a
  ·rw[yg];by_cases E:X a<X fs
   ·rw[yg];exact⟨_,O,λe=>jp e rx,λe=>by have:=e.fl;lia⟩
   ·rw[zG]
    obtain⟨r,e1,m⟩:=zM (f:=ke fu a fs p) (λx:J×N J=>∃i:K,x=((i:J),jk p a)/\i<=X fs/\(∀t,t<i->X (fs.getD t [])<=X a/\PlL p (fs.getD t []))/\∀t j,t<i->j<t->km p (C<|fs.getD t []) (C<|fs.getD j [])) (λx=>X fs-x.1.toNat)
     (λr=>(r=.inr ()/\¬znb p (X a) fs)\/(r=.inl (jk p a)/\znb p (X a) fs)) (by
      rintro x L ⟨i,rfl,hi,g1,d⟩ y;unfold ke;simp only;by_cases h1:i<X fs
      ·rw[yg,Y O];simp only[Z4];rw[zm h1,F];by_cases G:X a<X (fs.getD i [])
       ·rw[yg];exact⟨_,O,.inl ⟨O,λh=>by have:=(h.1 i h1).1;lia⟩⟩
       ·obtain⟨b,b1,b2⟩:=UK (fu:=fu) (l:=fs.getD i []) (p:=p) W g;rw[zG,Y b1]
        cases b with
        |false=>
         rw[Q rx];exact⟨_,O,.inl ⟨O,λh=>jp (b2.2 (h.1 i h1).2) rx⟩⟩
        |true=>
         have hc:=b2.1 O;rw[S rx,yF,y9,F];obtain⟨q,q1,q2⟩:=Nj (fu:=fu) (i:=i) (fs:=fs) hp (hc.fp W) W W W (λj c=>⟨(g1 j c).2.fp W,by have:=(g1 j c).1;lia⟩) g;rw[Y q1];rcases q2 with⟨rfl,q2⟩|⟨rfl,q2⟩
         ·simp only;rw[zb];refine y _ ⟨i+1,O,W,λt ht=> ?_,λt j ht c=> ?_⟩ (by show X fs-((i:J)+1).toNat<X fs-(i:J).toNat;lia)
          ·by_cases n:t=i
           ·rw[n];exact⟨W,hc⟩
           ·exact g1 t W
          ·by_cases n:t=i
           ·rw[n]at c⊢;exact q2 j c
           ·exact d t j W c
         ·exact⟨_,O,.inl ⟨O,λh=>q2 λj c=>h.2 i j h1 c⟩⟩
      ·rw[zG,Y O];simp only[xaj,Z5];exact⟨_,O,.inr ⟨O,λt ht=>g1 t W,λt j ht c=>d t j W c⟩⟩) fu (0,jk p a) ⟨0,O,xaf _,λt h=>jp h (xbb _),λt j h=>jp h (xbb _)⟩ (by show X fs-0<fu;lia)
    rw[Y e1];rcases m with⟨rfl,m⟩|⟨rfl,g1,d⟩
    ·exact⟨_,O,λe=>jp e rx,λe=>jp ⟨e.pl,e.cp⟩ m⟩
    ·simp only;obtain⟨hn,o,hd,z⟩:=zba hp v h0 hl g1;have H:X fs*66<=66*66:=xac _ W;have hc:=lQ (p:=p) o;have A:=JZ (p:=p) W a;have B:=jK p (Jk p fs) [C (jk p a)<|X a-1];simp only[xaw,xbV]at B;rw[Y (jH hp hn o W rx),hl,(W:(X a:J)-1=((X a-1:K):J)),zb,yF,y9,F,hd,Y<|ZE hp (gf W fs) z W rC];simp only;rw[Y<|UD hp (jj W _ _) A W W g];exact⟨_,O,λe=>⟨h0,hl,W,g1,d,WL e⟩,λe=>Ws e.pr⟩
  ·rw[zG];exact⟨_,O,λe=>jp e rx,λe=>jp e.al hl⟩
end
section
variable{a R:ww Zr}{B B1 fu K:wL}{q p:wF}{ds:ww wF}
theorem Dw(h:HR a=0):1<=X (yu a)/\X (yu a)<=65:=by grind [HR]
theorem zd5:qt 2=wT:=zhV ⟨rx,rx,λd h1 b=>by
 have:=xcf h1 h1;lia⟩
theorem ze5(hc:yu a=a)(hp:Pm (M a))(b:Po (M a)):yD a=1:=by
 obtain⟨n,hn,hd⟩:=b.tp;have c:=λe=>hn.1<|VI e n;have h1:=(Vb c).uniq hn;have f:=hp _<|r9 λk d=>ym d;have a3:yD a=if M (yu a) (X (yu a)-1)<0 then-((Wz (M a) (X (yu a)):wL):J)else((Wz (M a) (X (yu a)):wL):J):=O;grind
theorem Po.left{u v:Pz}(fu:Fs u)(h:Po (u*v))(hv:Po v):Po u:=by
 obtain⟨m,d,hp⟩:=h.tp;obtain⟨b,e,f⟩:=hv.tp;obtain⟨g,_⟩:=Jf d.nz O;obtain⟨a,c⟩:=Tp.ex fu g;obtain rfl:=(c.mul e).uniq d;rw[aU c.2 e.2]at hp;exact⟨a,Int.pos_of_mul_pos_left hp f,c.2⟩
structure Rad(a R:N U):Prop where
 can:yu R=R
 pm:Pm (M R)
 ps:Po (M R)
 dv:∃g:Pz,Fs g/\M (zH a)=M R*g
 al:∀q,Ir q->Zd q (M a)->Zd q (M R)
 ln:R.length<=(yu a).length
 sf:∀q,Ir q->¬Zd (q*q) (M R)
structure zoS(a g R:N U):Prop where
 rad:Rad a R
 gc:yu g=g
 gp:Pm (M g)
 go:Po (M g)
 gd:∀d,Fs d->Pm d->(Zd d (M g)↔Zd d (M<|zH a)/\Zd d (dvp<|M<|zH a))
 eq:(M (zH a):Pz)=M R*M g
theorem zkQ{Gc:N U->N U->V (N U)}{Dv:N U->N U->V (N U×J)}(hl:X a<=40)(h0:HR a=0)(G:∀j,Bb B<|M a j)(m:∀j,Bb B1<|M a<|j+1)(hB:B<=6000)(H:∀{x y:N U},yu x=x->yu y=y->yD x=1->X y+1=X x->X x=X (yu a)->(∀j,Bb B<|M x j)->(∀j,Bb (B1+6)<|M y j)->∃g,Gc x y=Z g/\yu g=g/\Pm (M g)/\Po (M g)/\X g<=X x/\∀d,Fs d->Pm d->(Zd d (M g)↔Zd d (M x)/\Zd d (M y)))(L:∀{x y:N U},xa 94 x->xa 97 y->X x<=40->X y<=40->X (yu y)≠0->∃q e,Dv x y=Z (q,e)/\(e=0↔Zd (M y) (M x))/\(e=0->(M x:Pz)=M q*M y/\yu q=q/\X q<=X x)):
 ∃g R,Gc (zH a) (wO (X (zH a)-1)<|dvp<|M<|zH a)=Z g/\Dv (zH a) g=Z (R,0)/\zoS a g R/\∀j,Bb (B+X (yu a)+4) (M R j):=by
 have hv:=Dw h0;have hy:=ZP a;obtain⟨p,hp⟩:∃p,p=zH a:=⟨_,O⟩;have f:yu p=p:=by rw[hp];exact qu a
 have hi:X p=X (yu a):=by rw[hp];exact ZN a
 obtain⟨n,o⟩:=QJ (a:=a) W;have v:=λq h1 z=>(DC (a:=a) (d:=q) h1 z).2;rw[<-hp]at n o v⊢;have P:X (yu p)≠0:=by rw[f];lia
 have tp:=Vb P;rw[f]at tp;have A:∀{b:wL}{j},Bb b (M a j)->Bb b (M p j):=λh=>by
  rw[hp,ZH];exact h.le<|xbr _ _
 have l:∀j,Bb B (M p j):=λj=>A<|G j;have oP:xa 94 p:=by rw[<-f];exact xh λj=>(l j).bz W
 have hn:=ze5 f n o;obtain⟨d,hd⟩:∃d,d=wO (X p-1) (dvp<|M p):=⟨_,O⟩;have hc:(M d:Pz)=dvp (M p):=uT λk=>by
  rw[hd];exact j7 (λk hk=>by unfold dvp;rw[ym W,xaA]) k
 have Q:yu d=d:=by rw[hd];exact(JK _ _).symm
 have S:X d+1=X p:=by
  rw[hd,xE];by_cases h1:X p=1
  ·rw[h1];rfl
  ·have:dg (dvp<|M p) (X p-1)=X p-1:=aq (Nm _) (λk h1 z=>by lia) (.inr (by
    show((X p-1-1+1:wL):J)*M p (X p-1-1+1)≠0;rw[(W:X p-1-1+1=X p-1)];exact xdH W tp.1))
   lia
 have T:∀j,Bb (B1+6) (M d j):=λj=>by
  rw[hc];show Bb _ (((j+1:wL):J)*M p (j+1));by_cases r:j+1<64
  ·rw[xbI];exact(A<|m j).mul (show((j+1:wL):J).natAbs<2^6 by rw[xaL];exact r)
  ·rw[ym W,xaA];exact Bb.zero _
 obtain⟨g,g1,C,s,D,g5,t⟩:=H f Q hn S hi l T;obtain⟨Y,z2⟩:=(t _ (Fs.cf g) s).1<|Zd.refl _;have ht:X (yu g)≠0:=λe=>by
  obtain⟨j,r⟩:=s.nz;exact r<|VI e j
 obtain⟨w,E,F⟩:=Y;have bG:∀j,Bb (B+X (yu a)+4) (M g j):=λj=>(NT tp (Fs.cf g) E (by rw[F,zo]) W l j).mono W;have oG:xa 97 g:=by rw[<-C];exact xh λj=>(bG j).bz W
 obtain⟨R,e,r1,r2,r3⟩:=L oP oG W W ht;have he:e=0:=r2.2 ⟨w,E,F⟩;subst he;obtain⟨c,r5,r6⟩:=r3 O;have hu:Pm (M R):=(c▸n:Pm (M R*M g:Pz)).left;refine⟨g,R,by rw[<-hd];exact g1,r1,⟨⟨r5,hu,Po.left (Fs.cf R) (c▸o:Po (M R*M g:Pz)) D,⟨M g,Fs.cf g,by rw[<-hp];exact c⟩,λq i hz=> ?_,W,λq i=>zql tp (Fs.cf g) (Fs.cf R) c (λd u pd y1 y2=>(t d u pd).2 ⟨y1,by rw[hc];exact y2⟩) i⟩,C,s,D,λd u pd=>by rw[<-hp,t d u pd,hc],by rw[<-hp];exact c⟩,λj=>(NT tp (Fs.cf R) (Fs.cf g) c W l j).mono W⟩;exact zlC tp (Fs.cf g) (Fs.cf R) c (by rw[<-hc];exact z2) i<|v q i.fs i.pm hz
theorem ziV(o:xa K a)(r:K<=100)(hl:X a<=40)(h0:HR a=0)(h:∀j,Bb B<|M a j)(b:∀j,Bb B1<|M a<|j+1)(i:B<=6000)(hc:B1<=6000)(k:GcZ B (B1+6) (X (yu a)) (X (yu a)-1))(e:3000000<=fu):
 ∃g R,WK fu (zH a) (wO (X (zH a)-1)<|dvp<|M<|zH a)=Z g/\wB fu (zH a) g=Z (R,0)/\zoS a g R/\∀j,Bb (B+X (yu a)+4) (M R j):=by
 have hd:=ZP a
 exact zkQ (Gc:=WK fu) (Dv:=wB fu) hl h0 h b i (λ{x y} g1 c f l d m n=>HF g1 c f W W m n (by rw[(W:X y=X (yu a)-1),d];exact k) W W e)
  (λ{x y} g1 c f l d=>KO g1 c (by have:=xac (97+1) (W:X x+1<=41);lia) W W d e)
theorem pW(b:xa K a)(e:K<=100)(hl:X a<=40)(h0:HR a=0)(f:∀j,Bb B<|M a j)(c:∀j,Bb B1<|M a<|j+1)(h:B<=6000)(hc:B1<=6000)(i:GcZ B (B1+6) (X (yu a)) (X (yu a)-1))(d:3000000<=fu):
 ∃g R,qD fu a=Z (R,0)/\zoS a g R/\∀j,Bb (B+X (yu a)+4) (M R j):=by
 have hd:=ZP a;have n:=ZN a;obtain⟨g,R,h1,k,l,m⟩:=ziV b e hl h0 f c h hc i d;refine⟨g,R,?_,l,m⟩;unfold qD;rw[Y<|eY b W W d,Q h0,Y<|vR b,Y<|Bx (Aw b) W W d,Y h1];unfold AF;rw[Y (v:=R)<|by rw[Y k]]
theorem s9(d:xa K a)(e:K<=100)(hl:X a<=40)(h0:HR a=0)(b:∀j,Bb B<|M a j)(c:B<=6000)(f:(B+7)*cW (X (yu a)-1)<=639000)(hc:(B+7)*cW (X (yu a))<=2400000)(h:3000000<=fu):
 ∃R,qD fu a=Z (R,0)/\Rad a R/\∀j,Bb (B+X (yu a)+4) (M R j):=by
 obtain⟨g,R,h1,i,k⟩:=pW (fu:=fu) d e hl h0 b (λj=>b<|j+1) c c (.inl ⟨B+7,W,W,f,hc⟩) h;exact⟨R,h1,i.rad,k⟩
theorem zbA:qt 65521=wT:=zhV ⟨rx,rx,λd h1 e=>by
 have c:d<256:=by
  refine xak λhn=> ?_;have:=xcf (W:256<=d) (W:256<=d);lia
 have b:∀d:wL,d<256->2<=d->65521%d≠0:=by decide+kernel
 exact b d c h1⟩
theorem AJ(h:65521<=q):wQ fu q=Z (0,5):=by
 unfold wQ;simp_all
theorem eR(h1:1<=q)(h:q<65521)(j:3000000<=fu):∃r,wQ fu q=Z (r,0)/\qt r=wT/\q<r/\∀s,q<s->s<r->qt s=I:=by
 unfold wQ;obtain⟨r,c,r1,r2,k⟩:=zM (f:=KB fu) (λi:J=>q<i/\i<=65521/\∀s,q<s->s<i->qt s=I) (λi=>(65521-i).toNat) (λr=>qt r=wT/\q<r/\∀s,q<s->s<r->qt s=I) (by
  rintro i L ⟨i1,i2,b⟩ d;unfold KB;rw[Y<|Vm W]
  cases hp:qt i with
  |true=>rw[S rx];exact⟨_,O,hp,i1,b⟩
  |false=>
   have l:i≠65521:=λe=>by rw[e,zbA]at hp;cases hp
   rw[Q rx,zb];refine d _ ⟨W,W,λs h1 g=> ?_⟩ W;by_cases e:s=i
   ·simp_all
   ·exact b s h1 W) fu (q+1) ⟨W,W,λs h1 g=>by lia⟩ W
 rw[zG,F,(W:max q 1=q),zb,Y c];simp_all
def Wv(R:N U)(p:J):Prop:=qt p=wT/\M R (X R-1)%p≠0/\km p (M R) (dvp<|M R)
theorem Lv{x:J}{f g:Pz}(h:Cg p g (E x*f))(hc:km p g (dvp g)):km p f (dvp f):=by
 have h1:Cg p (dvp g) (E x*dvp f):=(zio h).trans (Cg.of (by
  rw[ab,zo4];funext k;rw[zX,yB,zS,xcI]))
 obtain⟨s,t,fs,b,e⟩:=hc.congr h h1;refine⟨s*E x,t*E x,fs.mul<|Fs.pc x,b.mul<|Fs.pc x,?_⟩;rw[zd,zd];exact e
theorem Ab(hp:0<p:=by lia)(b:0<X R:=by lia):X (jk p R)=X R↔M R (X R-1)%p≠0:=by
 have hn:=(JZ hp R).nl;constructor
 ·intro h;obtain h1|h1:=hn
  ·lia
  ·rw[h,UC]at h1;exact h1
 ·intro h;have:=zms p R;by_cases e:X (jk p R)=X R
  ·exact e
  ·exfalso;rw[<-UC,yz W]at h;lia
theorem znP(hp:qt p=wT)(s:0<X R)(hl:X R<=65)(t:X (jk p R)=X R)(e:3000000<=fu:=by lia):
 ∃m b,zgt p (jk p R) m/\vu p m/\Y8 fu (jk p R) p=Z (b,0)/\(b=wT↔km p (C m) (dvp<|C m))/\uC fu (jk p R) p=if b=wT then Z (m,0)else Z ([],1):=by
 obtain⟨g,v⟩:=zA hp;have f:=JZ (p:=p) W R;obtain⟨m,b,h1,c,h,i,j⟩:=Bm (fu:=fu) hp f W W e;refine⟨m,b,h1,c,?_,i,j⟩;have hd:=h1.ln;obtain⟨x,x0,w,l,e1⟩:=WX (fu:=fu) hp f W W e;obtain⟨z,c1,c2,A⟩:=Ag (fu:=fu) hp c W e;have d:=Tk g f W l;have n:xH p (jk p R) [x]=m:=by
  obtain⟨_,y,_,o⟩:=d.cg;obtain⟨u,_,r,_⟩:=h1.cg;have hc:Cg p (C m) (E (u*y)*C (xH p (jk p R) [x])):=by
   rw[<-ky,zd];exact r.trans<|Cg.rfl.mul o
  have t1:=hc<|X m-1;have t2:=d.top;have t3:=d.ln;rw[c.top,zY,(W:X m-1=X (xH p (jk p R) [x])-1),t2,xcO]at t1;refine(c.fm.ext d.fm<|hc.trans ?_).symm;refine(Cg.mul (f':=E 1) (λk=> ?_) Cg.rfl).trans<|Cg.of<|zE _;unfold E;split
  ·exact t1.symm
  ·rfl
 rw[n]at e1;rw[<-h];unfold Y8 JT;rw[Y e1,Y c1]
theorem Tl{m:N J}(h:zgt p (jk p R) m):km p (C m) (dvp<|C m)↔km p (M R) (dvp<|M R):=by
 obtain⟨x,y,b,c⟩:=h.cg;exact⟨λhc=>Lv (b.trans<|Cg.rfl.mul<|mz p R) hc,λhc=>Lv ((mz p R).symm.trans c) hc⟩
theorem C7(f:yu R=R)(c:xa K R)(h:K<=300)(h0:HR R=0)(g:3000000<=fu):∃b,JS fu R p=Z (b,0)/\(b=wT↔Wv R p):=by
 have i:=Dw h0;rw[f]at i;unfold JS;obtain⟨y,j,_⟩:=eF (fu:=fu) c h W g;rw[Y j,h0];simp only[Z4];rw[Y<|Vm W]
 cases hp:qt p with
 |false=>
  rw[Q rx];exact⟨_,O,λe=>jp e rx,λe=>by rw[e.1]at hp;cases hp⟩
 |true=>
  obtain⟨o,k⟩:=zA hp;rw[S rx,Y<|Zp c W W k];simp only;rw[Y<|zK c W W g,show wO (X R) (M R)=R from f];by_cases d:X (jk p R)=X R
  ·obtain⟨m,b,h1,r,l,n,_⟩:=znP (fu:=fu) hp W W d;rw[yg,Y l];refine⟨b,O,?_⟩;rw[n,Tl h1];exact⟨λhc=>⟨hp,(Ab).1 d,hc⟩,λhc=>hc.2.2⟩
  ·rw[zG];exact⟨_,O,λe=>jp e rx,λe=>jp ((Ab).2 e.2.1) d⟩
structure zhA(R:N U)(p:J)(l:N (N J)):Prop where
 el:∀g∈l,Jj p g/\PlL p g/\g.length<=66
 pw:l.Pairwise λa b=>km p (C a)<|C b
 cg:Cg p (M R) (E (M R<|R.length-1)*prZ (l.map C))
 ln:l.length<=R.length-1
theorem zap{p:J}:∀{l:N (N J)},(∀g∈l,vu p g/\1<X g)->∃d,Mn (prZ<|l.map C) d/\X l<=d
 |[],_=>⟨0,⟨O,λk c=>by show E 1 k=0;unfold E;rw[zG]⟩,Nm _⟩
 |g::l,h=>by
  obtain⟨h1,e⟩:=h g<|IR;obtain⟨d,hd,hl⟩:=zap λx b=>h x<|FS _ b;exact⟨_,znu h1.mn hd,by rw[xaw];lia⟩
theorem zfe(c:Wv R p)(M:1<X R)(hl:X R<=13)(hd:Rl ds)(w:X ds<=1000)(z:3000001<=fu):∃l,X4 fu (jk p R) p ds=Z (l,0)/\zhA R p l:=by
 obtain⟨hp,ht,hc⟩:=c;obtain⟨r,N⟩:=zA hp;obtain⟨P,rfl⟩:=xaE (W:0<=p);have A:=(Ab (p:=(P:J))).2 ht;obtain⟨m,b,h1,f,S,D,s⟩:=znP (fu:=fu) hp W W A;have i:=(Tl h1).2 hc;rw[Q<|D.2 i]at s;obtain⟨l,us,e1,T,e,h⟩:=CK (fu:=fu) (b:=b) hp (JZ W R) W W hd w z h1 f s i;have U:=h1.ln;have hi:∀g∈l,X g<=66:=λg c=>by
  obtain⟨q,fq,F⟩:=e.dv c;have:=ni r f (e.mn g c).1 fq F;lia
 refine⟨l,e1,λg c=>⟨h g c,⟨λj _=>⟨(e.mn g c).1.fm.nn j,(e.mn g c).1.fm.lt j⟩,(e.mn g c).2,(e.mn g c).1.top⟩,hi g c⟩,?_,?_,?_⟩
 ·refine xdq.2 λ{a b} n=> ?_;have o:a∈l:=n.subset rC;have u:b∈l:=n.subset rC;refine(h a o).cop hp (h b u) (by have:=hi a o;lia) (by have:=hi b u;lia) λhn=> ?_;subst hn;have:=rI (p:=(P:J)) (n.map C) dP;refine km.sq r (h a o) i<|Di.cg ?_ e.pr.symm;refine Di.trans ⟨E 1,Fs.pc 1,Cg.of ?_⟩ this;show C a*(C a*E 1)=_;rw[yp,zE]
 ·obtain⟨x,y,V,G⟩:=h1.cg;have v:=(mz (P:J) R).symm.trans G;have t:=v<|X R-1;rw[zY,(W:X R-1=X m-1),f.top,xcO,(W:X m-1=X R-1)]at t;refine v.trans<|Cg.mul (λk=> ?_) e.pr;unfold E;split
  ·exact t.symm
  ·rfl
 ·obtain⟨d,hd,Y⟩:=zap e.mn;have H:=f.mn;have L:(1:J)%(P:J)=1:=xaJ rx W;have t1:=e.pr d;rw[hd.1,L]at t1;by_cases hv:d<=X m-1
  ·lia
  ·rw[H.2 d W,xaq]at t1;cases t1
theorem Cr(F:yu R=R)(A:xa K R)(G:K<=300)(h0:HR R=0)(H:1<X R)(hl:X R<=13)(hd:Rl ds)(hp:X ds<=1000)(M:3000001<=fu):
 ∃p l,JR fu R ds=Z (p,l)/\((p=0/\∀q,¬Wv R q)\/(Wv R p/\zhA R p l)):=by
 have hi:∀{q r:J},(∀s,s<=q->¬Wv R s)->(∀s,q<s->s<r->qt s=I)->∀s,s<r->¬Wv R s:=λ{q r} h1 x s u d=>by
  by_cases h:s<=q
  ·simp_all
  ·have:=x s W u;rw[d.1]at this;grind
 have P:∀{q:J},65521<=q->(∀s,s<=q->¬Wv R s)->∀s,¬Wv R s:=λ{q} v h s d=>by
  have:=(zA d.1).2;exact h s W d
 obtain⟨s,u,p,l,rfl,T⟩:=zM (f:=Ks fu R ds) (λs:J×J×N (N J)×J×J=>(s.2.2.2.2=0->qt s.2.2.2.1=wT)/\0<=s.2.1/\((s.1=0/\s.2.1=0/\(s.2.2.2.2=0->∀q,q<s.2.2.2.1->¬Wv R q)/\(s.2.2.2.2≠0->∀q,¬Wv R q))\/(Wv R s.1/\zhA R s.1 s.2.2.1))) (λs=>if s.2.2.2.2=0 then(65522-s.2.2.2.1).toNat else 0)
  (λr=>∃p l,r=(p,l)/\((p=0/\∀q,¬Wv R q)\/(Wv R p/\zhA R p l))) (by
  rintro⟨b,n,out,q,e⟩ L ⟨i1,i2,k⟩ m
  simp only at i1 i2 k m
  unfold Ks
  simp only
  by_cases g:e=0
  ·have v:=i1 g
   obtain⟨q1,q2⟩:=zA v
   rw[Q g]
   by_cases hn:n<5
   ·obtain⟨c,c1,c2⟩:=C7 (fu:=fu) (p:=q) F A G h0 W
    rw[Q hn,Y c1]
    have hc:∃r o,wQ fu q=Z (r,o)/\(o=0->qt r=wT/\q<r/\∀s,q<s->s<r->qt s=I)/\(o≠0->65521<=q):=by
     by_cases h:65521<=q
     ·exact⟨0,5,AJ h,λh=>jp h rx,λ_=>h⟩
     ·obtain⟨r,h1,x⟩:=eR (fu:=fu) (q:=q) W W W;exact⟨r,0,h1,λ_=>x,λh=>jp O h⟩
    obtain⟨r,o,n1,n2,U⟩:=hc
    have w:(if o=0 then(65522-r).toNat else 0)<(if e=0 then(65522-q).toNat else 0):=by
     rw[Q g];split
     ·have:=n2 (by assumption);lia
     ·lia
    cases c with
    |false=>
     have V:¬Wv R q:=λd=>by have:=c2.2 d;cases this
     rw[Q rx,Y n1]
     refine m _ ⟨λh=>(n2 h).1,i2,?_⟩ w
     rcases k with⟨i,y,C,D⟩|j
     ·have E:∀s,s<=q->¬Wv R s:=λs u d=>by
       by_cases h:s=q
       ·rw[h]at d;exact V d
       ·exact C g s W d
      exact .inl ⟨i,y,λh=>hi E (n2 h).2.2,λh=>P (U h) E⟩
     ·exact .inr j
    |true=>
     have d:=c2.1 O
     obtain⟨t,t1,t2⟩:=zfe (fu:=fu) d H hl hd hp M
     rw[S rx,zb,Y<|Zp A W W q2]
     simp only
     rw[Y t1]
     simp only
     by_cases z:b=0
     ·rw[Q z,Y n1]
      exact m _ ⟨λh=>(n2 h).1,by show 0<=n+1;lia,.inr ⟨d,t2⟩⟩ w
     ·have j:Wv R b/\zhA R b out:=by
       rcases k with⟨i,_⟩|j
       ·exact jp i z
       ·exact j
      rw[S z]
      split
      ·rw[Y n1]
       exact m _ ⟨λh=>(n2 h).1,by show 0<=n+1;lia,.inr ⟨d,t2⟩⟩ w
      ·rw[Y n1]
       exact m _ ⟨λh=>(n2 h).1,by show 0<=n+1;lia,.inr j⟩ w
   ·rw[S hn]
    refine⟨_,O,b,out,O,?_⟩
    rcases k with⟨i,y,_⟩|j
    ·lia
    ·exact .inr j
  ·rw[S g]
   refine⟨_,O,b,out,O,?_⟩
   rcases k with⟨i,y,C,D⟩|j
   ·exact .inl ⟨i,D g⟩
   ·exact .inr j) fu (0,0,[],2,0) ⟨λ_=>zd5,xfV 0,.inl ⟨O,O,λ_ q v d=>by have:=(zA d.1).1;simp only at v;lia,λh=>jp O h⟩⟩ (by
   show(if(0:J)=0 then((65522:J)-2).toNat else 0)<fu
   rw[Q O]
   lia)
 refine⟨p,l,?_,T⟩;unfold JR;obtain⟨r,r1,r2,r3,r4⟩:=eR (fu:=fu) (q:=1) rx rx W;have:r=2:=by
  by_cases h:r=2
  ·exact h
  ·have h5:=(zA r2).1;have:=r4 2 rx W;rw[zd5]at this;cases this
 subst this;rw[Y r1];simp only;rw[Y u]
end
section
variable{fu K Y:wL}{a b R:ww Zr}
theorem zdF(f g:wL->J):∀n,Ld f g n= -1\/Ld f g n=0\/Ld f g n=1
 |0=> .inr (.inl O)
 |n+1=>by
  unfold Ld;split
  ·exact zdF f g n
  ·lia
theorem zar(a b:N U):JF a b= -1\/JF a b=0\/JF a b=1:=by grind [JF,zdF]
theorem C1(f:xa K a)(g:xa K b)(k:yu a=a)(l:yu b=b)(p:K<=40000)(hd:X a<=1000)(q:X b<=1000)(d:3000000<=fu):XB fu a b=Z (decide<|JF a b<0):=by
 unfold XB;rw[za<|zK f W W d,za<|zK g W W d,show wO (X a) (M a)=a from k,show wO (X b) (M b)=b from l];have hc:JF a b=if X a=X b then Ld (M a) (M b) (X a) else if X a<X b then-1 else 1:=O;by_cases hl:X a=X b
 ·rw[Q hl]at hc;rw[yg,zb,za (v:=if JF a b=0 then Sum.inl ()else Sum.inr (decide<|JF a b<0))]
  ·obtain h|h|h:=zar a b<;>rw[h]<;>rfl
  ·rw[hc];refine zB (λs:J=>∃n:wL,s=(n:J)-1/\n<=X a/\Ld (M a) (M b) n=Ld (M a) (M b) (X a)) (λs=>(s+1).toNat) _ ?_ _ _ ⟨X a,O,Nm _,O⟩ (by show((X a:J)-1+1).toNat<fu;lia);rintro s L ⟨n,rfl,hn,c⟩ m;unfold gx
   cases n with
   |zero=>
    rw[zG,<-c];rfl
   |succ n=>
    have o:=f.get n;have ob:=g.get n;rw[(W:((n+1:wL):J)-1=(n:J)),yg,yn,F,yn,F,za<|Yk (fW.of o W) (fW.of ob W) d,Qw,Qw];rw[show Ld (M a) (M b) (n+1)=if M a n=M b n then Ld (M a) (M b) n else if M a n<M b n then-1 else 1 from O]at c;by_cases e:M a n=M b n
    ·rw[Q e]at c;rw[Q<|xm.2 e,zb];exact m _ ⟨n,O,W,c⟩ W
    ·rw[S e]at c;rw[S λh=>e<|xm.1 h];unfold jE;by_cases i:M a n<M b n
     ·rw[Q i]at c⊢;rw[<-c,Q rx];rfl
     ·rw[S i]at c⊢;rw[Q (W:M b n<M a n),<-c,S rx];rfl
 ·rw[S hl]at hc;rw[zG,hc];by_cases j:X a<X b
  ·rw[Q j,yg];rfl
  ·rw[S j,zG];rfl
theorem rE(c:xa K a)(d:xa K b)(e:yu a=a)(f:yu b=b)(g:K<=40000)(hc:X a<=1000)(hd:X b<=1000)(h:3000000<=fu):jU fu a b=Z (JF a b):=by grind [jU,za,C1,WG,zar]
theorem zmF:Od3 JF Gd:=⟨λx y z _ _ _ h1 d e=>by
 have f:=zcf (a:=x) (b:=y) (c:=z) (by have:=WG x y;lia) (by have:=WG y z;lia);have:=WG x z;lia,λx y _ _ h1 d=>by
 have:=WG x y;lia⟩
def BdY(R:N U)(Y:wL):Prop:=∃r:wL,Y=(r+1)*2^(X R-1)/\(r:J)*r<AB (M R) (X R)/\AB (M R) (X R)<=((r:J)+1)*(r+1)
theorem zf5(c:yu R=R)(e:xa K R)(f:K<=300)(h0:HR R=0)(g:3000000<=fu):∃Y,vz fu R=Z (yC (Y:wL),0)/\BdY R Y:=by
 have d:=Dw h0;have hc:=XC (show R=wO (X R) (M R)from c.symm) (by rw[c]at d;lia);obtain⟨y,h1,h⟩:=eF e f (by rw[c]at d;lia) g;obtain⟨r,rfl,i,j⟩:=h h0;rw[c]at h1 i j d;have hd:=OY (n:=X R) ⟨X R-1,W,hc⟩;refine⟨_,by rw[h1,h0],r,O,?_,?_⟩
 ·lia
 ·grind
theorem zoj{x y:wL}(h:x*x<=y*y):x<=y:=by
 refine xak λhn=> ?_;have:=xbS (W:y<x) (W:y<x);lia
theorem zr1{M:J}(k:0<X R)(ht:Tp (cf R) (X R-1))(hp:0<cf R (X R-1))(f:BdY R Y)(l:2*((Y:J)*cf R (X R-1))<M):Bdz M (cf R):=λu v b fu hv e j=>by
 obtain⟨r,rfl,_,g⟩:=f;obtain⟨h,_⟩:=Jf ht.nz e;obtain⟨a,c⟩:=Tp.ex fu h;have hc:a+b=X R-1:=by
  have:=c.mul hv;rw[<-e]at this;exact this.uniq ht
 have i:(v b*u j).natAbs<=(r+1)*2^(X R-1):=by
  refine zoj ?_;have m:((v b*u j).natAbs*(v b*u j).natAbs:wL)=(v b*u j*(v b*u j)).natAbs:=(xcw _ _).symm;have n:(((r+1)*2^(X R-1)*((r+1)*2^(X R-1)):wL):J)=4^(X R-1)*(((r:J)+1)*(r+1)):=by
   have:(4:J)^(X R-1)=2^(X R-1)*2^(X R-1):=by rw[(rx:(4:J)=2*2),Int.mul_pow]
   grind
  have h0:=Y5<|v b*u j;have o:v b*u j*(v b*u j)<=4^(X R-1)*(((r:J)+1)*(r+1)):=by
   have d:=mig c hv e j;rw[hc,(W:X R-1+1=X R)]at d;exact Int.le_trans d<|xaU g<|Int.pow_nonneg rx
  lia
 have p:(((r+1)*2^(X R-1):wL):J)*1<=(((r+1)*2^(X R-1):wL):J)*cf R (X R-1):=xaU W W;lia
theorem zi4(k:yu R=R)(e:xa K R)(l:K<=300)(hl:0<X R)(hc:X R<=65)(i:vz fu R=Z (yC (Y:wL),0))(f:Bz 1000 (Y:J))(d:3000000<=fu):J6 fu R=Z (decide<|1000<bl (2*((Y:J)*M R (X R-1))).natAbs):=by
 have b2:Bz 1 2:=by unfold Bz;decide
 have ob:=e.get<|X R-1;have j:=e.bz<|X R-1;have g:=f.mul j;have c:=b2.mul g;unfold J6;rw[za i];simp only;rw[za<|yr rx d,(W:(X R:J)-1=((X R-1:wL):J)),zb,yn,F,za<|yi (f.ok rx) (fW.of ob W) d,zn,Qw,za<|yi (b2.ok rx) (g.ok W) d,zn,zn,za<|Vj (yx _) (by have:=c.len;lia) (by have:=c.len;lia),show P (yC<|2*((Y:J)*M R (X R-1))).2=(2*((Y:J)*M R (X R-1))).natAbs from zV _];by_cases h:1000<bl (2*((Y:J)*M R (X R-1))).natAbs
 ·grind
 ·grind
theorem zmw{n k:wL}(h:bl n<=k):n<2^k:=by grind [E5,xag,xam]
theorem zft{p:J}(hp:qt p=wT)(x:yu R=R)(l:xa K R)(y:K<=300)(hl:0<X R)(hi:X R<=65)(n:vz fu R=Z (yC (Y:wL),0))(hd:Bz 1000 (Y:J))(i:bl (2*((Y:J)*M R (X R-1))).natAbs<=1000)(c:3000000<=fu):
 ∃k:wL,Vo fu R p=Z (k:J)/\1<=k/\k<=1000/\2*((Y:J)*M R (X R-1))<p^k:=by
 obtain⟨z,A⟩:=zA hp;obtain⟨E,o⟩:∃E,E=1000:=⟨_,O⟩;have i:=zmw (k:=E) (by rw[o];exact i);have b2:Bz 1 2:=by unfold Bz;decide
 have ob:=l.get<|X R-1;have q:=l.bz<|X R-1;have m:=hd.mul q;have d:=b2.mul m;have t:Bz 1 p:=by unfold Bz;rw[Nat.pow_one];lia
 obtain⟨T,g⟩:∃T,T=2*((Y:J)*M R (X R-1)):=⟨_,O⟩;have u:∀k:wL,((2^k:wL):J)<=p^k:=λk=>by
  obtain⟨P,rfl⟩:=xaE (W:0<=p);have:=Nat.pow_le_pow_left (W:2<=P) k;have e:((P^k:wL):J)=(P:J)^k:=rC
  rw[<-e];lia
 obtain⟨r,v,k,rfl,k1,k2,k3⟩:=zM (f:=Jc fu p<|yC T) (λs:J×U=>∃k:wL,s=((k:J),yC<|p^k)/\1<=k/\k<=1000) (λs=>1000-s.1.toNat) (λr=>∃k:wL,r=(k:J)/\1<=k/\k<=1000/\T<p^k) (by
  rintro s L ⟨k,rfl,k1,k2⟩ w;unfold Jc;simp only;have j:=BE hp k2;rw[za<|Yk (j.ok rx) ((g▸d).ok W) c (by have:=j.len;lia) (by have:=(g▸d:Bz _ T).len;lia),zn,zn];by_cases h:T<p^k
  ·have hc:jE (p^k) T=1:=by unfold jE;rw[zG,Q h]
   rw[hc,S rx];exact⟨_,O,k,O,k1,k2,h⟩
  ·have B:k<1000:=by
    refine xak λhn=> ?_;obtain rfl:k=E:=W
    have:=u k;rw[<-g]at i;lia
   have hc:jE (p^k) T<=0:=by
    unfold jE;split
    ·decide
    ·first|decide|(rw[S h];decide)
   rw[Q hc,za<|yr ⟨W,W⟩ c,za<|yi (j.ok rx) (t.ok rx) c,zn,zn,zb,<-xbO];exact w _ ⟨k+1,O,W,W⟩ (by show 1000-((k:J)+1).toNat<1000-(k:J).toNat;lia)) fu (1,yC p) ⟨1,by rw[xbO,xce,xdd];rfl,W,W⟩ (by show 1000-(1:J).toNat<fu;lia)
 refine⟨k,?_,k1,k2,by rw[<-g];exact k3⟩;unfold Vo;rw[za n];simp only;rw[za<|yr rx c,(W:(X R:J)-1=((X R-1:wL):J)),zb,yn,F,za<|yi (hd.ok rx) (fW.of ob W) c,zn,Qw,za<|yi (b2.ok rx) (m.ok W) c,zn,zn,<-g,za<|yr ⟨W,W⟩ c,za v]
end
section
variable{R a:ww Zr}{fu K B:wL}{ds:ww wF}
theorem TB{R:N U->N J->Prop}:∀{us:N (N U)}{fs:N (N J)},Fz R us fs->∃xs:N Lx,us=xs.map (·.1)/\fs=xs.map (·.2)/\∀x∈xs,R x.1 x.2
 |[],[],_=>⟨[],O,O,λ_ h=>jp h H1⟩
 |u::us,f::fs,h=>by
  obtain⟨xs,e1,b,c⟩:=TB h.2;refine⟨(u,f)::xs,by rw[e1];rfl,by rw[b];rfl,λx hx=> ?_⟩;obtain rfl|hx:=xai.1 hx
  ·exact h.1
  ·simp_all
def zjv(R:N U):Prop:=∃Y,BdY R Y/\1000<bl (2*((Y:J)*M R (X R-1))).natAbs
theorem BdY.uniq{Y f:wL}(h:BdY R Y)(g:BdY R f):Y=f:=by
 obtain⟨r,rfl,h1,b⟩:=h;obtain⟨s,rfl,g1,d⟩:=g;have c:∀{r s:wL}{S:J},r*r<S->S<=(s+1)*(s+1)->¬s<r:=λ{r s S} h1 b e=>by
  have:((s:J)+1)*(s+1)<=r*r:=Int.mul_le_mul W W W W;lia
 grind
theorem CT(s:yu R=R)(pm:Pm (M R))(ps:Po (M R))(G:xa K R)(hK:K<=200)(hl:X R<=11)(hd:Rl ds)(hV:X ds<=1000)(L:3000300<=fu):
 ∃l b,JX fu R ds=Z (l,b)/\(b=wT↔X R<2\/(¬zjv R/\∃p,Wv R p))/\(b=wT->(∀g∈l,Gd g)/\M R=prZ (l.map λg=>(M g:Pz))/\l.Pairwise (λa b=>JF a b<0)/\X l<=12):=by
 have hJ:X (yu R)≠0:=λe=>by
  obtain⟨j,hj⟩:=pm.nz;exact hj<|VI e j
 have P:=Vb hJ;rw[s]at hJ P;have hB:0<M R (X R-1):=by
  obtain⟨m,m1,m2⟩:=ps.tp;rw[<-m1.uniq P];exact m2
 unfold JX;by_cases h2:X R<2
 ·rw[yg];refine⟨[],wT,O,⟨λ_=> .inl h2,λ_=>O⟩,λ_=>⟨λg u=>jp u H1,?_,List.Pairwise.nil,xaf _⟩⟩;obtain⟨d,hd⟩:=((rk.tp P).2 W).ex;have z:M R (X R-1)=d:=by rw[hd,(W:X R-1=0)];exact Q O
  rw[hd]at pm;obtain e|e:=L8 pm
  ·rw[hd,e];rfl
  ·lia
 ·have h0:HR R=0:=by unfold HR;rw[s,zG,zG]
  obtain⟨Y,hY,V⟩:=zf5 (fu:=fu) s G W h0 W;have hM:Bz 1000 (Y:J):=by
   obtain⟨r,rfl,z,T⟩:=V;have h5:=zjp (K:=K) (f:=M R) G.bz (X R) W;have h6:Bz 401 (r:J):=by
    refine Bz.nat ?_;refine xaI (show r<=r*r from Nat.le_mul_self r) ?_;have h7:((r*r:wL):J)=(r:J)*r:=rC
    have h8:=h5.mono (W:K+K+1<=401);unfold Bz at h8;lia
   have h9:Bz 402 (((r+1:wL):J)):=(h6.add<|Bz.one' (k:=401) rx).le W;have hW:Bz 1 (((2^(X R-1):wL):J)):=Bz.nat (by
    rw[Nat.pow_one];exact xaI (xam rx (W:X R-1<=10)) rx)
   have:=(h9.mul hW).mono (rx:402+1<=1000);rwa[<-Int.natCast_mul]at this
  have hN:zjv R↔1000<bl (2*((Y:J)*M R (X R-1))).natAbs:=⟨λ⟨o,z1,z2⟩=>by rw[V.uniq z1];exact z2,λh=>⟨Y,V,h⟩⟩;rw[zG,za<|zi4 s G W W W hY hM W];by_cases u:1000<bl (2*((Y:J)*M R (X R-1))).natAbs
  ·rw[Ws u,Q O];refine⟨[],I,O,⟨λh=>jp h rx,λh=> ?_⟩,λh=>jp h rx⟩;obtain h|h:=h
   ·exact jp h h2
   ·exact jp (hN.2 u) h.1
  ·rw[Ww u,ir rx];obtain⟨p,l,e1,hQ⟩:=Cr (fu:=fu) s G W h0 W W hd hV W;rw[za e1];simp only;rcases hQ with⟨hX,hZ⟩|⟨hE,D⟩
   ·rw[Q hX];refine⟨[],I,O,⟨λh=>jp h rx,λh=> ?_⟩,λh=>jp h rx⟩;obtain h|⟨_,q,hq⟩:=h
    ·exact jp h h2
    ·exact jp hq<|hZ q
   ·obtain⟨hp,ht,hc⟩:=hE;obtain⟨p1,p2⟩:=zA hp;obtain⟨k,e2,k1,k2,k3⟩:=zft (fu:=fu) hp s G W W W hY hM (xbz u) W;have hO:Au p (k:J)=(yC<|p^k,0):=by
     unfold Au;rw[ce ⟨hp,W,W⟩,xba]
    have h1:=D.ln;rw[zG,za e2,za (uM W),hO];simp only;have h':VM fu R l p=Z ([],R,l):=by
     unfold VM;rw[za (v:=(R,l))];obtain⟨n,hn⟩:∃n,fu=n+1:=⟨fu-1,W⟩;have:zg (Q5 fu p) (n+1) (R,l)=Z (R,l):=by
      rw[kQ];unfold Q5;simp only;rw[zG]
     rw[<-hn]at this;exact this
    rw[za h'];simp only;have hz:=(Ab (p:=p)).2 ht;have hP:gW p (yu R) l:=by
     rw[s];refine⟨W,hz,W,λi hi=> ?_,λi j hi hj=> ?_,?_⟩
     ·have U:=Lj (l:=l) hi;refine⟨?_,(D.el _ U).2.1⟩;obtain⟨q,fq,hq⟩:Di p (C<|l.getD i []) (M R):=Di.cg ((dN dP<|xbE U).mul _<|Fs.pc _) D.cg.symm;have hT:=(D.el _ U).1.mn;obtain⟨x,H,b3⟩:=tz hp ht 1|>λ⟨x,H⟩=>(⟨x,H,O⟩:∃x,p^1∣x*M R (X R-1)-1/\Wr=Wr);by_cases a0:X (l.getD i [])<=X R
      ·exact a0
      ·exfalso;have z:=hT.mn.zero p1 fq λk hk=>by rw[<-hq k,P.2 k (by have:=hT.ln;lia),xaq]
       have T:=(hq.trans<|z.mul_zero_r _)<|X R-1;rw[zS,xaq]at T;exact ht T
     ·have z:=xcU.1 D.pw j i W hi hj;rw[UV,UV,xaa hi,xaa (W:j<X l)];exact z.symm
     ·refine(jj (p:=p) W _ _).ext (JZ W R) ((ZU p _ _).trans<|(Cg.mul (se p l) Cg.rfl).trans<|Cg.trans ?_ (mz p R).symm);rw[j8,zo];refine Cg.trans (Cg.mul (λj=> ?_) Cg.rfl) D.cg.symm;rw[UC];unfold E;split
      ·exact xaR _ _
      ·rfl
    obtain⟨us,e,e3,e4,e5⟩:=AG (fu:=fu) (p:=p) (k:=(k:J)) (a:=R) (fs:=l) (G.mono W) W W;have he:e=0:=by
     refine xak λhF=> ?_;have hr:=pz (fu:=fu) (fs:=l) hp (G.mono (by lia:K<=250)) rx (by lia:X R<=66) W;obtain⟨bb,b1,b2⟩:=hr;rw[b2.2<|by rw[s]at hP;exact hP]at b1;have:=zgq (G.mono (by lia:K<=250)) W W W W e3;unfold zfU at this;rw[Q hp,s,zG,Q b1]at this;exact hF this
    obtain⟨hG,_⟩:=e4 he;rw[xba]at hG;have a1:=hG.up;obtain⟨xs,rfl,rfl,H⟩:=TB a1;have hF:xs.map (·.2)≠[]:=λe=>by
     have z:=D.cg<|X R-1;rw[e,show prZ ([].map C)=E 1 from O,yp]at z;have T:E (M R<|X R-1) (X R-1)=0:=zG;rw[T,xaq]at z;exact ht z
    have hU:=hG.cg hF;rw[s,xcE]at hU;rw[xan]at h1;have hC:Ch p k (M R) R xs [] 1:=by
     have hL:Lc p k (M R) (X R-1) xs:=⟨hp,k1,λx hH=>⟨H x hH,(D.el _<|xbE hH).1,(D.el _<|xbE hH).2.2⟩,(xey (R:=λa b=>km p (C a)<|C b) (f:=λx:Lx=>x.2)).1 D.pw,P,W,hB,ht,pm,hU⟩;exact⟨hL,k2,s,G.mono W,hl,zr1 W P hB V k3,Ls.one hL,by rw[xbV];lia,(zE _).symm,λg u=>jp u H1⟩
    obtain⟨out,o1,o2,o3,o4⟩:=Ra (fu:=fu) hC W;rw[yg,za e3];simp only;rw[za o1,xN (by simp only[xbV];lia),F,xbM];obtain⟨r,s1,s2,s3⟩:=OE (fu:=fu) (cmp:=λa2 a3=>jU fu a2 a3) (c:=JF) (S:=Gd) (λx y H hy=>rE H.ok hy.ok H.can hy.can rx (by have:=H.ln;lia) (by have:=hy.ln;lia) W) (t:=out) o3 W W;have hI:M R=prZ (r.map λg=>(M g:Pz)):=by rw[o4];exact zav<|s2.symm.map _
    have hw:∀g∈r,Gd g:=λg u=>o3 g<|s2.mem_iff.1 u;rw[za s1];refine⟨r,wT,O,⟨λ_=> .inr ⟨λh=>u<|hN.1 h,p,hp,ht,hc⟩,λ_=>O⟩,λ_=>⟨hw,hI,?_,by rw[s2.length_eq];lia⟩⟩;refine(xdq.2 λ{a b} hs=> ?_);have z:¬JF b a<0:=(xdq.1<|s3 zmF) hs;have ha:a∈r:=hs.subset rC;have hb:b∈r:=hs.subset rC;have T:=WG a b;by_cases h5:JF a b=0
    ·exfalso;have a4:=zeh (hw a ha).can (hw b hb).can h5;subst a4;obtain⟨m,w,hS,U⟩:=hC.lc.sf;have hD:=rI (p:=p) (hs.map λg=>(M g:Pz)) λf L=>by
      obtain⟨g,_,rfl⟩:=xat.1 L;exact Fs.cf g
     rw[<-hI]at hD;have a5:Di p ((M a:Pz)*M a) (C m):=by
      refine Di.trans ⟨E 1,Fs.pc 1,Cg.of ?_⟩<|hD.trans ⟨E w,Fs.pc w,U⟩;show(M a:Pz)*(M a*E 1)=_;rw[yp,zE]
     have a6:=hw a ha;have a7:Zd (M a) (M R):=by
      rw[hI];obtain⟨A,B,e6⟩:=xeo ha;rw[e6,xaO,xbP,vo];refine Zd.mul _ (Fs.prZ λf L=> ?_)<|Zd.left<|Fs.prZ λf L=> ?_
      ·obtain⟨g,_,rfl⟩:=xat.1 L;exact Fs.cf g
      ·obtain⟨g,_,rfl⟩:=xat.1 L;exact Fs.cf g
     obtain⟨v,fv,hv⟩:=a7;have h6:=hC.ls (M a) v (Fs.cf a) fv (by rw[hv,zo]) a6.ir.dg;obtain⟨x,a9⟩:∃x,x∈own p (M a) xs:=by
      cases b0:own p (M a) xs with
      |nil=>rw[b0]at h6;exact jp h6 rx
      |cons x t=>exact⟨x,IR⟩
     obtain⟨h7,h8⟩:=dS.1 a9;exact hS.apart (Fs.cf a) (Fs.cf a) a5 (xbE h7) h8 h8
    ·lia
theorem Cq{q:N U}{m:wL}(x:xa K a)(T:K<=50)(l:Tp (M a) m)(V:m<=11)(hd:X a<=40)(y:∀j,Bb B<|M a j)(hB:B<=3000)(d:Gd q)(z:xa 50 q)(A:3000000<=fu):
 ∃n:wL,Wg fu a q=Z (n:J)/\n<=11/\Mu (M q) (M a) n:=by
 have hc:X (yu q)≠0:=λe=>by
  obtain⟨j,C⟩:=d.ir.pm.nz;exact C<|VI e j
 have o:=Vb hc;rw[d.can]at o;have hl:=d.ln;have ho:1<=X q-1:=by refine xak λh=>d.ir.dg<|(rk.tp o).2 W
 have fp:=λn=>d.ir.fs.pp n;have one:∀(t:N U) (n:wL),xa 60 t->X t<=40->M a=(M t:Pz)*pp (M q) n->∃b e,wB fu t q=Z (b,e)/\(e=0->xa 60 b/\X b<=40/\M a=(M b:Pz)*pp (M q) (n+1))/\(e≠0->Mu (M q) (M a) n):=λt n o1 l1 e1=>by
  obtain⟨b,e,d1,d2,d3⟩:=KO (fu:=fu) o1 z (by have:=xac (50+1) (W:X t+1<=41);lia) W W hc A;refine⟨b,e,d1,λc=> ?_,λc=>⟨M t,Fs.cf t,e1,λD=>c<|d2.2 D⟩⟩;obtain⟨f1,f2,f3⟩:=d3 c;have v:M a=(M b:Pz)*pp (M q) (n+1):=by
   rw[e1,f1,zd];show _=_*(pp (M q) n*M q);rw[zo<|pp (M q) n]
  refine⟨?_,W,v⟩;rw[<-f2];exact xh λj=>(NT l (Fs.cf b) (fp _) v W y j).bz W
 obtain⟨q1,w,c1,c2,F⟩:=one a 0 (x.mono W) hd (yp _).symm;have p:∀{t:N U}{n:wL},M a=(M t:Pz)*pp (M q) n->n<=m:=λ{t n} e=>by
  obtain⟨G,np⟩:=Jf l.nz e;obtain⟨i,hi⟩:=Tp.ex (Fs.cf t) G;have H:∀n,Tp (pp (M q) n) (n*(X q-1)):=λn=>by
   induction n with
   |zero=>rw[xcC];exact⟨show E 1 0≠0 by decide,λk hk=>by show E 1 k=0;unfold E;rw[zG]⟩
   |succ n g=>rw[xbk,xcN];exact g.mul o
  have h1:=hi.mul<|H n;rw[<-e]at h1;have u:=h1.uniq l;have h3:=xcj n (W:0<X q-1);lia
 obtain⟨s,P,n,rfl,n1,n2⟩:=zM (f:=KX fu q) (λs:J×N U×J=>∃n:wL,s.1=(n:J)/\(s.2.2=0->xa 60 s.2.1/\X s.2.1<=40/\M a=(M s.2.1:Pz)*pp (M q) (n+1))/\(s.2.2≠0->n<=11/\Mu (M q) (M a) n)) (λs=>if s.2.2=0 then 20-s.1.toNat else 0) (λr=>∃n:wL,r=(n:J)/\n<=11/\Mu (M q) (M a) n) (by
  rintro⟨i,t,e⟩ L ⟨n,hn,h1,u⟩ g;simp only at hn h1 u g;subst hn;unfold KX;simp only;by_cases c:e=0
  ·obtain⟨o1,l1,e1⟩:=h1 c;have hp:=p e1;obtain⟨b,e',d1,d2,d3⟩:=one t (n+1) o1 l1 e1;rw[Q c,zb,Y d1];refine g _ ⟨n+1,by show(n:J)+1=((n+1:wL):J);lia,d2,λh=>⟨W,d3 h⟩⟩ ?_;rw[Q c];split
   ·show 20-((n:J)+1).toNat<20-(n:J).toNat;lia
   ·show 0<20-(n:J).toNat;lia
  ·rw[S c];exact⟨_,O,n,O,u c⟩) fu (0,q1,w) ⟨0,O,c2,λh=>⟨W,F h⟩⟩ (by
  show(if w=0 then 20-(0:J).toNat else 0)<fu;split<;>lia)
 refine⟨n,?_,n1,n2⟩;unfold Wg;rw[Y c1];simp only;rw[Y P]
def zk4(R:N U):Prop:=X R<2\/(¬zjv R/\∃p,Wv R p)
theorem zoZ(h:Rad a R):Zd (M R) (M a):=by
 obtain⟨g,b,e⟩:=h.dv;rw[<-nk a,e];exact(Zd.left b).mul _<|Fs.pc _
theorem rL(w:xa K a)(T:K<=50)(hl:X a<=40)(h0:HR a=0)(ht:X (yu a)<=11)(y:∀j,Bb B<|M a j)(V:B<=3000)(r1:qD fu a=Z (R,0))(r2:Rad a R)(r3:∀j,Bb (B+X (yu a)+4)<|M R j)(hd:Rl ds)(ho:X ds<=1000)(d:3000300<=fu):
 (zk4 R/\∃l,vB fu a ds=Z (yC<|yD a,l,0)/\FL (M a) l/\X l<=12/\∀x∈l,Gd x.1/\x.2<=11)\/
  (¬zk4 R/\vB fu a ds=Z ((I,[]),[],6)):=by
 have hr:=Dw h0;have z:=Vb (a:=a) W;have oR:xa 50 R:=by rw[<-r2.can];exact xh λj=>(r3 j).bz W
 obtain⟨l,b,C,G,s3⟩:=CT (fu:=fu) r2.can r2.pm r2.ps oR rx (by have:=r2.ln;lia) hd ho d
 cases b with
 |false=>
  refine .inr ⟨λh=>(by have:=G.2 h;cases this),?_⟩;unfold vB;rw[Y r1];simp only[Z4];rw[Y C];rfl
 |true=>
  obtain⟨g1,H,g3,g4⟩:=s3 O;refine .inl ⟨G.1 O,?_⟩;have P:∀q∈l,Zd (M q) (M a):=λq c=>by
   refine Zd.trans ?_<|zoZ r2;rw[H];obtain⟨A,D,e6⟩:=xeo c;rw[e6,xaO,xbP,vo];refine Zd.mul _ (Fs.prZ λf d=> ?_)<|Zd.left<|Fs.prZ λf d=> ?_
   ·obtain⟨g,_,rfl⟩:=xat.1 d;exact Fs.cf g
   ·obtain⟨g,_,rfl⟩:=xat.1 d;exact Fs.cf g
  have hk:∀q∈l,∃n:wL,Wg fu a q=Z (n:J)/\n<=11/\Mu (M q) (M a) n:=λq c=>by
   have k:=g1 q c;refine Cq w T z W hl y V k ?_ W;obtain⟨u,m,e⟩:=P q c;rw[<-k.can];exact xh λj=>(NT z (Fs.cf q) m (by rw[e,zo]) W y j).bz W
  obtain⟨s,hs,out,rfl,o1,o2⟩:=zM (f:=W8 fu a l) (λs:N (N U×J)×J×U×N (N U)=>∃(i:wL) (out:N (N U×J)),s=(out,(i:J),(I,[]),l)/\i<=X l/\out.map (·.1)=l.take i/\∀x∈out,∃n:wL,x.2=(n:J)/\n<=11/\Mu (M x.1) (M a) n) (λs=>X l-s.2.1.toNat)
   (λr=>∃out:N (N U×J),r=(out,(I,[]))/\out.map (·.1)=l/\∀x∈out,∃n:wL,x.2=(n:J)/\n<=11/\Mu (M x.1) (M a) n) (by
   rintro s L ⟨i,out,rfl,hi,h1,p⟩ ih
   unfold W8
   simp only
   by_cases hc:i<X l
   ·have hm:l.getD i []∈l:=by
     rw[UV,xaa hc];exact xby hc
    obtain⟨n,n1,n2,o⟩:=hk _ hm
    have hv:X out=i:=by
     have:=Z2 xaK h1;rw[xan,xas]at this;lia
    rw[yg,Y O]
    simp only[Z4]
    rw[zm hc,F,Y n1,xN (by simp only[xaw,xbV];lia),F,zb]
    refine ih _ ⟨i+1,_,O,W,?_,λx hx=> ?_⟩ (by show X l-((i:J)+1).toNat<X l-(i:J).toNat;lia)
    ·rw[xaO,h1,xeV,xaa hc,UV,xaa hc]
     rfl
    ·obtain hx|hx:=xab.1 hx
     ·exact p x hx
     ·obtain rfl:=xad.1 hx
      exact⟨n,O,n2,o⟩
   ·rw[zG,Y O]
    simp only[xaj,Z5]
    obtain rfl:i=X l:=W
    rw[xbR]at h1
    exact⟨_,O,out,O,h1,p⟩) fu ([],0,(I,[]),l) ⟨0,[],O,xaf _,by rw[List.take_zero];rfl,λx hx=>jp hx H1⟩ (by show X l-(0:J).toNat<fu;lia)
  have v:∀x∈out,x.1∈l:=λx hx=>by rw[<-o1];exact xbE hx
  refine⟨out,?_,⟨λx hx=> ?_,λq c pq hz=> ?_,?_⟩,?_,λx hx=>⟨g1 _<|v x hx,?_⟩⟩
  ·unfold vB;rw[Y r1];simp only[Z4];rw[Y C];simp only;rw[S rx,Y hs];simp only;rw[Y<|kY w]
  ·have k:=g1 _<|v x hx;obtain⟨n,n1,n2,o⟩:=o2 x hx;refine⟨k.can,k.ir,k.ps,?_,by rw[n1,xba];exact o⟩;by_cases hn:n=0
   ·exfalso;subst hn;obtain⟨u,m,e,Q⟩:=o;rw[show pp (M x.1) 0=E 1 from O,yp]at e;rw[<-e]at Q;exact Q<|P _<|v x hx
   ·lia
  ·have h1:=r2.al q c hz;rw[H]at h1;obtain⟨f,hp,p⟩:=c.prz (λf d=>by obtain⟨g,_,rfl⟩:=xat.1 d;exact Fs.cf g) h1;obtain⟨g,t,rfl⟩:=xat.1 hp;have e:=c.eq (g1 g t).ir pq (g1 g t).ps p;rw[<-o1]at t;obtain⟨x,hx,rfl⟩:=xat.1 t;exact⟨x,hx,e.symm⟩
  ·have:=g3;rw[<-o1]at this;exact xey.1 this
  ·have:=Z2 xaK o1;rw[xan]at this;lia
  ·obtain⟨n,n1,n2,o⟩:=o2 x hx;lia
theorem tE(b:xa K a)(e:K<=50)(hl:X a<=40)(h0:HR a=0)(hc:X (yu a)<=11)(c:∀j,Bb B<|M a j)(f:B<=3000)(g:(B+7)*cW (X (yu a)-1)<=639000)(h:(B+7)*cW (X (yu a))<=2400000)(hd:Rl ds)(i:X ds<=1000)(k:3000300<=fu):
 ∃R,qD fu a=Z (R,0)/\Rad a R/\(∀j,Bb (B+X (yu a)+4)<|M R j)/\
  ((zk4 R/\∃l,vB fu a ds=Z (yC<|yD a,l,0)/\FL (M a) l/\X l<=12/\∀x∈l,Gd x.1/\x.2<=11)\/
   (¬zk4 R/\vB fu a ds=Z ((I,[]),[],6))):=by
 obtain⟨R,r1,r2,d⟩:=s9 (fu:=fu) b W hl h0 c W g h W;exact⟨R,r1,r2,d,rL b e hl h0 hc c f r1 r2 d hd i k⟩
end
theorem zpB:Rl []:=λk=>by
 rw[yz<|xaf k];lia
def zrW(l:N (N U×J)):Pz:=prM<|l.map λx=>((M x.1:Pz),x.2.toNat)
theorem FL.prod{f:Pz}{l:N (N U×J)}(h:FL f l)(d:Fs f)(g:Nz f):∃c,c≠0/\f=E c*zrW l:=by
 refine zmy d g ?_ (λx b=> ?_) λq i j m=> ?_
 ·refine xey.2<|h.so.imp_of_mem λ{x y} b a h1 e=> ?_;have:=Dz (h.el x b).1 (h.el y a).1 λk=>WP e k;rw[this]at h1;have:=WG y.1 y.1;lia
 ·obtain⟨y,a,rfl⟩:=xat.1 b;obtain⟨_,n,o,_,p⟩:=h.el y a;simp_all
 ·obtain⟨y,a,e⟩:=h.al q i j m;exact⟨_,xbE a,e⟩
section
variable{fu d b j k h:wL}{r:v6}{β:wL->uL}
theorem Nc{r:v6}(h:X r.1≠0):xW fu (Z r)=Z I:=by
 unfold xW;rw[S rC,Y O,zG]
theorem zeV{a c:N D}{q:N D}(h:X r.1≠0)(h1:xM fu r a c=Z q):xz fu (Z r) a c=Z (q,0):=by
 unfold xz;rw[Y<|Nc h,S rx,Y O,Y h1]
theorem zeg{a c:N D}{q:N D}(h:X r.1≠0)(h1:wG fu r a c 1=Z q):xY fu (Z r) a c=Z (q,0):=by
 unfold xY;rw[Y<|Nc h,S rx,Y O,Y h1]
def zeq{a c:N D}{q:N D}(h:X r.1≠0)(h1:wG fu r a c (-1)=Z q):wX fu (Z r) a c=Z (q,0):=by unfold wX;rw[Y<|Nc h,S rx,Y O,Y h1]
theorem ze2{a:N D}{q:N D}(h:X r.1≠0)(h1:xy fu r a=Z q):vL fu (Z r) a=Z (q,0):=by
 unfold vL;rw[Y<|Nc h,S rx,Y O,Y h1]
theorem zoG{k:K}{c:uL}(hc:c≠0)(h:Hx k c):Hx k (1/c):=by
 have⟨D,g,a,n,h1,f⟩:=h;have i:((D:K):uL)≠0:=λe=>by have:=xfk.1<|e.trans (by rfl:(0:uL)=((0:K):uL));lia
 have hn:n≠0:=λe=>by
  rw[e]at h1;grind
 by_cases l:0<n;refine⟨n.natAbs,W,f,D,?_,by rw[xaL];exact a⟩;have e:((n.natAbs:K):uL)=(n:uL):=by
  have:(n.natAbs:J)=n:=W
  rw[<-this];rfl
 rw[e,<-h1];show _=(D:uL);grind;refine⟨n.natAbs,W,f,-(D:J),?_,by rw[xeL,xaL];exact a⟩;have e:((n.natAbs:K):uL)= -(n:uL):=by
  have:(n.natAbs:J)= -n:=W
  rw[<-xfp,<-this];rfl
 rw[e,xfp,<-h1];show _= -(D:uL);grind
theorem ziw{k:K}{c:uL}(h:Hx k c):Ht k [c]:=by
 obtain⟨D,a,e,n,h1,f⟩:=h;refine⟨D,a,e,λi=> ?_⟩
 cases i with
 |zero=>exact⟨n,h1,f⟩
 |succ i=>exact⟨0,by rw[ZR rC];grind,xdD _⟩
theorem zlN{P:N U}(hc:yu P=P)(hp:Pm (M P))(oP:xa 1 P)(hl:2<=X P)(o:X P<=5)(i:∀j,Bb 10<|M P j)(m:3000300<=fu):∃c e,wx fu P=Z (c,e)/\(c=wT->e=0->Ir (M P)):=by
 have h0:HR P=0:=by unfold HR;rw[hc,zG,zG]
 have p:cW (X (yu P)-1)<=99:=by
  rw[hc];have:X P=2\/X P=3\/X P=4\/X P=5:=W
  obtain h|h|h|h:=this<;>rw[h]<;>decide
 have q:cW (X (yu P))<=99:=by
  rw[hc];have:X P=2\/X P=3\/X P=4\/X P=5:=W
  obtain h|h|h|h:=this<;>rw[h]<;>decide
 obtain⟨R,r1,r2,s,h⟩:=tE (fu:=fu) (ds:=[]) (B:=10) (K:=1) oP rx W h0 (by rw[hc];lia) i rx W W zpB (xaf _) m;rcases h with⟨_,l,e,hd,_⟩|⟨_,e⟩
 ·by_cases h1:X l=1
  ·obtain⟨x,rfl⟩:=xcS.1 h1;by_cases f:x.2=1
   ·refine⟨wT,0,?_,λ_ _=> ?_⟩
    ·unfold wx;rw[Y e];show(if x.2=1 then Z (wT,(0:J))else Z (I,0))=_;rw[Q f]
    ·obtain⟨g1,g,t,u,v⟩:=hd.el x<|xad.2 O;obtain⟨c,c0,a⟩:=hd.prod (Fs.cf P) hp.nz;have e1:zrW [x]=M x.1:=by
      show pp (M x.1:Pz) x.2.toNat*E 1=_;rw[f,zo,zE];exact zE _
     rw[e1]at a;have w:=hp c.natAbs λk=>by rw[a,zY];exact xbw (Int.natAbs_dvd.2<|xei c)<|xbZ ..
     have n:c=1\/c= -1:=W
     obtain rfl|rfl:=n
     ·rw[a,zE];exact g
     ·rw[a];exact g.neg
   ·refine⟨I,0,?_,λh=>nomatch h⟩;unfold wx;rw[Y e];show(if x.2=1 then Z (wT,(0:J))else Z (I,0))=_;rw[S f]
  ·refine⟨I,0,?_,λh=>nomatch h⟩;unfold wx;rw[Y e];show(if(X l:J)=1 then _ else Z (I,(0:J)))=_;rw[zG]
 ·refine⟨I,6,?_,λh=>nomatch h⟩;unfold wx;rw[Y e];rfl
structure Pw(m:N U)(r:v6)(d:K)(β:K->uL):Prop where
 mn:r.1=zH m
 ln:(zH m).length=d+1
 fl:Fld r d 10 β
 d4:d<=4
 by_:r.2=((xaC<|d+1).map β).map cq
 pr:Ir (M<|zH m)
 at_:∀i,β i*(M (zH m) d:uL)=(M (zH m) i:uL)
 ne:r.1.length≠0
theorem Pw.tp{m:N U}(M:Pw m r d β):Tp (cf<|zH m) d:=by
 have h:=M.ln;have:=Vb (a:=zH m) (by rw[qu];lia);rwa[qu,h]at this
theorem Gh{m:N U}(u:xa 1 m)(hl:X m<=5)(z:∀j,Bb 10<|M m j)(A:3000300<=fu):
 ∃q e,Qm fu m=Z (q,e)/\(e=0->∃r d β,q=Z r/\Pw m r d β):=by
 unfold Qm;have B:=ZN m;have V:=ZP m;rw[Y<|vR u,zG];by_cases C:X (zH m)<2
 ·rw[yg];exact⟨_,_,O,λh=>nomatch h⟩
 ·rw[zG];obtain⟨P,f⟩:∃P,P=zH m:=⟨_,O⟩;rw[<-f]at B C⊢;have oP:xa 1 P:=f▸Aw u;have o:yu P=P:=f▸qu m;have v:=(QJ (a:=m) W).1;have l:∀j,Bb 10 (M P j):=λj=>by rw[f,ZH];exact xaI (xbr _ _)<|z j
  rw[<-f]at v;obtain⟨c,e,E,G⟩:=zlN o v oP W W l A;rw[Y E];simp only;by_cases p:e=0
  ·rw[Q p]
   cases c with
   |false=>rw[Q rx];exact⟨_,_,O,λh=>nomatch h⟩
   |true=>
    rw[S rx];obtain⟨d,hd⟩:∃d,X P=d+1:=⟨X P-1,W⟩;have H:Tp (M P) d:=by have:=Vb (a:=P) (by rw[o];lia);rwa[o,hd]at this
    have w:=H.1;have zz:((M P d:J):uL)≠0:=λh=>w<|Rat.intCast_inj.1<|h.trans (by rfl:(0:uL)=((0:J):uL));obtain⟨β,g⟩:∃β:wL->uL,β=λi=>xff (M P i) (M P d):=⟨_,O⟩;have n:∀i,β i*(M P d:uL)=(M P i:uL):=λi=>by rw[g];show xff _ _*_=_;rw[Rat.divInt_eq_div];grind
    have hc:β d=1:=by have:=n d;grind
    have t:zg (aX fu P) fu (0,((P,[]),([]:N D)))=Z ((P,[]),((xaC<|d+1).map β).map cq):=by
     refine zB (λs=>∃i:wL,i<=d+1/\s=((i:J),((P,[]),((xaC i).map β).map cq))) (λs=>d+1-s.1.toNat) _ ?_ fu _ ⟨0,W,O⟩ (by show d+1-(0:J).toNat<fu;lia);rintro _ L ⟨i,hi,rfl⟩ R;unfold aX;simp only;by_cases h:i=d+1
     ·rw[zG,Y O];simp only[xaj,Z5];rw[h]
     ·rw[yg,Y O];simp only[Z4];have e1:(X P:J)-1=(d:J):=W
      have l1:=λj (T:j<X P)=>oP _<|Lu T;have x:=l1 i W;have y:=l1 d W;rw[yn,F,e1,zb,yn,F,Y (aZ (K:=1) x.1 y.1 x.2 y.2 rx),S (show¬zv (P.getD d (I,[]))=0 from w)];simp only;rw[xN (by simp;lia),F,zb];refine R _ ⟨i+1,W,?_⟩ (by show d+1-((i:J)+1).toNat<d+1-(i:J).toNat;lia);rw[xcT,xaO,xaO,g];rfl
    rw[Y t];refine⟨_,_,O,λ_=>⟨(P,((xaC<|d+1).map β).map cq),d,β,O,⟨f,by rw[<-f];exact hd,⟨rC,λi hi=> ?_,hc,?_,W,W,rx⟩,W,O,by rw[<-f];exact G O p,by rw[<-f];exact n,by show X P≠0;lia⟩⟩⟩
    ·show(((xaC<|d+1).map β).map cq).getD i ((I,[]),[])=_;rw[mo (by simp;lia),ze7 W]
    ·refine⟨(M P d).natAbs,W,l d,λi=> ?_⟩;by_cases hs:0<=M P d
     ·refine⟨M P i,?_,l i⟩;rw[<-n i];have:(((M P d).natAbs:wL):uL)=(M P d:uL):=by
       have h:(((M P d).natAbs:wL):J)=M P d:=W
       rw[<-h];rfl
      rw[this]
     ·refine⟨-M P i,?_,by rw[xeL];exact l i⟩;rw[xfp,<-n i];have:(((M P d).natAbs:wL):uL)= -(M P d:uL):=by
       have h:(((M P d).natAbs:wL):J)= -M P d:=W
       rw[<-xfp,<-h];rfl
      rw[this];grind
  ·rw[S p];exact⟨_,_,O,λh=>nomatch h⟩
end
section
variable{fu:wL}
def zhb(z:U):Prop:=X z.2<=1/\(X z.2=1->z.2.getD 0 0<=1000)
theorem zpf{m:N U}(d:(Ty.l (.p .b (.l .u))).ok m)(h:∀j,j<X m->zhb (m.getD j (I,[]))):xa 1 m/\∀j,Bb 10 (M m j):=by
 refine⟨zl1 d<|ziU λj a=>(h j a).1,λj=> ?_⟩;by_cases a:j<X m;have⟨h1,c⟩:=h j a;unfold Bb M;rw[vM];have⟨l,hl⟩:∃l,l=(m.getD j (false,[])).2:=⟨_,O⟩;rw[<-hl]at h1 c⊢
 match l,h1,c with
 |[],_,_=>decide
 |[x],_,c=>
  have e:=Bj x;grind
 rw[ym W];unfold Bb;decide
def zeL(n k:K)(l:N D):Prop:=X l<=n/\∀j,j<X l->(l.getD j ((I,[]),[])).1.2.length<=k/\(l.getD j ((I,[]),[])).2.length<=k
theorem zlQ{k j:K}{x:uL}{l:N uL}(b:Hx j x)(hl:Ht k l):Ht (j+k) (x::l):=by
 have⟨D,c,a,n,h1,d⟩:=b;have⟨E,e,E1,f⟩:=hl;refine⟨D*E,xdr c e,by rw[xbg];exact xbS a E1,λi=> ?_⟩
 cases i with
 |zero=>exact⟨n*E,by rw[xcJ,<-h1];show x*_=x*(D:uL)*(E:uL);grind,xQ d<|by skip;exact E1⟩
 |succ i=>
  have⟨u,g,h⟩:=f i;exact⟨D*u,by rw[xcJ,<-g];show yH l i*_=(D:uL)*(yH l i*(E:uL));grind,xQ (by skip;exact a) h⟩
theorem zhN{x:D}{k:K}(h:Qz k x)(b:1<=k):Hx (64*k) (qv x):=by
 have e:18446744073709551616^k=2^(64*k):=by rw[xcg]
 have h1:P x.1.2<2^(64*k):=by rw[<-e];exact xag (vd h.1)<|xam rx h.2.1
 have a:P x.2<2^(64*k):=by rw[<-e];exact xag (vd h.2.2.1)<|xam rx h.2.2.2
 by_cases h0:P x.2=0
 ·refine⟨1,rx,Nat.one_lt_two_pow W,0,?_,xdD _⟩;unfold qv;rw[h0,Rat.mkRat_zero];grind
 ·refine⟨P x.2,W,a,zv x.1,?_,by rw[vM];exact h1⟩;unfold qv;rw[Rat.mkRat_eq_div];have:((P x.2:K):uL)≠0:=λe=>by have:=xfk.1<|e.trans (by rfl:(0:uL)=((0:K):uL));lia
  grind
theorem zi3{k:K}(a:1<=k):∀{l:N D},(∀x∈l,Qz k x)->Ht (64*k*X l+1) (vl l)
 |[],_=>⟨1,rx,Nat.one_lt_two_pow W,λi=>⟨0,by rw[ZR<|by simp[vl]];grind,xdD _⟩⟩
 |x::l,h=>by
  have:=zlQ (zhN (h x<|IR) a)<|zi3 a λy b=>h y<|FS _ b;show Ht _ (qv x::vl l);rw[xaw];grind
theorem zaX{n k:K}{l:N D}(f:1<=k)(hl:(Ty.l (.p (.p .b (.l .u)) (.l .u))).ok l)(h:zeL n k l):(∀x∈l,Qz k x)/\Ht (64*k*n+1) (vl l):=by
 have h1:∀x∈l,Qz k x:=λx c=>by
  have⟨i,hi,e⟩:=xcr.1 c;have a:=h.2 i hi;rw[UV,xaa hi,e]at a;have d:=hl.2 x c;exact⟨Gp d.1.2,a.1,Gp d.2,a.2⟩
 exact⟨h1,KG.mono (zi3 f h1) (by have:=xaG (64*k) h.1;lia)⟩
theorem UM{l:N D}(hl:X l<=1000)(h:∀x∈l,Yi x)(j:3000000<=fu):Xm fu l l=Z wT:=by
 unfold Xm;rw[Q O,Y (v:=.inl ())];refine zB (λs:J=>∃i:K,s=(i:J)/\i<=X l) (λs=>X l-s.toNat) _ ?_ fu 0 ⟨0,O,xaf _⟩ (by show X l-(0:J).toNat<fu;lia);rintro _ L ⟨i,rfl,hi⟩ e;unfold ia;by_cases d:i<X l
 ·have c:=aD h i;have e1:=Cy (fu:=fu) (a:=(l.getD i ((I,[]),[])).1) (b:=(l.getD i ((I,[]),[])).1) (by have:=c.2.1;lia) (by have:=c.2.1;lia);have f:=QO (fu:=fu) (a:=(l.getD i ((I,[]),[])).2) (b:=(l.getD i ((I,[]),[])).2) (by have:=c.2.2.2;lia) (by have:=c.2.2.2;lia);have g:JD fu (l.getD i ((I,[]),[])) (l.getD i ((I,[]),[]))=Z wT:=by
   unfold JD;rw[Y e1,Ws O,Q O,Y f,Ws O]
  rw[yg,zm d,F,zm d,F,Y g];rw[S rx,zb];exact e _ ⟨i+1,O,W⟩ W
 ·rw[zG]
end
section
variable{fu d k k':wL}{r:v6}{β:wL->uL}
structure ru(d:K)(β:K->uL)(k:K)(q:N uL)(f:uL->uL):Prop where
 rd:Hf d q
 kg:jd (y7 (d+1) β) (xD q) f
 ht:Ht k q
theorem ru.eq{p q:N uL}{f g:uL->uL}(M:β d=1)(h:ru d β k p f)(a:ru d β k' q g)(e:∀t,f t=g t):p=q:=
 Hf.inj M h.rd a.rd (h.kg.trans<|(jd.of e).trans a.kg.symm)
structure Ku(k:K)(a:N D):Prop where
 ok:∀x∈a,Yi x
 ln:a.length<=32
 ht:Ht k (vl a)
theorem ru.opd{q:N uL}{f:uL->uL}(h:ru d β k q f)(hd:d<=32)(a:k<=256000):Ku k (q.map cq):=
 ⟨zjC h.ht a,by rw[xan];have:=h.rd.1;lia,by rw[Yn];exact h.ht⟩
def zb5{m:N U}(M:Pw m r d β){a c:N D}(b:Ku k a)(hc:Ku k' c)(i:k+k'+1111<=250000)(e:3000000<=fu):∃q,xz fu (Z r) a c=Z (q.map cq,0)/\ru d β (k+k'+1111) q λt=>xD (vl a) t*xD (vl c) t:=by have⟨q,h1,f,g,h⟩:=zfr M.fl b.ok hc.ok b.ln hc.ln b.ht hc.ht W e;exact⟨q,zeV M.ne h1,f,g,h⟩
theorem zbp{m:N U}(M:Pw m r d β){a c:N D}(b:Ku k a)(hc:Ku k' c)(i:k+k'+374<=250000)(e:3000000<=fu):∃q,xY fu (Z r) a c=Z (q.map cq,0)/\ru d β (k+k'+374) q λt=>xD (vl a) t+xD (vl c) t:=by have⟨q,h1,f,g,h⟩:=SM M.fl b.ok hc.ok b.ln hc.ln b.ht hc.ht (.inl O) W e;exact⟨q,zeg M.ne h1,f,g.trans (jd.of λt=>by show _+(1:uL)*_=_;grind),h⟩
theorem zpD{m:N U}(M:Pw m r d β){a c:N D}(b:Ku k a)(hc:Ku k' c)(i:k+k'+374<=250000)(e:3000000<=fu):∃q,wX fu (Z r) a c=Z (q.map cq,0)/\ru d β (k+k'+374) q λt=>xD (vl a) t-xD (vl c) t:=by have⟨q,h1,f,g,h⟩:=SM M.fl b.ok hc.ok b.ln hc.ln b.ht hc.ht (.inr O) W e;exact⟨q,zeq M.ne h1,f,g.trans (jd.of λt=>by show _+((-1:J):uL)*_=_;grind),h⟩
def zhG{m:N U}(M:Pw m r d β){a:N D}(b:Ku k a)(h:k+352<=250000)(c:3000000<=fu):∃q,vL fu (Z r) a=Z (q.map cq,0)/\ru d β (k+352) q (xD<|vl a):=by have:=xac (10+1) b.ln;have⟨q,h1,e,f,g⟩:=mg M.fl b.ok (by have:=b.ln;lia) b.ht W c;exact⟨q,ze2 M.ne h1,e,f,KG.mono g W⟩
end
section
variable{fu d k:wL}{r:v6}{β:wL->uL}{m:ww Zr}
theorem Qg{X:Type}{f:((N X×J)->V (N X))->(N X×J)->V (N X)}{n i0 fu:K}{z:J}(g:K->X)(step:∀(i:K) L t,i<n->Ap t=i->f L (t,((i0+i:K):J))=L (t++[g i],((i0+i:K):J)+1))(a:∀L t,Ap t=n->f L (t,((i0+n:K):J))=Z t)(hn:n<fu)(b:z=(i0:J)):
 zg f fu ([],z)=Z ((xaC n).map g):=by
 subst b;refine zB (λs=>∃i:K,s=((xaC i).map g,((i0+i:K):J))/\i<=n) (λs=>i0+n-s.2.toNat) _ ?_ fu _ ⟨0,O,xaf _⟩ (by show i0+n-(i0:J).toNat<fu;lia);rintro _ L ⟨i,rfl,hi⟩ c;by_cases h:i=n;subst h;exact a _ _ rC
 rw[step i L _ W rC];refine c _ ⟨i+1,?_,W⟩ (by show i0+n-(((i0+i:K):J)+1).toNat<i0+n-((i0+i:K):J).toNat;lia);rw[xcT,xaO];rfl
def rq(n:K)(h:K->uL):N uL:=(xaC n).map h
theorem BL{n:K}{h:K->uL}:X (rq n h)=n:=by simp[rq]
theorem GK{n:K}{h:K->uL}(h0:∀i,n<=i->h i=0):yH (rq n h)=h:=by funext i;by_cases hi:i<n;unfold yH rq;rw[UV,xaa<|by simpa using hi];simp;rw[ZR (by rw[BL];lia),h0 i W]
theorem zdN{n:K}{h:K->uL}:(xaC n).map (λi=>cq<|h i)=(rq n h).map cq:=by unfold rq;rw[xcE];rfl
theorem LK{a:N D}(c:∀x∈a,Yi x)(hl:X a<=1000)(g:3000000<=fu):
 ∃q,X0 fu a=Z (q.map cq)/\X q<=X a/\(∀i,yH q i=yH (vl a) i)/\(X q≠0->yH q (X q-1)≠0):=by
 obtain⟨_,r1,n,rfl,r2,j,l⟩:=zM (f:=Ky fu a) (λs:J=>∃n:K,s=(n:J)/\n<=X a/\∀i,n<=i->yH (vl a) i=0) (λs=>s.toNat) (λy=>∃n:K,y=(n:J)/\n<=X a/\(∀i,n<=i->yH (vl a) i=0)/\(n≠0->yH (vl a) (n-1)≠0)) (by
  rintro _ L ⟨n,rfl,g1,b⟩ o;unfold Ky
  cases n with
  |zero=>rw[S W];exact⟨_,O,0,O,g1,b,λh=>jp O h⟩
  |succ e=>
   have e1:((e+1:K):J)-1=(e:J):=W
   rw[Q W,e1,yj ⟨W,W⟩,zm W,F,Y<|e9 (aD c e) g,<-U4];by_cases h0:yH (vl a) e=0
   rw[Q<|mU.2 h0,yj ⟨W,W⟩];refine o _ ⟨e,O,W,λi hi=> ?_⟩ W;by_cases h:i=e;rw[h];exact h0;exact b i W
   rw[S λh=>h0<|mU.1 h];exact⟨_,O,e+1,O,g1,b,λ_=>h0⟩) fu (X a:J) ⟨X a,O,Nm _,λi hi=>ZR (by rw[uG];exact hi)⟩ W
 have p:zg (XJ fu a (n:J)) fu ([],0)=Z ((xaC n).map λi=>cq<|yH (vl a) i):=by refine Qg (i0:=0) _ (λi L t hi ht=> ?_) (λL t ht=> ?_) W O;unfold XJ;simp only;rw[Q W,zm W,F,Y<|w8 (aD c _) g,xN (by simp;lia),F,yj ⟨W,W⟩,<-U4,xaD];unfold XJ;simp only;rw[S W]
 have e:=GK j;refine⟨rq n<|yH<|vl a,?_,by rw[BL];exact r2,λi=>by rw[e],λh=> ?_⟩;unfold X0;rw[Y r1,Y p,zdN];rw[BL]at h⊢;rw[e];exact l h
theorem zcM{a:N D}(b:∀x∈a,Yi x){i:K}(c:3000000<=fu):∃x,kZ fu a (i:J)=Z x/\Yi x/\qv x=yH (vl a) i:=by unfold kZ;by_cases h:i<X a;rw[Q W,zm h,F];exact⟨_,O,aD b i,(U4 a i).symm⟩;rw[S W,Y<|Yx rx c];exact⟨_,O,fS.rs ⟨Bz.zero _,Bz.one' rx⟩,by rw[uq,ZR<|by rw[uG];lia];rfl⟩
theorem zc7{l l':N uL}(h:∀i,yH l i=yH l' i)(t:uL):xD l t=xD l' t:=by rw[Zk (n:=max (X l) (X l')) W,Zk (l:=l') (n:=max (X l) (X l')) W];exact qO λi _=>by rw[h]
theorem Ht.ext{l l':N uL}(h:∀i,yH l i=yH l' i)(hl:Ht k l'):Ht k l:=by unfold Ht at*;rwa[show yH l=yH l' from uT h]
structure Mq(m:N U)(r:v6)(d:K)(β:K->uL):Prop where
 md:Pw m r d β
 ok:xa 1 (zH m)
 bb:∀j,Bb 10<|M (zH m) j
theorem Mq.can(M:Mq m r d β):wO (X (zH m)) (cf<|zH m)=zH m:=qu m
theorem Mq.qv(M:Mq m r d β){i:K}(hi:i<=d):Yi ((zH m).getD i (I,[]),[1])/\qv ((zH m).getD i (I,[]),[1])=(cf (zH m) i:uL):=by have h:=M.ok _<|Lu (show i<X (zH m) by rw[M.md.ln];lia);exact⟨⟨h.1,by have:=h.2;lia,bT rx,(by decide:[1].length<=4000)⟩,Rat.mkRat_one _⟩
theorem Mq.top(M:Mq m r d β):(cf (zH m) d:uL)≠0:=λh=>M.md.tp.1<|Rat.intCast_inj.1<|h.trans (by rfl:(0:uL)=((0:J):uL))
theorem Mq.hx(M:Mq m r d β)(i:K):Hx 10 (cf (zH m) i:uL):=⟨1,rx,rx,cf (zH m) i,by show(cf (zH m) i:uL)*((1:K):uL)=_;grind,M.bb i⟩
theorem zlt(M:Mq m r d β){l:N uL}{e:K}{c:uL}(hl:Ht k l)(w:d<=e)(p:X l=e+1)(x:e<=1000)(z:k+30<=250000)(hc:c*(cf (zH m) d:uL)=yH l e)(b:3000000<=fu):
 ∃o,zg (VP fu (e:J)) fu ((d:J),[],(0:J),zH m,l.map cq,cq c)=Z ((d:J),o.map cq,zH m)/\X o=e/\∀i,i<e->yH o i=if e-d<=i then yH l i-yH l e*β (i-(e-d))else yH l i:=by
 have hn:=M.md.ln;have f:Hx (k+10) c:=by have:=(KG.hx hl e).mul<|zoG M.top<|M.hx d;rwa[show yH l e*(1/(cf (zH m) d:uL))=c by have:=M.top;rw[<-hc];grind]at this
 suffices h:∃y,zg (VP fu (e:J)) fu ((d:J),[],(0:J),zH m,l.map cq,cq c)=Z y/\∃o,y=((d:J),o.map cq,zH m)/\X o=e/\∀i,i<e->yH o i=if e-d<=i then yH l i-yH l e*β (i-(e-d))else yH l i by obtain⟨_,h1,o,rfl,a⟩:=h;exact⟨o,h1,a⟩
 refine zM (λs=>∃(j:K) (o:N uL),s=((d:J),o.map cq,(j:J),zH m,l.map cq,cq c)/\j<=e/\X o=j/\∀i,i<j->yH o i=if e-d<=i then yH l i-yH l e*β (i-(e-d))else yH l i) (λs=>e-s.2.2.1.toNat) _ ?_ fu _ ⟨0,[],O,xaf _,O,λi hi=>jp hi<|xbb _⟩ (by show e-(0:J).toNat<fu;lia);rintro _ L ⟨j,o,rfl,A,h1,a⟩ q;unfold VP;simp only;by_cases B:j=e;rw[S W];exact⟨_,O,o,O,W,λi hi=>a i W⟩;have C:X (l.map cq)=e+1:=by rw[xan,p]
 have step:∀v:uL,v=(if e-d<=j then yH l j-yH l e*β (j-(e-d))else yH l j)->∃y,L ((d:J),(o++[v]).map cq,(j:J)+1,zH m,l.map cq,cq c)=Z y/\∃o,y=((d:J),o.map cq,zH m)/\X o=e/\∀i,i<e->yH o i=if e-d<=i then yH l i-yH l e*β (i-(e-d))else yH l i:=λv hv=>by
  refine q _ ⟨j+1,o++[v],O,W,by simp[h1],λi hi=> ?_⟩ (by show e-((j:J)+1).toNat<e-(j:J).toNat;lia);by_cases e1:i=j;rw[e1,<-hv];unfold yH;rw[UV,xbl W,h1,xck];rfl;rw[<-a i W];unfold yH;rw[UV,xaZ W,<-UV]
 rw[Q W,zm W,F,mo W,yj ⟨W,W⟩];by_cases hd:e-d<=j;have t:(j:J)-e+d=((j-(e-d):K):J):=W
 have g:=M.qv (i:=j-(e-d)) W;have n:c*(cf (zH m) (j-(e-d)):uL)=yH l e*β (j-(e-d)):=by rw[<-M.md.at_,<-hc];grind
 have u:fS (yH l e*β (j-(e-d))):=by rw[<-n];exact(f.mul<|M.hx _).hs W
 rw[Q W,Y O];simp only[Z4];rw[yj ⟨W,W⟩,t,yj ⟨W,W⟩,zm W,F,Y<|iv (f.hs W).rs g.1 b,uq,g.2,n,Y<|me (hl.hs W).rs u.rs b,uq,uq,xN (by simp;lia),F,yj ⟨W,W⟩];have:=step _ (Q hd).symm;rwa[xaO]at this;rw[S W,Y O];simp only[xaj,Z5];rw[xN (by simp;lia),F,yj ⟨W,W⟩];have:=step _ (S hd).symm;rwa[xaO]at this
theorem Fj(M:Mq m r d β){a:N D}(g:Ku k a)(T:k+352<=249000)(b:3000000<=fu):∃q,kq fu (zH m) a=Z (q.map cq)/\ru d β (k+352) q (xD<|vl a):=by
 have hc:=M.md.ln;have hd:=M.md.d4;have F:=M.md.fl;have hl:=F.d1;have hn:=g.ln;have⟨q0,A,U,w,B⟩:=LK (fu:=fu) g.ok W b;have n:∃y,zg (aN fu (d:J)) fu (q0.map cq,zH m)=Z y/\∃q,y=q.map cq/\ru d β (k+32*11) q (xD<|vl a):=by
  refine zM (λs=>∃(l:N uL) (j:K),s=(l.map cq,zH m)/\X l+j<=32/\jd (y7 (d+1) β) (xD l) (xD<|vl a)/\Ht (k+j*11) l/\(X l≠0->yH l (X l-1)≠0)) (λs=>X s.1) _ ?_ fu _ ⟨q0,0,O,W,jd.of<|zc7 w,Ht.ext w (by simpa using g.ht),B⟩ (by show(q0.map cq).length<fu;rw[xan];lia);rintro _ L ⟨l,j,rfl,V,x,f,ht⟩ C;have hm:j*11<=32*11:=xac _ W;unfold aN;simp only;by_cases h:X l<=d;rw[S<|by rw[xan];lia];exact⟨_,O,l,O,⟨h,ht⟩,x,KG.mono f W⟩;have⟨e,p⟩:∃e,X l=e+1:=⟨X l-1,W⟩;have E:X (l.map cq)=e+1:=by rw[xan,p]
  have e1:((e+1:K):J)-1=(e:J):=W
  have G:fS (yH l e):=f.hs W;have t:=M.qv<|Nm d;rw[E,Q W,e1,yj ⟨W,W⟩,zm W,ze,mo W,zm W,ze,Y<|EP G.rs t.1 (by rw[t.2];exact M.top) b,uq,t.2];simp only;have⟨o,o1,o2,H⟩:=zlt (fu:=fu) (c:=yH l e/(cf (zH m) d:uL)) M f W p W W (by have:=M.top;grind) b;rw[Y o1];simp only;have c1:∀i,yH (o++[yH l e]) i=if i<e then yH o i else yH l i:=λi=>by
   unfold yH;rw[UV,xfM];by_cases hi:i<e;rw[Q W,Q hi,UV];rw[S W,S hi];by_cases h:i=e;rw[h,o2,xck];rfl;rw[xbh (by simp;lia),UV,xbh W]
  have⟨z,u⟩:=Lz F (l:=l) (l':=o++[yH l e]) W p f (by simp;lia) (λi=>by
   rw[c1];by_cases hi:i<e;rw[Q hi,H i hi];congr 1;exact lM ⟨λh=>⟨h,hi⟩,λh=>h.1⟩;rw[S hi,S W])
  have P:(o++[yH l e]).take e=o:=by rw[List.take_append_of_le_length W,<-o2,xbR]
  rw[P]at z u;have⟨q,q1,q2,v,R⟩:=LK (fu:=fu) (a:=o.map cq) (O0 u W) (by rw[xan];lia) b;rw[xan]at q2;rw[Yn]at v;rw[Y q1];exact C _ ⟨q,j+1,O,W,(jd.of<|zc7 v).trans<|z.trans x,Ht.ext v (u.mono<|by rw[xcQ];lia),R⟩ (by show(q.map cq).length<X (l.map cq);rw[xan,xan];lia)
 obtain⟨_,r1,q,rfl,r2⟩:=n;refine⟨q,?_,r2⟩;unfold kq;rw[Y<|w7 M.ok rx W b,M.can,hc,(W:((d+1:K):J)-1=(d:J)),yj ⟨W,W⟩,Y A,Y r1]
end
section
variable{fu d k k':wL}{r:v6}{β:wL->uL}{m:ww Zr}
def zjx(M:Mq m r d β){n:K}{h:K->uL}(h0:∀i,n<=i->h i=0)(hn:n<=32)(b:KG k h)(c:k+352<=249000)(e:3000000<=fu):∃q,kq fu (zH m) ((rq n h).map cq)=Z (q.map cq)/\ru d β (k+352) q (y7 n h):=by
 have h1:Ht k (rq n h):=by unfold Ht;rw[GK h0];exact b
 have⟨q,q1,q2⟩:=Fj (fu:=fu) M (a:=(rq n h).map cq) ⟨O0 h1 W,by rw[xan,BL];exact hn,by rw[Yn];exact h1⟩ c e;refine⟨q,q1,q2.rd,q2.kg.trans<|jd.of λt=> ?_,q2.ht⟩;rw[Yn];unfold xD;rw[BL,GK h0]
theorem Ao(M:Mq m r d β){a b:N D}(e:Ku k a)(f:Ku k' b)(w:k+k'+355<=249000)(c:3000000<=fu):∃q,Zf fu (zH m) a b=Z (q.map cq)/\ru d β (k+k'+355) q λt=>xD (vl a) t+xD (vl b) t:=by
 have hc:=e.ln;have hd:=f.ln;have⟨n,hn⟩:∃n,n=max (X a) (X b):=⟨_,O⟩;have g:zg (Vz fu a b) fu ([],0)=Z ((xaC n).map λi=>cq<|yH (vl a) i+1*yH (vl b) i):=by refine Qg (i0:=0) _ (λi L t hi ht=> ?_) (λL t ht=> ?_) W O;unfold Vz;have⟨x,j,l,o⟩:=zcM (fu:=fu) e.ok (i:=0+i) c;have⟨y,p,u,v⟩:=zcM (fu:=fu) f.ok (i:=0+i) c;simp only;rw[F,Q W,Y j,Y p,Y<|KN l u c,xN (by simp;lia),F,yj ⟨W,W⟩,o,v,xaD,Rat.one_mul];unfold Vz;simp only;rw[F,S W]
 have⟨q,q1,q2⟩:=zjx (fu:=fu) (n:=n) M (h:=λi=>yH (vl a) i+1*yH (vl b) i) (λi hi=>by rw[ZR (by rw[uG];lia),ZR<|by rw[uG];lia];grind) W (KG.comb e.ht f.ht (s:=1) ⟨1,O,rx⟩) W c;refine⟨q,?_,q2.rd,q2.kg.trans<|jd.of λt=> ?_,KG.mono q2.ht W⟩;unfold Zf;rw[Y g,zdN,Y q1];rw[Xy,VD,<-Zk (by rw[uG];lia),<-Zk (by rw[uG];lia),Rat.one_mul]
theorem KG.neg{f:K->uL}(h:KG k f):KG k λi=> -f i:=by have⟨D,h0,h1,c⟩:=h;exact⟨D,h0,h1,λi=>by have⟨n,a,b⟩:=c i;exact⟨-n,by rw[xfp,<-a];grind,by rw[xeL];exact b⟩⟩
theorem ziE(M:Mq m r d β){a b:N D}(l:Ku k a)(c:Ku k' b)(s:k+k'+707<=249000)(f:3000000<=fu):∃q,UR fu (zH m) a b=Z (q.map cq)/\ru d β (k+k'+707) q λt=>xD (vl a) t-xD (vl b) t:=by
 have hc:=c.ln;have hd:=M.md.d4;have g:zg (VO fu b) fu ([],0)=Z ((xaC (X b)).map λi=>cq (-yH (vl b) i)):=by refine Qg (i0:=0) _ (λi L t hi ht=> ?_) (λL t ht=> ?_) W O;unfold VO;simp only;rw[Q W,zm W,F,Y<|iM (aD c.ok _) f,xN (by simp;lia),F,yj ⟨W,W⟩,<-U4,xaD];unfold VO;simp only;rw[S W]
 have⟨p,o,j⟩:=zjx (fu:=fu) (n:=X b) M (h:=λi=> -yH (vl b) i) (λi hi=>by rw[ZR<|by rw[uG];lia];rfl) hc (KG.neg c.ht) W f;have⟨q,q1,q2⟩:=Ao (fu:=fu) M l (j.opd W W) W f;refine⟨q,?_,q2.rd,q2.kg.trans ?_,KG.mono q2.ht W⟩;unfold UR gP;rw[Y (Y g|>.trans (by rw[zdN,Y o])),Y q1];rw[Yn];refine(jd.refl.add j.kg).trans<|jd.of λt=> ?_;have:=VD (X b) (-1) (yH<|vl b) t;have e:y7 (X b) (λi=> -yH (vl b) i) t=y7 (X b) (λi=> -1*yH (vl b) i) t:=qO λi _=>by grind
 rw[e,this,<-Zk<|by rw[uG];exact Nm _];grind
theorem zlg{a b:N D}{P:N U}{l:N uL}{i:K}(p:∀x∈a,Yi x)(q:∀x∈b,Yi x)(hi:i<X a)(hl:i+X b<=X l)(h1:X l<=1000)(e:∀j,fS<|yH l j)(t:∀j,fS<|yH (vl a) i*yH (vl b) j)(g:3000000<=fu):
 ∃l',zg (VQ fu (i:J)) fu (P,a,b,(0:J),l.map cq)=Z (P,a,b,l'.map cq)/\X l'=X l/\∀j,yH l' j=yH l j+(if i<=j/\j<i+X b then yH (vl a) i*yH (vl b) (j-i)else 0):=by
 suffices h:∃y,zg (VQ fu (i:J)) fu (P,a,b,(0:J),l.map cq)=Z y/\∃l',y=(P,a,b,l'.map cq)/\X l'=X l/\∀j,yH l' j=yH l j+(if i<=j/\j<i+X b then yH (vl a) i*yH (vl b) (j-i)else 0)by obtain⟨_,h1,o,rfl,e⟩:=h;exact⟨o,h1,e⟩
 refine zM (λs=>∃(n:K) (o:N uL),s=(P,a,b,(n:J),o.map cq)/\n<=X b/\X o=X l/\∀j,yH o j=yH l j+(if i<=j/\j<i+n then yH (vl a) i*yH (vl b) (j-i)else 0)) (λs=>X b-s.2.2.2.1.toNat) _ ?_ fu _ ⟨0,l,O,xaf _,O,λj=>by rw[S W,xem]⟩ (by show X b-(0:J).toNat<fu;lia);rintro _ L ⟨n,o,rfl,hn,g1,f⟩ u;unfold VQ;simp only;by_cases h:n=X b;rw[S W];exact⟨_,O,o,O,g1,λj=>by rw[f,h]⟩;have v:(i:J)+n=((i+n:K):J):=W
 have w:yH o (i+n)=yH l (i+n):=by rw[f,S W,xem]
 rw[Q W,v,yj ⟨W,W⟩,yj ⟨W,W⟩,zm (by rw[xan];lia),F,mo W,zm hi,F,zm W,F,Y<|iv (aD p i) (aD q n) g,<-U4,<-U4,w,Y<|KN (e _).rs (t _).rs g,uq,uq,zm (by rw[xan];lia),F,yj ⟨W,W⟩,<-List.map_set];refine u _ ⟨n+1,_,O,W,by rw[xbe,g1],λj=> ?_⟩ (by show X b-((n:J)+1).toNat<X b-(n:J).toNat;lia);rw[Dn W];unfold upq;by_cases c:j=i+n;rw[Q c,Q W,c,(W:i+n-i=n)];rw[S c,f];congr 2;exact lM ⟨λh=>by lia,λh=>by lia⟩
theorem Fb(M:Mq m r d β){a b:ww Qr}(B:Ku k a)(C:Ku k' b)(hc:X a+X b<=32)(hk:k+k'+360<=249000)(v:3000000<=fu):∃q,Zt fu (zH m) a b=Z (q.map cq)/\ru d β (k+k'+360) q λt=>xD (vl a) t*xD (vl b) t:=by
 obtain⟨N,hN⟩:∃N,N=X a+X b:=⟨_,O⟩;have w:zg (VG fu a b) fu ([],0)=Z ((xaC N).map λ_=>cq 0):=by
  refine Qg (i0:=0) _ (λi L t hi ht=> ?_) (λL t ht=> ?_) W O
  ·unfold VG;simp only;rw[yj ⟨W,W⟩,Q W,Y<|Yx rx v,xN (by simp;lia),F,yj ⟨W,W⟩];rfl
  ·unfold VG;simp only;rw[yj ⟨W,W⟩,S W]
 obtain⟨D,d0,d1,U⟩:=B.ht;obtain⟨E,e0,e1,V⟩:=C.ht;have w1:D*E<2^(k+k'):=by rw[xbg];exact xbS d1 e1
 have w2:2^(k+k'+6)=2^(k+k')*64:=xbg 2 (k+k') 6;have w4:=xdD<|k+k';have x:=xdr d0 e0;have cx:∀i j,∃n:J,yH (vl a) i*yH (vl b) j*((D*E:wL):uL)=n/\n.natAbs<2^(k+k'):=λi j=>by
  obtain⟨n,o,p⟩:=U i;obtain⟨u,b1,b2⟩:=V j;exact⟨n*u,by rw[xeR,xcJ,<-o,<-b1];grind,xQ p b2⟩
 have z:∃y,zg (aE fu (zH m) a b) fu (0,(rq N λ_=>0).map cq)=Z y/\∃l,y=l.map cq/\X l=N/\Ht (k+k'+6) l/\∀t,xD l t=xD (vl a) t*xD (vl b) t:=by
  refine zM (λs=>∃(i:wL) (l:ww uL),s=((i:J),l.map cq)/\i<=X a/\X l=N/\(∀j,∃n:J,yH l j*((D*E:wL):uL)=n/\n.natAbs<=i*2^(k+k'))/\∀t,xD l t=y7 i (yH<|vl a) t*xD (vl b) t) (λs=>X a-s.1.toNat) _ ?_ fu _ ⟨0,_,O,xaf _,BL,λj=>⟨0,by rw[GK λ_ _=>O];grind,rC⟩,λt=>by show y7 _ _ t=0*_;rw[GK λ_ _=>O,nD,xeA]⟩ (by show X a-(0:J).toNat<fu;lia);rintro _ L ⟨i,l,rfl,hi,g1,A,G⟩ ih;have w3:i*2^(k+k')<=32*2^(k+k'):=xac _ W;unfold aE;simp only;by_cases h:i=X a
  ·rw[S W];refine⟨_,O,l,O,g1,⟨D*E,x,W,λj=> ?_⟩,λt=>by rw[G,h,<-uG a];rfl⟩;obtain⟨n,o,p⟩:=A j;exact⟨n,o,W⟩
  ·have s1:∀j,fS (yH l j):=λj=>by obtain⟨n,o,p⟩:=A j;exact Fi (K:=k+k'+6) x W o W W
   have s2:∀j,fS (yH (vl a) i*yH (vl b) j):=λj=>by obtain⟨n,o,p⟩:=cx i j;exact Fi (K:=k+k'+6) x W o W W
   obtain⟨l',l1,l2,H⟩:=zlg (fu:=fu) (P:=zH m) (l:=l) B.ok C.ok (W:i<X a) W W s1 s2 v;rw[Q W,Y l1];simp only;rw[yj ⟨W,W⟩];refine ih _ ⟨i+1,l',O,W,l2.trans g1,λj=> ?_,λt=> ?_⟩ (by show X a-((i:J)+1).toNat<X a-(i:J).toNat;lia)
   ·obtain⟨n,o,p⟩:=cx i<|j-i;obtain⟨u,b1,b2⟩:=A j;rw[H,xcQ];split
    ·exact⟨u+n,by rw[Rat.intCast_add,<-o,<-b1];grind,W⟩
    ·exact⟨u,by rw[xem];exact b1,W⟩
   ·have c1:xD l' t=xD l t+y7 N (λj=>if i<=j/\j<i+X b then yH (vl a) i*yH (vl b) (j-i)else 0) t:=by
     rw[Zk (n:=N) W,Zk (l:=l) (n:=N) W,<-Xy];exact qO λj _=>by rw[H]
    have c2:=mC (β:=yH<|vl b) (g:=λj=>if i<=j/\j<i+X b then yH (vl a) i*yH (vl b) (j-i)else 0) (c:=yH (vl a) i) (e:=i) (λj R=>by rw[S W]) (X b) (λj R=>by rw[Q W,(W:i+j-i=j)]) t;have c3:=XD (f:=λj=>if i<=j/\j<i+X b then yH (vl a) i*yH (vl b) (j-i)else 0) (W:i+X b<=N) (λj R=>by rw[S W]) t;have c4:xD (vl b) t=y7 (X b) (yH<|vl b) t:=Zk (by rw[uG];exact Nm _) t;rw[c1,c3,c2,G,c4];show _=(y7 i (yH<|vl a) t+yH (vl a) i*t^i)*_;grind
 obtain⟨_,r1,l,rfl,r2,T,r4⟩:=z;obtain⟨q,q1,q2⟩:=Fj (fu:=fu) M (a:=l.map cq) ⟨O0 T W,by rw[xan];lia,by rw[Yn];exact T⟩ W v;refine⟨q,?_,q2.rd,q2.kg.trans (jd.of λt=>by rw[Yn];exact r4 t),KG.mono q2.ht W⟩;unfold Zt;rw[Y w,zdN (h:=λ_=>0),Y r1,Y q1]
end
section
variable{d k:wL}{β:wL->uL}
def GZ(n:K)(F:uL->uL->uL):Prop:=∃c:K->uL->uL,(∀i,VF<|c i)/\∀x t,F x t=y7 n (λi=>c i t) x
theorem VF.zero:VF λ_=>0:=VF.c 0
theorem GZ.mono{m n:K}{F:uL->uL->uL}:GZ n F->n<=m->GZ m F:=λ⟨c,hc,h⟩ a=>by
 refine⟨λi=>if i<n then c i else λ_=>0,λi=> ?_,λx t=> ?_⟩;show VF (if i<n then c i else λ_=>0);split;grind;exact VF.zero;have e1:=XD (f:=λi=>(if i<n then c i else λ_=>0) t) a (λi hi=>by rw[zG]) x;rw[h,e1];exact ZZ λi hi=>by rw[Q hi]
theorem GZ.add{n:K}{F G:uL->uL->uL}:GZ n F->GZ n G->GZ n λx t=>F x t+G x t:=λ⟨c,hc,h⟩ ⟨e,a,g⟩=>⟨λi t=>c i t+e i t,λi=>(hc i).add<|a i,λx t=>by have:=h x t;rw[Xy];grind⟩
theorem GZ.smul{n:K}{F:uL->uL->uL}{f:uL->uL}(a:VF f):GZ n F->GZ n λx t=>f t*F x t:=λ⟨c,hc,h⟩=>⟨λi t=>f t*c i t,λi=>a.mul<|hc i,λx t=>by have:=h x t;rw[VD];grind⟩
theorem GZ.x{n:K}{F:uL->uL->uL}:GZ n F->GZ (n+1) λx t=>x*F x t:=λ⟨c,hc,h⟩=>by
 refine⟨λi=>if i=0 then λ_=>0 else c (i-1),λi=> ?_,λx t=> ?_⟩;show VF (if i=0 then λ_=>0 else c (i-1));split;exact VF.zero;grind;have e1:y7 n (λi=>(if i+1=0 then λ_=>0 else c (i+1-1)) t) x=y7 n (λi=>c i t) x:=ZZ λi _=>by skip;rfl
 rw[jL];grind
theorem GZ.xn{n:K}{F:uL->uL->uL}(h:GZ n F):∀m,GZ (n+m) λx t=>x^m*F x t
 |0=>by have⟨c,hc,h⟩:=h;exact⟨c,hc,λx t=>by have:=h x t;grind⟩
 |m+1=>by have⟨c,hc,h⟩:=(h.xn m).x;exact⟨c,hc,λx t=>by have:=h x t;grind⟩
theorem GZ.mul{m:K}{G:uL->uL->uL}(a:GZ (m+1) G):∀(n:K) (f:K->uL->uL),(∀i,VF<|f i)->GZ (n+m) λx t=>y7 n (λi=>f i t) x*G x t
 |0,f,_=>⟨λ_ _=>0,λ_=>VF.zero,λx t=>by rw[nD];show(0:uL)*_=0;grind⟩
 |n+1,f,b=>by
  have⟨c,hc,h⟩:=((GZ.mul a n f b).mono (m:=n+1+m) W).add (((a.xn n).smul<|b n).mono W);exact⟨c,hc,λx t=>by skip;show(y7 n (λi=>f i t) x+f n t*x^n)*G x t=_;grind⟩
def AD(F:uL->uL->uL):Prop:=∃n,GZ n F
theorem AD.add{F G:uL->uL->uL}:AD F->AD G->AD λx t=>F x t+G x t:=λ⟨m,h⟩ ⟨n,g⟩=>⟨max m n,(h.mono W).add<|g.mono W⟩
theorem AD.mul{F G:uL->uL->uL}:AD F->AD G->AD λx t=>F x t*G x t:=λ⟨m,f,a,h⟩ ⟨n,g⟩=>⟨m+n,by
 obtain⟨c,hc,e⟩:=GZ.mul (g.mono<|xbB n) m f a;exact⟨c,hc,λx t=>by rw[<-e];show F x t*G x t=y7 m (λi=>f i t) x*G x t;rw[h]⟩⟩
theorem AD.t{f:uL->uL}(a:VF f):AD λ_ t=>f t:=⟨1,λ_=>f,λ_=>a,λx t=>by rw[jL];show f t=f t+x*0;grind⟩
theorem AD.c(a:uL):AD λ_ _=>a:=AD.t<|VF.c a
theorem AD.x:AD λx _=>x:=by
 have h1:GZ 1 λ_ _=>(1:uL):=⟨λ_ _=>1,λ_=>VF.c 1,λx t=>by rw[jL];show(1:uL)=1+x*0;grind⟩;obtain⟨c,hc,h⟩:=h1.x;exact⟨2,c,hc,λx t=>by rw[<-h];grind⟩
theorem AD.smul{F:uL->uL->uL}(a:uL)(h:AD F):AD λx t=>a*F x t:=(AD.c a).mul h
theorem AD.xn:∀m:K,AD λx _=>x^m
 |0=>by obtain⟨n,c,hc,h⟩:=AD.c 1;exact⟨n,c,hc,λx t=>by show x^0=_;rw[Rat.pow_zero];exact h x t⟩
 |m+1=>by obtain⟨n,c,hc,h⟩:=(AD.xn m).mul AD.x;exact⟨n,c,hc,λx t=>by show x^(m+1)=_;rw[Rat.pow_succ];exact h x t⟩
def qQ(P:uL->uL)(F G:uL->uL->uL):Prop:=∃Q,AD Q/\∀x t,F x t-G x t=P t*Q x t
variable{P:uL->uL}{F G g9 F' G':uL->uL->uL}
theorem qQ.of(h:∀x t,F x t=G x t):qQ P F G:=⟨_,AD.c 0,λx t=>by skip;grind⟩
theorem qQ.refl:qQ P F F:=qQ.of λ_ _=>O
theorem qQ.symm:qQ P F G->qQ P G F:=λ⟨Q,h,e⟩=>⟨_,h.smul (-1),λx t=>by have:=e x t;grind⟩
theorem qQ.trans:qQ P F G->qQ P G g9->qQ P F g9:=λ⟨Q,h,e⟩ ⟨R,k,a⟩=>⟨_,h.add k,λx t=>by have:=e x t;grind⟩
theorem qQ.add:qQ P F G->qQ P F' G'->qQ P (λx t=>F x t+F' x t) λx t=>G x t+G' x t:=λ⟨Q,h,e⟩ ⟨R,k,a⟩=>⟨_,h.add k,λx t=>by have:=e x t;grind⟩
theorem qQ.mono{f g:uL->uL}(m:K):jd P f g->qQ P (λx t=>f t*x^m) λx t=>g t*x^m:=λ⟨Q,h,e⟩=>⟨_,(AD.t h).mul<|AD.xn m,λx t=>by have:=e t;grind⟩
theorem qQ.coef{n:K}{f g:K->uL->uL}(h:qQ P (λx t=>y7 n (λi=>f i t) x) λx t=>y7 n (λi=>g i t) x){i:K}(hi:i<n):jd P (f i) (g i):=by
 have⟨Q,⟨m,c,hc,l⟩,e⟩:=h;refine⟨if i<m then c i else λ_=>0,by split;exact hc i;exact VF.zero,λt=> ?_⟩;have⟨N,r⟩:∃N,N=max n m:=⟨_,O⟩;have a:=zcN (n:=N) (f:=λj=>if j<n then f j t+ -1*g j t else 0) (g:=λj=>P t*(if j<m then c j t else 0)) (λx=>by
  have o:=XD (f:=λj=>if j<n then f j t+ -1*g j t else 0) (W:n<=N) (λj b=>by rw[zG]) x;have p:=XD (f:=λj=>if j<m then c j t else 0) (W:m<=N) (λj b=>by rw[zG]) x;have a3:y7 n (λj=>if j<n then f j t+ -1*g j t else 0) x=y7 n (λj=>f j t) x+ -1*y7 n (λj=>g j t) x:=by rw[<-VD,<-Xy];exact ZZ λj b=>by rw[iq b]
  have a4:y7 m (λj=>if j<m then c j t else 0) x=Q x t:=by rw[l];exact ZZ λj b=>by rw[iq b]
  rw[o,a3,VD,p,a4];have:=e x t;grind) i W
 rw[iq hi]at a;by_cases q:i<m;grind;rw[S q]at a⊢;grind
end
section
variable{fu d k k':wL}{r:v6}{β:wL->uL}{m:ww Zr}
def Yg(A:N (N D))(x t:uL):uL:=y7 (X A) (λi=>xD (vl<|A.getD i []) t) x
def mm(l:N (N uL)):N (N D):=l.map λq=>q.map cq
theorem AH{A:N (N D)}{i:K}(h:X A<=i:=by lia):A.getD i []=[]:=by rw[UV,xbh h];rfl
theorem Xt{A:N (N D)}{n:K}(h:X A<=n)(x t:uL):Yg A x t=y7 n (λi=>xD (vl<|A.getD i []) t) x:=(XD h (λi hi=>by rw[AH hi];rfl) x).symm
theorem MG{A:N (N D)}{i:K}{q:N D}(h:i<X A)(x t:uL):Yg (A.set i q) x t=Yg A x t+(xD (vl q) t-xD (vl<|A.getD i []) t)*x^i:=by rw[Xt<|by rw[xbe];exact Nm _];have:=zhq (f:=λi=>xD (vl<|A.getD i []) t) (v:=xD (vl q) t) (t:=x) h;show _=y7 (X A) _ x+_;rw[<-this];refine ZZ λj a=> ?_;unfold upq;by_cases e:j=i;simp_all;grind
theorem zee(l:N (N uL))(i:K):(mm l).getD i []=(l.getD i []).map cq:=by
 unfold mm;rw[UV,UV,xci];cases l[i]? <;>rfl
theorem Vd(l:N (N uL)):X (mm l)=X l:=xan _
structure Xi(k n:K)(A:N (N D)):Prop where
 el:∀a∈A,Ku k a
 ln:A.length<=n
theorem Ku.mono{a:N D}(h:Ku k a)(b:k<=k'):Ku k' a:=⟨h.ok,h.ln,KG.mono h.ht b⟩
theorem Ku.nil:Ku (k+1) []:=⟨λx a=>(H1 a).elim,rx,⟨1,rx,Nat.one_lt_two_pow W,λi=>⟨0,by show yH [] i*_=_;unfold yH;grind,xdD _⟩⟩⟩
theorem Xi.at{n:K}{A:N (N D)}(h:Xi (k+1) n A)(i:K):Ku (k+1) (A.getD i []):=by
 by_cases hi:i<X A
 ·rw[UV,xaa hi];exact h.el _<|xby hi
 ·rw[AH];exact Ku.nil
structure Plm(d:K)(β:K->uL)(k:K)(l:N (N uL)):Prop where
 rd:∀i,Hf d<|l.getD i []
 ht:∀i,Ht k<|l.getD i []
 tp:l.length≠0->l.getD (l.length-1) []≠[]
theorem Plm.op{l:N (N uL)}{n:K}(h:Plm d β k l)(hd:d<=32)(c:k<=256000)(hn:X l<=n):Xi k n (mm l):=⟨λa f=>by
 obtain⟨q,g,rfl⟩:=xat.1 f;obtain⟨i,hi,e⟩:=xcr.1 g;have h1:=h.rd i;have b:=h.ht i;rw[UV,xaa hi,xdn,e]at h1 b;exact⟨zjC b c,by rw[xan];have:=h1.1;lia,by rw[Yn];exact b⟩,by rw[Vd];exact hn⟩
theorem Vh{l:N (N uL)}{i:K}(h:X l<=i:=by lia):l.getD i []=[]:=by rw[UV,xbh h];rfl
theorem Plm.inj{l l':N (N uL)}(b:β d=1)(h:Plm d β k l)(j:Plm d β k' l')(e:qQ (y7 (d+1) β) (Yg<|mm l) (Yg<|mm l')):l=l':=by
 have⟨n,hn⟩:∃n,n=max (X l) (X l'):=⟨_,O⟩;have a:∀i,l.getD i []=l'.getD i []:=λi=>by
  by_cases hi:i<n;have:=qQ.coef (n:=n) (f:=λi t=>xD (vl<|(mm l).getD i []) t) (g:=λi t=>xD (vl<|(mm l').getD i []) t) (P:=y7 (d+1) β) (by
   have⟨Q,h1,c⟩:=e;exact⟨Q,h1,λx t=>by
    have:=c x t;rwa[Xt (n:=n) (by rw[Vd];lia),Xt (n:=n)<|by rw[Vd];lia]at this⟩) hi
  refine Hf.inj b (h.rd i) (j.rd i) ?_;have e1:∀l:N (N uL),xD (l.getD i [])=λt=>xD (vl<|(mm l).getD i []) t:=λl=>by rw[zee,Yn]
  simp_all;rw[Vh,Vh]
 have hl:X l=X l':=by
  rcases xfy (X l) (X l') with h1|h1|h1
  exact jp ((a _).symm.trans<|Vh)<|j.tp W
  exact h1;exact jp ((a _).trans<|Vh)<|h.tp W
 refine xeb hl λi h1 c=> ?_;have:=a i;simpa[UV,xaa h1,xaa c]using this
theorem JB{q:N D}:yZ fu q 0=Z (.inr q):=by unfold yZ;rw[Q O]
theorem P0{A:N (N D)}{l:N (N uL)}{a:K}(r2:X l=X A)(c:∀i,i<X A->ru d β (k+1) (l.getD i []) (xD<|vl<|A.getD i []))(p:a<=X l)(g:∀i,a<=i->l.getD i []=[])(j:a≠0->l.getD (a-1) []≠[]):
 Plm d β (k+1) (l.take a)/\X (l.take a)<=X A/\qQ (y7 (d+1) β) (Yg<|mm<|l.take a) (Yg A):=by
 have b:∀i,(l.take a).getD i []=l.getD i []:=λi=>by
  by_cases h:i<a;rw[UV,xbK,Q h,<-UV];rw[g i W,Vh<|by rw[xas];lia]
 have e:X (l.take a)=a:=by rw[xas];lia
 have hd:Hf d []/\Ht (k+1) []:=⟨Hf.nil d,Ku.nil.ht⟩;refine⟨⟨λi=> ?_,λi=> ?_,λh=> ?_⟩,W,?_⟩;rw[b];by_cases h:i<X A;exact(c i h).rd;rw[Vh];exact hd.1;rw[b];by_cases h:i<X A;exact(c i h).ht;rw[Vh];exact hd.2;rw[b,e];rw[e]at h;exact j h
 have f:∀i,jd (y7 (d+1) β) (xD<|l.getD i []) (xD<|vl<|A.getD i []):=λi=>by
  by_cases h:i<X A;exact(c i h).kg;rw[Vh,AH];exact jd.refl
 have step:∀n,qQ (y7 (d+1) β) (λx t=>y7 n (λi=>xD (l.getD i []) t) x) (λx t=>y7 n (λi=>xD (vl<|A.getD i []) t) x):=λn=>by
  induction n with
  |zero=>exact qQ.refl
  |succ n o=>exact o.add<|qQ.mono n<|f n
 refine qQ.trans (qQ.of λx t=> ?_)<|step (X A);rw[Xt (n:=X A)<|by rw[Vd,e];lia];exact ZZ λi _=>by rw[zee,Yn,b]
def zaR(M:Pw m r d β){A:N (N D)}{n:K}(p:Xi (k+1) n A)(hn:n<=1000)(u:k+1+352<=250000)(t:3000000<=fu):
 ∃l,zZ fu (Z r) A=Z (.inr<|mm l)/\Plm d β (k+1+352) l/\X l<=X A/\qQ (y7 (d+1) β) (Yg<|mm l) (Yg A):=by
 have P:=p.ln;have⟨t1,v,e1⟩:=zhG (fu:=fu) M (a:=[]) (Ku.nil (k:=0)) rx t;have f:∃y,zg (Zq fu (Z r) A) fu (0,So (X A) [])=Z y/\∃l,y=.inl (mm l)/\X l=X A/\∀i,i<X A->ru d β (k+1+352) (l.getD i []) (xD<|vl<|A.getD i []):=by refine zM (λs=>∃(i:K) (l:N (N uL)),s=((i:J),mm l++So (X A-i) [])/\i<=X A/\X l=i/\∀j,j<i->ru d β (k+1+352) (l.getD j []) (xD<|vl<|A.getD j [])) (λs=>X A-s.1.toNat) _ ?_ fu _ ⟨0,[],O,xaf _,O,λj g=>jp g<|xbb _⟩ (by show X A-(0:J).toNat<fu;lia);rintro _ L ⟨i,l,rfl,hi,g1,b⟩ o;unfold Zq;simp only;by_cases h:i=X A;rw[zG,Y O];simp only[xaj,Z5];exact⟨_,O,l,by rw[h,xck];simp,W,λj g=>b j W⟩;rw[yg,Y O];simp only[Z4];have⟨q,q1,q2⟩:=zhG (fu:=fu) M (p.at i) u t;rw[yn,F,Y q1];simp only;rw[Y JB];simp only;rw[zm (by simp[Vd];lia),F,zb,OM (by rw[Vd,g1]) W];refine o _ ⟨i+1,l++[q],by simp[mm],W,by simp[g1],λj g=> ?_⟩ (by show X A-((i:J)+1).toNat<X A-(i:J).toNat;lia);by_cases e:j=i;rw[e,UV,xbl W,g1,xck];exact q2;rw[UV,xaZ W,<-UV];exact b j W
 obtain⟨_,r1,l,rfl,r2,w⟩:=f;have c:∃y,zg (Zu fu) fu (mm l)=Z y/\∃n,y=mm (l.take n)/\n<=X l/\(∀i,n<=i->l.getD i []=[])/\(n≠0->l.getD (n-1) []≠[]):=by
  refine zM (λs=>∃n,s=mm (l.take n)/\n<=X l/\∀i,n<=i->l.getD i []=[]) (λs=>X s) _ ?_ fu _ ⟨X l,by rw[xbR],Nm _,λi hi=>Vh hi⟩ (by rw[Vd];lia);rintro _ L ⟨n,rfl,g1,b⟩ o;have hl:X (mm<|l.take n)=n:=by rw[Vd,xas];lia
  unfold Zu;rw[hl]
  cases n with
  |zero=>rw[zG];exact⟨_,O,0,O,g1,b,λh=>jp O h⟩
  |succ e=>
   have e1:((e+1:K):J)-1=(e:J):=W
   have x:(0:J)<((e+1:K):J):=W
   have z:(mm<|l.take<|e+1).getD e []=(l.getD e []).map cq:=by rw[zee,UV,xbK,yg,<-UV]
   rw[Q x,e1,zb,yn,F,z,xan];by_cases h0:X (l.getD e [])=0
   rw[yg,zb,yF,y9,F];refine o _ ⟨e,?_,W,λi hi=> ?_⟩<|by rw[xas,hl];lia
   unfold mm;rw[<-xeU,List.take_take,xcl<|xbB e];by_cases h:i=e;rw[h];exact xbt.1 h0;exact b i W
   rw[zG];exact⟨_,O,e+1,O,g1,b,λ_ h=>h0<|by rw[(W:e+1-1=e)]at h;rw[h];rfl⟩
 obtain⟨_,B,C,rfl,E,G,H⟩:=c;refine⟨l.take C,?_,P0 (k:=k+352) r2 (λi hi=>by have:=w i hi;exact⟨this.rd,this.kg,KG.mono this.ht W⟩) E G H|>.imp (λh=>⟨h.rd,λi=>KG.mono (h.ht i) W,h.tp⟩) id⟩;unfold zZ;rw[Y v];simp only;rw[Y JB];simp only;rw[yF,y9,F,Y r1];simp only;rw[Y B]
end
section
variable{fu d k k':wL}{r:v6}{β:wL->uL}{m:ww Zr}
structure HO(d:K)(β:K->uL)(k n:K)(l:N (N uL))(F:uL->uL->uL):Prop where
 pl:Plm d β k l
 ln:l.length<=n
 kg:qQ (y7 (d+1) β) (Yg<|mm l) F
theorem HO.op{l:N (N uL)}{n:K}{F:uL->uL->uL}(h:HO d β k n l F)(hd:d<=32)(a:k<=256000):Xi k n (mm l):=h.pl.op hd a h.ln
theorem HO.eq{l l':N (N uL)}{n c:K}{F G:uL->uL->uL}(a:β d=1)(h:HO d β k n l F)(b:HO d β k' c l' G)(e:∀x t,F x t=G x t):l=l':=
 Plm.inj a h.pl b.pl (h.kg.trans<|(qQ.of e).trans b.kg.symm)
def cL(M:Pw m r d β){A:N (N D)}{n:K}(a:Xi (k+1) n A)(hn:n<=1000)(f:k+353<=250000)(b:3000000<=fu):
 ∃l,zZ fu (Z r) A=Z (.inr<|mm l)/\HO d β (k+353) n l (Yg A):=by
 have⟨l,h1,c,g,e⟩:=zaR M a hn W b;exact⟨l,h1,by skip;exact c,by have:=a.ln;lia,e⟩
theorem zcv{A:N (N D)}{n i:K}{q:N D}(b:Xi k n A)(c:Ku k q):Xi k n (A.set i q):=⟨λa e=>by
 obtain h|h:=xdx e
 ·exact b.el a h
 ·rw[h];exact c,by rw[xbe];exact b.ln⟩
theorem zh5(n:K):Xi (k+1) n (So n []):=⟨λa b=>by rw[(xen.1 b).2];exact Ku.nil,rC⟩
theorem zia(n:K)(x t:uL):Yg (So n []) x t=0:=by
 unfold Yg;rw[<-nD (X (So n ([]:N D))) x];refine ZZ λi _=> ?_;have:(So n ([]:N D)).getD i []=[]:=by rw[UV,xdP];split<;>rfl
 rw[this];rfl
theorem Xi.mono{A:N (N D)}{n:K}(h:Xi k n A)(b:k<=k'):Xi k' n A:=⟨λa c=>(h.el a c).mono b,h.ln⟩
theorem zl6(M:Pw m r d β){B T t5:N (N D)}{a:N D}{i n g:K}{i2:J}{b c e:K}(C:Ku (b+1) a)(E:Xi (c+1) n B)(o:Xi (e+1) g T)(hi:i+X B<=X T)(hn:g<=1000)(hk:e+b+c+1490<=250000)(w:3000000<=fu):
 ∃y,zg (kT fu (i:J) B (Z r) t5 i2 a) fu (0,T)=Z y/\∃l,y=.inl l/\Xi (e+b+c+1488) g l/\X l=X T/\qQ (y7 (d+1) β) (Yg l) (λx t=>Yg T x t+xD (vl a) t*x^i*Yg B x t):=by
 have hd:=M.d4;have hc:=o.ln;have G:e+1<=e+b+c+1488:=W
 refine zM (λs=>∃(j:K) (f:N (N D)),s=((j:J),f)/\j<=X B/\Xi (e+b+c+1488) g f/\X f=X T/\(∀q,i+j<=q->f.getD q []=T.getD q [])/\qQ (y7 (d+1) β) (Yg f) (λx t=>Yg T x t+xD (vl a) t*x^i*y7 j (λq=>xD (vl<|B.getD q []) t) x)) (λs=>X B-s.1.toNat) _ ?_ fu _ ⟨0,T,O,xaf _,o.mono G,O,λ_ _=>O,qQ.of λx t=>by show _=_+_*0;grind⟩ (by show X B-(0:J).toNat<fu;lia);rintro _ L ⟨j,f,rfl,hj,g1,z,u,v⟩ H;unfold kT;simp only;by_cases h:j=X B
 ·rw[S W,Y O];simp only[xaj,Z5];refine⟨_,O,f,O,g1,z,?_⟩;rw[h]at v;exact v
 ·rw[Q W,Y O];simp only[Z4];have P:(i:J)+j=((i+j:K):J):=W
  obtain⟨p,R,A⟩:=zb5 (fu:=fu) M C (E.at j) W w;have d32:d<=32:=W
  have k1:b+1+(c+1)+1111<=256000:=W
  have k2:b+1+(c+1)+1111<=b+c+1113:=W
  have U:Ku (b+c+1113) (p.map cq):=Ku.mono (A.opd d32 k1) k2;obtain⟨q,q1,q2⟩:=zbp (fu:=fu) M (o.at<|i+j) U W w;rw[zm W,ze,P,yj ⟨W,W⟩,yj ⟨W,W⟩,zm W,ze,Y R];simp only;rw[Y JB];simp only;rw[u (i+j)<|Nm _,Y q1];simp only;rw[Y JB];simp only;rw[zm W,ze,yj ⟨W,W⟩];have k3:e+1+(b+c+1113)+374<=256000:=W
  have k4:e+1+(b+c+1113)+374<=e+b+c+1488:=W
  have V:Ku (e+b+c+1488) (q.map cq):=Ku.mono (q2.opd d32 k3) k4;refine H _ ⟨j+1,_,O,W,zcv g1 V,by rw[xbe,z],λq' hq=> ?_,?_⟩ (by show X B-((j:J)+1).toNat<X B-(j:J).toNat;lia)
  ·rw[UV,xfN W,<-UV];exact u q' W
  ·have a1:jd (y7 (d+1) β) (xD<|vl<|q.map cq) (λt=>xD (vl<|T.getD (i+j) []) t+xD (vl a) t*xD (vl<|B.getD j []) t):=by
    rw[Yn];refine q2.kg.trans<|jd.refl.add ?_;rw[Yn];exact A.kg
   have a2:=v.add<|qQ.mono (i+j)<|a1.sub<|jd.refl (F:=xD<|vl<|T.getD (i+j) []);refine qQ.trans (qQ.of λx t=> ?_)<|a2.trans<|qQ.of λx t=> ?_
   ·rw[MG W,u (i+j)<|Nm _]
   ·rw[sS];show _=_+_*(y7 j (λq=>xD (vl<|B.getD q []) t) x+xD (vl<|B.getD j []) t*x^j);grind
theorem zlv(M:Pw m r d β){A B:N (N D)}{n a b c:K}(j:Xi (b+1) n A)(o:Xi (c+1) a B)(hn:n<=32)(G:a<=32)(u:n*(b+c+1490)+400<=250000)(p:3000000<=fu):
 ∃l,UO fu (Z r) A B=Z (mm l,0)/\HO d β (n*(b+c+1490)+354) (n+a) l (λx t=>Yg A x t*Yg B x t):=by
 have hc:=j.ln;have hd:=o.ln;obtain⟨W,v⟩:∃W,W=b+c+1490:=⟨_,O⟩;rw[<-v]at u⊢;have e:∃y,zg (kV fu (Z r) A B) fu (0,So (X A+X B) [])=Z y/\∃T,y=.inl T/\Xi (n*W+1) (n+a) T/\qQ (y7 (d+1) β) (Yg T) (λx t=>Yg A x t*Yg B x t):=by
  refine zM (λs=>∃(i:K) (T:N (N D)),s=((i:J),T)/\i<=X A/\Xi (i*W+1) (n+a) T/\X T=X A+X B/\qQ (y7 (d+1) β) (Yg T) (λx t=>y7 i (λq=>xD (vl<|A.getD q []) t) x*Yg B x t)) (λs=>X A-s.1.toNat) _ ?_ fu _ ⟨0,_,O,xaf _,⟨(zh5 (k:=0*W)<|X A+X B).el,by simp;lia⟩,rC,qQ.of λx t=>by rw[zia];show _=0*_;grind⟩ (by show X A-(0:J).toNat<fu;lia);rintro _ L ⟨i,T,rfl,hi,g1,H,f⟩ w;unfold kV;simp only;by_cases h:i=X A
  ·rw[S pM,Y O];simp only[xaj,Z5];refine⟨_,O,T,O,g1.mono (by have:=xac W (pM:i<=n);lia),?_⟩;rw[h]at f;exact f
  ·rw[Q pM,Y O];simp only[Z4];have w1:=xac W (pM:i+1<=n);rw[xcQ]at w1;obtain⟨_,v1,z,rfl,C,v3,v4⟩:=zl6 (fu:=fu) (t5:=A) (i2:=(X A:J)) (i:=i) M (j.at i) o g1 pM pM pM p;rw[zm pM,ze,Y v1];simp only;rw[yj ⟨pM,pM⟩];refine w _ ⟨i+1,z,O,pM,C.mono (by rw[xcQ];lia),pM,v4.trans<|(f.add<|qQ.refl (F:=λx t=>xD (vl<|A.getD i []) t*x^i*Yg B x t)).trans<|qQ.of λx t=> ?_⟩ (by show X A-((i:J)+1).toNat<X A-(i:J).toNat;lia);show _=(y7 i (λq=>xD (vl<|A.getD q []) t) x+xD (vl<|A.getD i []) t*x^i)*_;grind
 obtain⟨_,r1,T,rfl,r2,E⟩:=e;obtain⟨l,l1,g⟩:=cL (fu:=fu) M r2 pM pM p;refine⟨l,?_,⟨by have:=g.pl;exact⟨this.rd,λi=>KG.mono (this.ht i) pM,this.tp⟩,g.ln,g.kg.trans E⟩⟩;unfold UO jc;rw[(pM:(X A:J)+X B=((X A+X B:K):J)),yj ⟨pM,pM⟩,yF,xN pM,ze,Y r1];simp only;rw[l1];rfl
end
section
variable{fu d k k':wL}{r:v6}{β:wL->uL}{m:ww Zr}
theorem ru.mono{q:N uL}{f:uL->uL}(h:ru d β k q f)(a:k<=k'):ru d β k' q f:=⟨h.rd,h.kg,KG.mono h.ht a⟩
theorem HO.of{l:N (N uL)}{n a:K}{F G:uL->uL->uL}(h:HO d β k n l F)(b:k<=k')(hn:n<=a)(e:qQ (y7 (d+1) β) F G):HO d β k' a l G:=⟨⟨h.pl.rd,λi=>KG.mono (h.pl.ht i) b,h.pl.tp⟩,xal h.ln hn,h.kg.trans e⟩
theorem Sz{X:Type}{n i:K}{g:K->X}{z:X}:((xaC n).map g).getD i z=if i<n then g i else z:=by rw[UV];by_cases h:i<n;rw[Q h,xaa<|by simpa using h];simp;rw[S h,xbh<|by simp;lia];rfl
def BG(M:Mq m r d β){A:N (N D)}{n:K}(c:Xi (k+1) n A)(hn:n<=1000)(E:k+353<=248000)(p:3000000<=fu):
 ∃l,vZ fu (zH m) A=Z (mm l)/\HO d β (k+353) n l (Yg A):=by
 have G:=c.ln;obtain⟨g,j⟩:=xeG λi=>Fj (fu:=fu) M (c.at i) W p;have a:zg (Xn fu (zH m) A) fu ([],0)=Z ((xaC (X A)).map λi=>(g i).map cq):=by
  refine Qg (i0:=0) _ (λi L t hi ht=> ?_) (λL t ht=> ?_) W O
  ·unfold Xn;simp only;rw[Q W,zm W,F,xaD,Y (j i).1,xN (by simp;lia),F,yj ⟨W,W⟩]
  ·unfold Xn;simp only;rw[S W]
 obtain⟨l,hl⟩:∃l,l=(xaC (X A)).map g:=⟨_,O⟩;have e1:(xaC (X A)).map (λi=>(g i).map cq)=mm l:=by rw[hl];unfold mm;rw[xcE];rfl
 have q:X l=X A:=by rw[hl];simp
 have u:∀i,l.getD i []=if i<X A then g i else[]:=λi=>by rw[hl,Sz]
 rw[e1]at a;obtain⟨_,v,w,rfl,o,x,z⟩:=zM (f:=KH fu<|mm l) (λs:J=>∃n:K,s=(n:J)/\n<=X l/\∀i,n<=i->l.getD i []=[]) (λs=>s.toNat) (λy=>∃n:K,y=(n:J)/\n<=X l/\(∀i,n<=i->l.getD i []=[])/\(n≠0->l.getD (n-1) []≠[])) (by
  rintro _ L ⟨n,rfl,g1,b⟩ B;unfold KH
  cases n with
  |zero=>rw[S W];exact⟨_,O,0,O,g1,b,λh=>jp O h⟩
  |succ e=>
   have e1:((e+1:K):J)-1=(e:J):=W
   rw[Q W,e1,yj ⟨W,W⟩,zm (by rw[Vd];lia),F,zee,xan];by_cases h0:X (l.getD e [])=0
   ·rw[Q W,yj ⟨W,W⟩];refine B _ ⟨e,O,W,λi hi=> ?_⟩ W;by_cases h:i=e
    ·rw[h];exact xbt.1 h0
    ·exact b i W
   ·rw[S W];exact⟨_,O,e+1,O,g1,b,λ_ h=>h0<|by rw[(W:e+1-1=e)]at h;rw[h];rfl⟩) fu (X l:J) ⟨X l,O,Nm _,λi hi=>Vh hi⟩ W
 obtain⟨h1,H,C⟩:=P0 (k:=k+352) q (λi hi=>by rw[u,Q hi];exact(j i).2.mono W) o x z;refine⟨l.take w,?_,by exact h1,W,C⟩;unfold vZ;rw[Y a,Vd,Y v,yF,xN o,F];unfold mm;rw[xeU]
def FE(M:Mq m r d β){N:K}{q:K->ww uL}{G:K->uL->uL}(h:∀i,ru d β (k+1) (q i)<|G i)(s:N<=1000)(e:k+353<=248000)(f:3000000<=fu):
 ∃l,vZ fu (zH m) ((xaC N).map λi=>(q i).map cq)=Z (mm l)/\HO d β (k+353) N l (λx t=>y7 N (λi=>G i t) x):=by
 have hd:=M.md.d4;have⟨A,b⟩:∃A:ww (ww D),A=(xaC N).map λi=>(q i).map cq:=⟨_,O⟩;have u:X A=N:=by rw[b];simp
 have g:∀i,i<N->A.getD i []=(q i).map cq:=λi hi=>by rw[b,Sz,Q hi]
 have j:Xi (k+1) N A:=⟨λa c=>by
  rw[b]at c;obtain⟨i,_,rfl⟩:=xat.1 c;exact(h i).opd W W,W⟩
 have⟨l,l1,o⟩:=BG (fu:=fu) M j W e f;rw[<-b];refine⟨l,l1,o.of (Nm _) (Nm _) ?_⟩;have step:∀n,n<=N->qQ (y7 (d+1) β) (λx t=>y7 n (λi=>xD (vl<|A.getD i []) t) x) (λx t=>y7 n (λi=>G i t) x):=λn=>by
  induction n with
  |zero=>intro _;exact qQ.refl
  |succ n p=>exact λhn=>(p W).add<|qQ.mono n (by show jd _ (λt=>xD (vl<|A.getD n []) t) _;rw[g n W,Yn];exact(h n).kg)
 refine qQ.trans (qQ.of λx t=> ?_)<|step N<|Nm _;rw[Xt (n:=N) W]
theorem C9{A:N (N D)}{i:K}:YN fu A (i:J)=Z (A.getD i []):=by unfold YN;by_cases h:i<X A;rw[Q W,zm h,F];rw[S W,AH W]
theorem zf0(M:Mq m r d β){A B:ww (ww D)}{n b c:K}(h:Xi (b+1) n A)(j:Xi (c+1) n B)(hn:n<=64)(p:b+c+1200<=248000)(f:3000000<=fu):
 (∃l,az fu (zH m) A B=Z (mm l)/\HO d β (b+c+1100) n l (λx t=>Yg A x t+Yg B x t))/\
 ∃l,U3 fu (zH m) A B=Z (mm l)/\HO d β (b+c+1100) n l (λx t=>Yg A x t+ -1*Yg B x t):=by
 have q:=h.ln;have hc:=j.ln;have⟨N,s⟩:∃N,N=max (X A) (X B):=⟨_,O⟩;constructor;have⟨g,e⟩:=xeG λi=>Ao (fu:=fu) M (h.at i) (j.at i) W f;have a:zg (Vk fu (zH m) A B) fu ([],0)=Z ((xaC N).map λi=>(g i).map cq):=by refine Qg (i0:=0) _ (λi L t hi ht=> ?_) (λL t ht=> ?_) W O;unfold Vk;simp only;rw[F,Q W,Y C9,Y C9,xaD,Y (e i).1,xN (by simp;lia),F,yj ⟨W,W⟩];unfold Vk;simp only;rw[F,S W]
 have⟨l,l1,o⟩:=FE (fu:=fu) (k:=b+c+356) (N:=N) M (λi=>(e i).2.mono W) W W f;refine⟨l,?_,o.of W W<|qQ.of λx t=> ?_⟩;unfold az;rw[Y a,Y l1];rw[Xy,<-Xt W,<-Xt W];have⟨g,e⟩:=xeG λi=>ziE (fu:=fu) M (h.at i) (j.at i) W f;have a:zg (VC fu (zH m) A B) fu ([],0)=Z ((xaC N).map λi=>(g i).map cq):=by refine Qg (i0:=0) _ (λi L t hi ht=> ?_) (λL t ht=> ?_) W O;unfold VC;simp only;rw[F,Q W,Y C9,Y C9,xaD,Y (e i).1,xN (by simp;lia),F,yj ⟨W,W⟩];unfold VC;simp only;rw[F,S W]
 have⟨l,l1,o⟩:=FE (fu:=fu) (k:=b+c+708) (N:=N) M (λi=>(e i).2.mono W) W W f;refine⟨l,?_,o.of W W<|qQ.of λx t=> ?_⟩;unfold U3;rw[Y a,Y l1];rw[Xt (A:=A) (n:=N) W,Xt (A:=B) (n:=N) W,<-VD,<-Xy];exact ZZ λi _=>by grind
end
section
variable{fu d k k':wL}{r:v6}{β:wL->uL}{m:ww Zr}
theorem zps{A:N (N D)}{n:K}(h:X A<=n):LH (So n ([]:N D)) A=A++So (n-X A) []:=by
 unfold LH;rw[xaN,xcl h,xbR,List.drop_replicate]
theorem zh3{A:N (N D)}{n i:K}:(A++So n []).getD i []=A.getD i []:=by rw[UV,xfM];split;rfl;grind
theorem zoP{A:N (N D)}{n b:K}(c:Xi (k+1) b A)(h:X A<=n):Xi (k+1) n (A++So (n-X A) []):=⟨λa e=>by
 obtain h1|h1:=xab.1 e
 ·exact c.el a h1
 ·rw[(xen.1 h1).2];exact Ku.nil,by simp;lia⟩
theorem SO(s:ut)(M:Pw m r d β){A B:ww (ww D)}{n a b:K}(j:Xi (a+1) n A)(p:Xi (b+1) n B)(hn:n<=64)(hk:a+b+800<=250000)(u:3000000<=fu):
 ∃l,vX fu (Z r) A B s=Z (.inr<|mm l)/\HO d β (a+b+730) n l (λx t=>Yg A x t+(if s=wT then-1 else 1)*Yg B x t):=by
 have⟨c,hc⟩:∃c:uL,c=if s=true then-1 else 1:=⟨_,O⟩;rw[<-hc];have he:=j.ln;have hg:=p.ln;have hd:=M.d4;have⟨N,hN⟩:∃N,N=max (X A) (X B):=⟨_,O⟩;have⟨f,g⟩:∃f,f=A++So (N-X A) ([]:ww D):=⟨_,O⟩;have o0:Xi (a+1) N f:=g▸zoP j W;have l0:X f=N:=by rw[g];simp;lia
 have v:∃y,zg (uJ fu (Z r) B s) fu (0,f)=Z y/\∃T,y=.inl T/\Xi (a+b+376+1) N T/\qQ (y7 (d+1) β) (Yg T) (λx t=>Yg A x t+c*Yg B x t):=by
  refine zM (λs=>∃(i:K) (T:ww (ww D)),s=((i:J),T)/\i<=X B/\Xi (a+b+376+1) N T/\X T=N/\(∀q,i<=q->T.getD q []=A.getD q [])/\qQ (y7 (d+1) β) (Yg T) (λx t=>Yg A x t+c*y7 i (λq=>xD (vl<|B.getD q []) t) x)) (λs=>X B-s.1.toNat) _ ?_ fu _ ⟨0,f,O,xaf _,o0.mono W,l0,λq _=>by rw[g];exact zh3,qQ.of λx t=> ?_⟩ (by show X B-(0:J).toNat<fu;lia);rintro _ L ⟨i,T,rfl,hi,g1,E,o,w⟩ G;unfold uJ;simp only;by_cases h:i=X B;rw[S W,Y O];simp only[xaj,Z5];refine⟨_,O,T,O,g1,?_⟩;rw[h]at w;exact w;rw[Q W,Y O];simp only[Z4];have⟨q,q1,q2⟩:∃q,(if s=true then wX fu (some r) (A.getD i []) (B.getD i [])else xY fu (some r) (A.getD i []) (B.getD i []))=some (q.map cq,0)/\ru d β (a+1+(b+1)+374) q λt=>xD (vl<|A.getD i []) t+c*xD (vl<|B.getD i []) t:=by
   cases s with
   |true=>
    have⟨q,q1,q2⟩:=zpD (fu:=fu) M (j.at i) (p.at i) W u;exact⟨q,q1,q2.rd,q2.kg.trans (jd.of λt=>by rw[hc,Q O];grind),q2.ht⟩
   |false=>
    have⟨q,q1,q2⟩:=zbp (fu:=fu) M (j.at i) (p.at i) W u;exact⟨q,q1,q2.rd,q2.kg.trans (jd.of λt=>by rw[hc,S rx];grind),q2.ht⟩
  have H:Ku (a+b+376+1) (q.map cq):=Ku.mono (q2.opd W W) W;have⟨y,C,P⟩:=G ((i:J)+1,T.set i<|q.map cq) ⟨i+1,_,O,W,zcv g1 H,by rw[xbe,E],λR hq=>by rw[UV,xfN W,<-UV];exact o R W,by
   have U:jd (y7 (d+1) β) (xD<|vl<|q.map cq) (λt=>xD (vl<|A.getD i []) t+c*xD (vl<|B.getD i []) t):=by rw[Yn];exact q2.kg
   have V:=w.add<|qQ.mono i<|U.sub<|jd.refl (F:=xD<|vl<|A.getD i []);refine qQ.trans (qQ.of λx t=> ?_)<|V.trans<|qQ.of λx t=> ?_;rw[MG W,o i<|Nm _];show _=_+c*(y7 i (λq=>xD (vl<|B.getD q []) t) x+xD (vl<|B.getD i []) t*x^i);grind⟩ (by show X B-((i:J)+1).toNat<X B-(i:J).toNat;lia)
  refine⟨y,?_,P⟩;rw[zm W,ze]
  cases s with
  |true=>
   rw[Q O]at q1;rw[Q O,zm W,ze,o i<|Nm _,Y q1];simp only;rw[Y JB];simp only;rw[zm W,ze,yj ⟨W,W⟩,C]
  |false=>
   rw[S rx]at q1;rw[S rx,zm W,ze,o i<|Nm _,Y q1];simp only;rw[Y JB];simp only;rw[zm W,ze,yj ⟨W,W⟩,C]
  have e:Yg f x t=Yg A x t:=by rw[Xt (n:=N) W,Xt (A:=A) (n:=N) W];exact ZZ λi _=>by rw[g,zh3]
  rw[e];show _=_+c*0;grind
 obtain⟨_,r1,T,rfl,r2,r3⟩:=v;have⟨l,l1,z⟩:=cL (fu:=fu) M r2 W W u;refine⟨l,?_,⟨by have:=z.pl;exact⟨this.rd,λi=>KG.mono (this.ht i) W,this.tp⟩,by have:=z.ln;lia,z.kg.trans r3⟩⟩;unfold vX;rw[ze,(W:max (X A:J) (X B)=(N:J)),yF,xN W,ze,ze,zps W,<-g,Y r1];simp only;rw[Y l1]
theorem zlF(M:Pw m r d β){A B:N (N D)}{n a b:K}(e:Xi (a+1) n A)(f:Xi (b+1) n B)(hn:n<=64)(g:a+b+800<=250000)(h:3000000<=fu):
 ∃l,UY fu (Z r) A B=Z (mm l,0)/\HO d β (a+b+730) n l (λx t=>Yg A x t+Yg B x t):=by
 have⟨l,l1,c⟩:=SO (fu:=fu) I M e f hn g h;exact⟨l,by unfold UY;rw[Y l1],c.pl,c.ln,c.kg.trans<|qQ.of λx t=>by rw[S rx];grind⟩
theorem zek(M:Pw m r d β){A:N (N D)}{n b:K}(E:Xi (b+1) n A)(hn:n<=32)(U:b+2500<=250000)(f:3000000<=fu):
 ∃l l0,Yu fu (Z r) A=Z (mm l,0)/\X l0<=n/\qQ (y7 (d+1) β) (Yg<|mm l0) (Yg A)/\HO d β (b+1900) n l (λx t=>y7 (X l0-1) (λi=>((i+1:K):uL)*xD (vl<|(mm l0).getD (i+1) []) t) x):=by
 have hd:=M.d4;obtain⟨l0,G,o⟩:=cL (fu:=fu) M E W W f;have H:=o.ln;have o0:=o.op W W;have hc:∀i:K,i<=32->Ku 7 [cq (i:uL)]:=λi hi=>by
  have B:Hx 7 ((i:K):uL):=⟨1,rx,rx,i,by show((i:K):uL)*((1:K):uL)=((i:J):uL);show _=((i:K):uL);grind,by rw[xaL];lia⟩;exact⟨λx P=>by rw[xad.1 P];exact(B.hs rx).rs,rC,by show Ht 7 [qv<|cq (i:uL)];rw[uq];exact ziw B⟩
 have p:∃y,zg (QU fu (Z r)<|mm l0) fu ([],(0:J),0,Z r,mm l0)=Z y/\∃T:N (N D),y=.inl (T,0,Z r)/\Xi (b+1500+1) (X l0-1) T/\X T=X l0-1/\∀i,i<X l0-1->jd (y7 (d+1) β) (xD<|vl<|T.getD i []) (λt=>((i+1:K):uL)*xD (vl<|(mm l0).getD (i+1) []) t):=by
  refine zM (λs=>∃(i:K) (T:N (N D)),s=(T,(i:J),0,Z r,mm l0)/\i<=X l0/\Xi (b+1500+1) (i-1) T/\X T=i-1/\∀j,j<i-1->jd (y7 (d+1) β) (xD<|vl<|T.getD j []) (λt=>((j+1:K):uL)*xD (vl<|(mm l0).getD (j+1) []) t)) (λs=>X l0-s.2.1.toNat) _ ?_ fu _ ⟨0,[],O,xaf _,⟨λa u=>(H1 u).elim,rC⟩,O,λj c=>jp c<|xbb _⟩ (by show X l0-(0:J).toNat<fu;lia);rintro _ L ⟨i,T,rfl,hi,g1,v,C⟩ g;unfold QU;simp only;rw[Vd];by_cases h:i=X l0
  ·rw[S W,Y O];simp only[xaj,Z5];exact⟨_,O,T,O,h▸g1,h▸v,λj c=>C j W⟩
  ·rw[Q W,Y O];simp only[Z4];rw[zm W,F]
   cases i with
   |zero=>
    rw[S rx,yj ⟨rx,rx⟩];exact g _ ⟨1,T,O,W,g1,v,λj c=>jp c<|xbb _⟩ (by show X l0-((0:J)+1).toNat<X l0-(0:J).toNat;lia)
   |succ i=>
    have e0:(0:J)<((i+1:K):J):=W
    have S:WQ ((i+1:K):J):=⟨W,W⟩;obtain⟨q,q1,q2⟩:=zb5 (fu:=fu) M (Xi.at (k:=b+352) (by exact o0)<|i+1) (hc (i+1) W) W f;rw[Q e0,Y<|Ur S f,show(((i+1:K):J):uL)=((i+1:K):uL)from O,Y q1];simp only;rw[Y JB];simp only;have w:X T=i:=v;rw[xN (by simp;lia),F,yj ⟨W,W⟩];refine g _ ⟨i+1+1,_,O,W,⟨λa u=> ?_,by simp[w]⟩,by simp[w],λj c=> ?_⟩ (by show X l0-(((i+1:K):J)+1).toNat<X l0-((i+1:K):J).toNat;lia)
    ·obtain h1|h1:=xab.1 u
     ·exact g1.el a h1
     ·rw[xad.1 h1];exact Ku.mono (q2.opd W W) W
    ·by_cases e:j=i
     ·rw[e,UV,xbl W,w,xck];show jd _ (xD<|vl<|q.map cq) _;rw[Yn];exact q2.kg.trans (jd.of λt=>by
       show _*(0+qv (cq ((i+1:K):uL))*t^0)=_;rw[uq,Rat.pow_zero];grind)
     ·rw[UV,xaZ W,<-UV];exact C j W
 obtain⟨_,r1,T,rfl,r2,V,R⟩:=p;obtain⟨l,l1,z⟩:=cL (fu:=fu) M r2 W W f;refine⟨l,l0,?_,H,o.kg,⟨by have:=z.pl;exact⟨this.rd,λi=>KG.mono (this.ht i) W,this.tp⟩,by have:=z.ln;lia,z.kg.trans ?_⟩⟩
 ·unfold Yu;rw[Y G];simp only;rw[Y r1];simp only;rw[l1];rfl
 ·have step:∀n,n<=X l0-1->qQ (y7 (d+1) β) (λx t=>y7 n (λi=>xD (vl<|T.getD i []) t) x) (λx t=>y7 n (λi=>((i+1:K):uL)*xD (vl<|(mm l0).getD (i+1) []) t) x):=λn=>by
   induction n with
   |zero=>intro _;exact qQ.refl
   |succ n g=>intro hn;exact(g W).add<|qQ.mono n<|R n W
  refine qQ.trans (qQ.of λx t=> ?_)<|step _<|Nm _;rw[Xt (n:=X l0-1) W]
end
section
variable{fu d k k':wL}{r:v6}{β:wL->uL}{m:ww Zr}
theorem zin(M:Mq m r d β){A B T:N (N D)}{i n g a b c:K}(E:Xi (a+1) n A)(G:Xi (b+1) n B)(H:∀i j,X (A.getD i [])+X (B.getD j [])<=32)(P:i<X A)(l:Xi (c+1) g T)(hi:i+X B<=X T)(hn:g<=1000)(hk:c+a+b+1490<=248000)(w:3000000<=fu):
 ∃e,zg (VE fu (i:J)) fu (zH m,A,B,(0:J),T)=Z (zH m,A,B,e)/\Xi (c+a+b+1488) g e/\X e=X T/\qQ (y7 (d+1) β) (Yg e) (λx t=>Yg T x t+xD (vl<|A.getD i []) t*x^i*Yg B x t):=by
 have hd:=M.md.d4;have hc:=l.ln;have R:c+1<=c+a+b+1488:=W
 suffices h:∃y,zg (VE fu (i:J)) fu (zH m,A,B,(0:J),T)=Z y/\∃e,y=(zH m,A,B,e)/\Xi (c+a+b+1488) g e/\X e=X T/\qQ (y7 (d+1) β) (Yg e) (λx t=>Yg T x t+xD (vl<|A.getD i []) t*x^i*Yg B x t)by obtain⟨_,h1,o,rfl,U⟩:=h;exact⟨o,h1,U⟩
 refine zM (λs=>∃(j:K) (f:N (N D)),s=(zH m,A,B,(j:J),f)/\j<=X B/\Xi (c+a+b+1488) g f/\X f=X T/\(∀q,i+j<=q->f.getD q []=T.getD q [])/\qQ (y7 (d+1) β) (Yg f) (λx t=>Yg T x t+xD (vl<|A.getD i []) t*x^i*y7 j (λq=>xD (vl<|B.getD q []) t) x)) (λs=>X B-s.2.2.2.1.toNat) _ ?_ fu _ ⟨0,T,O,xaf _,l.mono R,O,λ_ _=>O,qQ.of λx t=>by show _=_+_*0;grind⟩ (by show X B-(0:J).toNat<fu;lia);rintro _ L ⟨j,f,rfl,hj,g1,z,u,v⟩ V;unfold VE;simp only;by_cases h:j=X B;rw[S W];refine⟨_,O,f,O,g1,z,?_⟩;rw[h]at v;exact v;have e2:(i:J)+j=((i+j:K):J):=W
 have⟨p,p1,C⟩:=Fb (fu:=fu) M (E.at i) (G.at j) (H i j) W w;have d32:d<=32:=W
 have k1:a+1+(b+1)+360<=256000:=W
 have⟨q,q1,q2⟩:=Ao (fu:=fu) M (l.at<|i+j) (C.opd d32 k1) W w;rw[Q W,e2,yj ⟨W,W⟩,yj ⟨W,W⟩,zm W,ze,zm P,ze,zm W,ze,Y p1,u (i+j)<|Nm _,Y q1,zm W,ze,yj ⟨W,W⟩];have k3:c+1+(a+1+(b+1)+360)+355<=256000:=W
 have k4:c+1+(a+1+(b+1)+360)+355<=c+a+b+1488:=W
 have qo:Ku (c+a+b+1488) (q.map cq):=Ku.mono (q2.opd d32 k3) k4;refine V _ ⟨j+1,_,O,W,zcv g1 qo,by rw[xbe,z],λq' hq=> ?_,?_⟩ (by show X B-((j:J)+1).toNat<X B-(j:J).toNat;lia);rw[UV,xfN W,<-UV];exact u q' W
 have a1:jd (y7 (d+1) β) (xD<|vl<|q.map cq) (λt=>xD (vl<|T.getD (i+j) []) t+xD (vl<|A.getD i []) t*xD (vl<|B.getD j []) t):=by rw[Yn];refine q2.kg.trans<|jd.refl.add ?_;rw[Yn];exact C.kg
 have a2:=v.add<|qQ.mono (i+j)<|a1.sub<|jd.refl (F:=xD<|vl<|T.getD (i+j) []);refine qQ.trans (qQ.of λx t=> ?_)<|a2.trans<|qQ.of λx t=> ?_;rw[MG W,u (i+j)<|Nm _];rw[sS];show _=_+_*(y7 j (λq=>xD (vl<|B.getD q []) t) x+xD (vl<|B.getD j []) t*x^j);grind
theorem zgU(M:Mq m r d β){A B:N (N D)}{n a b:K}(f:Xi (a+1) n A)(g:Xi (b+1) n B)(p:∀i j,X (A.getD i [])+X (B.getD j [])<=32)(hn:n<=32)(u:n*(a+b+1490)+400<=240000)(o:3000000<=fu):
 ∃l,Uh fu (zH m) A B=Z (mm l)/\HO d β (n*(a+b+1490)+354) (n+n) l (λx t=>Yg A x t*Yg B x t):=by
 have G:=f.ln;have hc:=g.ln;have⟨W,v⟩:∃W,W=a+b+1490:=⟨_,O⟩;rw[<-v]at u⊢;have c:∃T,zg (aK fu (zH m) A B) fu (0,So (X A+X B) [])=Z T/\Xi (n*W+1) (n+n) T/\qQ (y7 (d+1) β) (Yg T) (λx t=>Yg A x t*Yg B x t):=by refine zM (λs=>∃(i:K) (T:N (N D)),s=((i:J),T)/\i<=X A/\Xi (i*W+1) (n+n) T/\X T=X A+X B/\qQ (y7 (d+1) β) (Yg T) (λx t=>y7 i (λq=>xD (vl<|A.getD q []) t) x*Yg B x t)) (λs=>X A-s.1.toNat) _ ?_ fu _ ⟨0,_,O,xaf _,⟨(zh5 (k:=0*W)<|X A+X B).el,by simp;lia⟩,rC,qQ.of λx t=>by rw[zia];show _=0*_;grind⟩ (by show X A-(0:J).toNat<fu;lia);rintro _ L ⟨i,T,rfl,hi,g1,H,e⟩ w;unfold aK;simp only;by_cases h:i=X A;rw[S pM];refine⟨_,O,g1.mono (by have:=xac W (pM:i<=n);lia),?_⟩;rw[h]at e;exact e;have w1:=xac W (pM:i+1<=n);rw[xcQ]at w1;have⟨y,v1,z,v3,v4⟩:=zin (fu:=fu) (i:=i) M f g p pM g1 pM pM pM o;rw[Q pM,Y v1];simp only;rw[yj ⟨pM,pM⟩];refine w _ ⟨i+1,y,O,pM,z.mono (by rw[xcQ];lia),pM,v4.trans<|(e.add<|qQ.refl (F:=λx t=>xD (vl<|A.getD i []) t*x^i*Yg B x t)).trans<|qQ.of λx t=> ?_⟩ (by show X A-((i:J)+1).toNat<X A-(i:J).toNat;lia);show _=(y7 i (λq=>xD (vl<|A.getD q []) t) x+xD (vl<|A.getD i []) t*x^i)*_;grind
 have⟨T,r1,r2,C⟩:=c;have⟨l,l1,E⟩:=BG (fu:=fu) M r2 pM pM o;refine⟨l,?_,E.of pM (Nm _) C⟩;unfold Uh;rw[(pM:(X A:J)+X B=((X A+X B:K):J)),yj ⟨pM,pM⟩,yF,xN pM,ze,Y r1,Y l1]
theorem zmi{i:K}(hi:i<=32):Ku 7 [cq (i:uL)]/\∀t,xD (vl [cq (i:uL)]) t=i:=by have a:Hx 7 ((i:K):uL):=⟨1,rx,rx,i,by show((i:K):uL)*((1:K):uL)=((i:J):uL);show _=((i:K):uL);grind,by rw[xaL];lia⟩;exact⟨⟨λx b=>by rw[xad.1 b];exact(a.hs rx).rs,rC,by show Ht 7 [qv<|cq (i:uL)];rw[uq];exact ziw a⟩,λt=>by show 0+qv (cq ((i:K):uL))*t^0=_;rw[uq,Rat.pow_zero];grind⟩
theorem zaO(M:Mq m r d β){A:ww (ww D)}{n a:K}(e:Xi (a+1) n A)(o:∀i,X (A.getD i [])<=31)(hn:n<=32)(y:a+1000<=248000)(b:3000000<=fu):
 ∃l,Yy fu (zH m) A=Z (mm l)/\HO d β (a+800) n l (λx t=>y7 (X A-1) (λi=>((i+1:K):uL)*xD (vl<|A.getD (i+1) []) t) x):=by
 have hc:=e.ln;have⟨N,p⟩:∃N,N=X A-1:=⟨_,O⟩;have el:∀i,∃q,(i<N->Zt fu (zH m) (A.getD (i+1) []) [cq ((i+1:K):uL)]=Z (q.map cq))/\ru d β (a+368) q λt=>if i<N then xD (vl<|A.getD (i+1) []) t*((i+1:K):uL)else 0:=λi=>by
  by_cases h:i<N;have⟨n1,n2⟩:=zmi (i:=i+1) W;have⟨q,q1,q2⟩:=Fb (fu:=fu) M (e.at<|i+1) n1 (by have:=o<|i+1;show _+1<=32;lia) W b;exact⟨q,λ_=>q1,q2.rd,q2.kg.trans (jd.of λt=>by rw[Q h,n2]),KG.mono q2.ht W⟩;exact⟨[],λs=>jp s h,Hf.nil d,jd.of λt=>by rw[S h];rfl,Ku.nil.ht⟩
 have⟨g,j⟩:=xeG el;have c:zg (vP fu (zH m) A) fu ([],1)=Z ((xaC N).map λi=>(g i).map cq):=by
  by_cases u:X A=0
  have v:A=[]:=xbt.1 u;have:N=0:=W
  rw[this,v];obtain⟨f,rfl⟩:∃f,fu=f+1:=⟨fu-1,W⟩;show vP (f+1) (zH m) [] (zg (vP (f+1) (zH m) []) f) ([],1)=_;unfold vP;simp only;rw[S rx];rfl;refine Qg (i0:=1) _ (λi L t hi ht=> ?_) (λL t ht=> ?_) W O;unfold vP;have e1:(((1+i:K):J):uL)=((i+1:K):uL):=by rw[xdA];rfl
  simp only;rw[Q W,zm W,F,Y<|Yx ⟨W,W⟩ b,e1,xdA 1 i,Y<|(j i).1 hi,xN (by simp;lia),F,yj ⟨W,W⟩];unfold vP;simp only;rw[S W]
 have⟨l,l1,w⟩:=FE (fu:=fu) (k:=a+367) (N:=N) M (λi=>(j i).2) W W b;refine⟨l,?_,w.of W W<|qQ.of λx t=> ?_⟩;unfold Yy;rw[Y c,Y l1];rw[<-p];exact ZZ λi hi=>by rw[Q hi];grind
end
section
variable{fu d k k':wL}{r:v6}{β:wL->uL}{m:ww Zr}
theorem VF.pow{X:uL->uL}(h:VF X):∀n:K,VF λt=>X t^n
 |0=>by have⟨n,f,a⟩:=VF.c 1;exact⟨n,f,λt=>by show X t^0=_;rw[Rat.pow_zero];exact a t⟩
 |n+1=>by have⟨k,f,a⟩:=(VF.pow h n).mul h;exact⟨k,f,λt=>by show X t^(n+1)=_;rw[Rat.pow_succ];exact a t⟩
theorem VF.hor{X:uL->uL}{f:K->uL->uL}(h:VF X)(a:∀i,VF<|f i):∀n,VF λt=>y7 n (λi=>f i t) (X t)
 |0=>VF.c 0
 |n+1=>(VF.hor h a n).add<|(a n).mul<|h.pow n
theorem qQ.at{P X:uL->uL}{F G:uL->uL->uL}(h:qQ P F G)(a:VF X):jd P (λt=>F (X t) t) λt=>G (X t) t:=by have⟨Q,⟨n,c,hc,b⟩,e⟩:=h;refine⟨_,VF.hor a hc n,λt=> ?_⟩;rw[<-b];exact e _ t
theorem zdV(a X E:uL):E*X+a=a+X*E:=by grind
theorem Sj{A:N (N D)}{e n:K}{x t:uL}(h:e<n):y7 (n-e) (λj=>xD (vl<|A.getD (e+j) []) t) x=xD (vl<|A.getD e []) t+x*y7 (n-(e+1)) (λj=>xD (vl<|A.getD (e+1+j) []) t) x:=by rw[(W:n-e=n-(e+1)+1),jL];congr 2;exact ZZ λj _=>by rw[(W:e+(j+1)=e+1+j)]
def zfd(M:Mq m r d β){A:N (N D)}{x:N D}{n a b:K}(f:Xi (a+1) n A)(o:Ku b x)(hl:X x<=16)(hn:n<=32)(u:n*(a+b+720)+1000<=200000)(H:a+b<=40000)(h:3000000<=fu):
 ∃q,JL fu (zH m) A x=Z (q.map cq)/\ru d β (n*(a+b+720)+1) q λt=>Yg A (xD (vl x) t) t:=by
 have hc:=f.ln;have hd:=M.md.d4;have⟨W,v⟩:∃W,W=a+b+720:=⟨_,O⟩;rw[<-v]at u⊢;have c:∃y,zg (Kj fu (zH m) A x) fu ([],(X A:J)-1)=Z y/\∃q,y=q.map cq/\ru d β (n*W+1) q λt=>Yg A (xD (vl x) t) t:=by
  refine zM (λs=>∃(i:K) (q:N uL),s=(q.map cq,(i:J)-1)/\i<=X A/\ru d β ((X A-i)*W+1) q λt=>y7 (X A-i) (λj=>xD (vl<|A.getD (i+j) []) t)<|xD (vl x) t) (λs=>(s.2+1).toNat) _ ?_ fu _ ⟨X A,[],O,Nm _,Hf.nil d,jd.of λt=>by rw[xck];rfl,Ku.nil.ht⟩ (by show((X A:J)-1+1).toNat<fu;lia);rintro _ L ⟨i,q,rfl,hi,g⟩ B;unfold Kj;simp only
  cases i with
  |zero=>
   rw[S pM];refine⟨_,O,q,O,⟨g.rd,g.kg.trans<|jd.of λt=> ?_,KG.mono g.ht (by have:=xac W (pM:X A-0<=n);lia)⟩⟩;show y7 (X A-0) _ _=y7 (X A) _ _;rw[Nat.sub_zero];exact ZZ λj _=>by rw[xaD]
  |succ e=>
   have e1:((e+1:K):J)-1=(e:J):=pM
   have w:=xac W (pM:X A-e<=n);have P:(X A-e)*W=(X A-(e+1))*W+W:=by rw[<-xcQ];congr 1;lia
   have R:=g.rd.1;have⟨p,C,l⟩:=Fb (fu:=fu) M (g.opd pM pM) o (by rw[xan];lia) pM h;have⟨z,E,z2⟩:=Ao (fu:=fu) M (l.opd pM pM) (f.at e) pM h;rw[e1,Q pM,Y C,zm pM,F,Y E,yj ⟨pM,pM⟩];refine B _ ⟨e,z,O,pM,⟨z2.rd,z2.kg.trans ?_,KG.mono z2.ht pM⟩⟩ (by show((e:J)-1+1).toNat<(((e+1:K):J)-1+1).toNat;lia);rw[Yn];have G:=l.kg.trans<|jd.mul (eE _) (VF.hor (eE<|vl x) (λj=>eE<|vl<|A.getD (e+1+j) [])<|X A-(e+1)) (by rw[Yn];exact g.kg) jd.refl;exact(G.add jd.refl).trans<|jd.of λt=>(zdV _ _ _).trans (Sj pM).symm
 obtain⟨_,r1,q,rfl,r2⟩:=c;refine⟨q,?_,r2⟩;unfold JL;rw[yj ⟨pM,pM⟩,Y r1]
def zk8(M:Pw m r d β){A:N (N D)}{x:N D}{n b f:K}(C:Xi (b+1) n A)(E:Ku f x)(hn:n<=32)(G:n*(b+f+1900)+3000<=200000)(hc:b+f<=40000)(o:3000000<=fu):
 ∃q,Jw fu (Z r) A x=Z (q.map cq,0)/\ru d β (n*(b+f+1900)+1) q λt=>Yg A (xD (vl x) t) t:=by
 have hd:=M.d4;have⟨l,u,c⟩:=cL (fu:=fu) M C pM pM o;have U:=c.ln;have B:=c.op pM pM;have⟨a,h⟩:∃a,a=mm l:=⟨_,O⟩;have V:X a=X l:=by rw[h,Vd]
 rw[<-h]at B;have⟨W,H⟩:∃W,W=b+f+1900:=⟨_,O⟩;rw[<-H]at G⊢;have v:∃y,zg (KT fu (Z r) x a) fu ([],(X a:J)-1)=Z y/\∃q,y=.inl (q.map cq)/\ru d β (n*W+1) q λt=>Yg a (xD (vl x) t) t:=by
  refine zM (λs=>∃(i:K) (q:N uL),s=(q.map cq,(i:J)-1)/\i<=X a/\ru d β ((X a-i)*W+1) q λt=>y7 (X a-i) (λj=>xD (vl<|a.getD (i+j) []) t)<|xD (vl x) t) (λs=>(s.2+1).toNat) _ ?_ fu _ ⟨X a,[],O,Nm _,Hf.nil d,jd.of λt=>by rw[xck];rfl,Ku.nil.ht⟩ (by show((X a:J)-1+1).toNat<fu;lia);rintro _ L ⟨i,q,rfl,hi,g⟩ P;unfold KT;simp only
  cases i with
  |zero=>
   rw[S pM];refine⟨_,O,q,O,⟨g.rd,g.kg.trans<|jd.of λt=> ?_,KG.mono g.ht (by have:=xac W (pM:X a-0<=n);lia)⟩⟩;show y7 (X a-0) _ _=y7 (X a) _ _;rw[Nat.sub_zero];exact ZZ λj _=>by rw[xaD]
  |succ e=>
   have e1:((e+1:K):J)-1=(e:J):=pM
   have w:=xac W (pM:X a-e<=n);have w2:(X a-e)*W=(X a-(e+1))*W+W:=by rw[<-xcQ];congr 1;lia
   have⟨p,u,c⟩:=zb5 (fu:=fu) M (g.opd pM pM) E pM o;have⟨z,R,z2⟩:=zbp (fu:=fu) M (c.opd pM pM) (Xi.at (k:=b+352) B e) pM o;rw[e1,Q pM,Y u];simp only;rw[Y JB];simp only;rw[zm pM,F,Y R];simp only;rw[Y JB];simp only;rw[yj ⟨pM,pM⟩];refine P _ ⟨e,z,O,pM,⟨z2.rd,z2.kg.trans ?_,KG.mono z2.ht pM⟩⟩ (by show((e:J)-1+1).toNat<(((e+1:K):J)-1+1).toNat;lia);rw[Yn];have T:=c.kg.trans<|jd.mul (eE _) (VF.hor (eE<|vl x) (λj=>eE<|vl<|a.getD (e+1+j) [])<|X a-(e+1)) (by rw[Yn];exact g.kg) jd.refl;exact(T.add jd.refl).trans<|jd.of λt=>(zdV _ _ _).trans (Sj pM).symm
 obtain⟨_,r1,q,rfl,r2⟩:=v;refine⟨q,?_,r2.rd,r2.kg.trans ?_,r2.ht⟩;unfold Jw;rw[Y u];simp only;rw[<-h,yj ⟨pM,pM⟩,Y r1];rw[h];exact qQ.at c.kg<|eE _
def zlK(M:Pw m r d β){A B:N (N D)}{n a b:K}(c:Xi (a+1) n A)(e:Xi (b+1) n B)(hn:n<=64)(f:a+b+800<=250000)(g:3000000<=fu):
 ∃l,UX fu (Z r) A B=Z (mm l,0)/\HO d β (a+b+730) n l (λx t=>Yg A x t+ -1*Yg B x t):=by
 have⟨l,l1,h⟩:=SO (fu:=fu) wT M c e hn f g;exact⟨l,by unfold UX;rw[Y l1],h⟩
end
end Go.Proofs.YtoegnnjcmlghhaaGreat
