/- What a proof needs: rules of walking, mirrors of functions and their plain laws. No condition. -/
import Derived.Test.YtoegnnjcmlghhaaGreatZq6
set_option maxHeartbeats 1000000
set_option linter.all false
namespace Go.Proofs.YtoegnnjcmlghhaaGreat
open Bool renaming false->I,true->wT
open Go renaming maxLen->QR,madeCells->lm
open Go.Proofs.YtoegnnjcmlghhaaGreat renaming cf->M,bd->G,za->Y,Zr->U,ci->C,nm->B,Qr->D,ze->F,iq->Q,pc->E,zf->A,ir->S,nv->P
open List renaming length->X
open Nat renaming beq->R
open Option renaming some->Z
open _root_ renaming rfl->O,List->N,Int->J,Nat->K,Option->V,List->ww,Int->wF,Nat->wL,absurd->jp,trivial->jP,Bool->ut,Rat->uL,funext->uT,True->Wr,False->UP,propext->lM
open Classical renaming choose_spec->xfF
open Int renaming mul_comm->xbI,ofNat_dvd_left->xel,tdiv->xdv,tdiv_eq_ediv_of_nonneg->xeW,tmod->xcB,zero_ediv->xek,zero_emod->xaq
open List renaming drop->xdN,ext_getElem->xeb,getElem?_append_left->xaZ,length->xaK,length_pos_of_mem->xfs,length_range->xex,map_congr_left->xcc,mem_append_left->xdO,mem_append_right->xep,mem_iff_getElem->xcr,nodup_cons->xfl,pairwise_iff_getElem->xcU,range->xaC,range_succ->xcT,replicate->So,take->xdB,take_add_one->xeV,take_of_length_le->xaW
open List.Perm renaming refl->xdw
open Nat renaming div_div_eq_div_mul->xaF,eq_of_beq_eq_true->xdy,gcd->xdk,lt_of_lt_of_le->xag,mul_comm->xaS,pow_add->xbg,pow_le_pow_right->xam,pow_mul->xcg,pow_succ->xbA,strongRecOn->xdz
open Rat renaming divInt->xff,normalize_eq_mkRat->xfr
def xaU:=@Int.mul_le_mul_of_nonneg_left
def xbE:=@List.mem_map_of_mem
def xcJ:=@Rat.intCast_mul
def xdG:=@Int.le_of_lt
def xdH:=@Int.mul_ne_zero
def xdq:=@List.pairwise_iff_forall_sublist
def xeA:=@Rat.zero_mul
def xeR:=@Rat.natCast_mul
def xem:=@Rat.add_zero
def xen:=@List.mem_replicate
def xeo:=@List.append_of_mem
def xey:=@List.pairwise_map
def xfG:=@List.length_filter_le
def xfM:=@List.getElem?_append
def xfk:=@Rat.natCast_inj
section
variable{k d fu K:wL}{q:uL}
def qv(x:D):uL:=mkRat (zv x.1)<|P x.2
def cq(q:uL):D:=(yC q.num,yI q.den)
def Qz(k:wL)(x:D):Prop:=zp x.1.2/\X x.1.2<=k/\zp x.2/\X x.2<=k
def Qh(k:wL)(q:uL):Prop:=Bz k q.num/\Bz k q.den
def uq(q:uL):qv (cq q)=q:=by unfold qv cq;rw[zn,zV,Rat.mkRat_self]
def Qh.qs(h:Qh k q):Qz k (cq q):=⟨yx _,h.1.len,zt _,by have:=h.2.len;unfold yC at this;simpa[cq]using this⟩
def Qz.mono{j:wL}{x:D}(h:Qz j x)(a:j<=k):Qz k x:=⟨h.1,xal h.2.1 a,h.2.2.1,xal h.2.2.2 a⟩
def Qz.nil(k:wL):Qz k ((I,[]),[]):=⟨zp.nil,xaf _,zp.nil,xaf _⟩
def zb0:qv ((I,[]),[])=0:=Rat.mkRat_zero _
def Qh.mk{n:J}(hn:Bz k n)(hd:Bz k (d:J))(a:1<=k):Qh k (mkRat n d):=by
 unfold Qh;rw[Rat.num_mkRat,Rat.den_mkRat];by_cases h:d=0
 rw[Q h,Q h];exact⟨Bz.zero k,Bz.one' a⟩;rw[S h,S h];refine⟨hn.le ?_,hd.le ?_⟩;exact xbr _ _;skip;exact xcD _ _
def Qz.hb{x:D}(h:Qz k x)(a:1<=k):Qh k (qv x):=by refine Qh.mk ((Bz.of h.1).mono h.2.1) ?_ a;exact xag (vd h.2.2.1)<|xam rx h.2.2.2
theorem N8{a b:J}(f:b≠0):(xff a b).num=(if b<0 then-(a/(xdk a.natAbs b.natAbs:wL))else a/(xdk a.natAbs b.natAbs:wL))/\(xff a b).den=(b/(xdk a.natAbs b.natAbs:wL)).natAbs:=by
 have c:((xdk a.natAbs b.natAbs:wL):J)∣a:=xel.2<|xeY _ _;have e:((xdk a.natAbs b.natAbs:wL):J)∣b:=xel.2<|xdg _ _;by_cases h:b<0;obtain⟨d,rfl⟩:∃d:wL,b= -(d:J):=⟨b.natAbs,W⟩;have hd:d≠0:=W
 rw[xeL,xaL]at c e⊢;rw[Q h,Rat.divInt_neg',Rat.divInt_ofNat,Rat.num_mkRat,Rat.den_mkRat,S hd,S hd,xeL,xdF d];refine⟨Int.neg_ediv_of_dvd c,?_⟩;rw[Int.neg_ediv_of_dvd (by exact xdl.2<|xdg _ _),xeL,Int.natAbs_ediv_of_dvd<|xdl.2<|xdg _ _];rfl;obtain⟨d,rfl⟩:∃d:wL,b=(d:J):=⟨b.natAbs,W⟩;have hd:d≠0:=W
 rw[S h,Rat.divInt_ofNat,Rat.num_mkRat,Rat.den_mkRat,S hd,S hd,xaL,xdF d];grind
def aZ{a b:U}(i:zp a.2)(j:zp b.2)(hc:X a.2<=K)(hd:X b.2<=K)(r:K<=10000)(c:3000000<=fu:=by lia):
 YO fu a b=Z (if zv b=0 then(((I,[]),[]),3)else(cq<|xff (zv a)<|zv b,0)):=by
 unfold YO;have s:fF a:=⟨i,W⟩;have l:fF b:=⟨j,W⟩;rw[Y<|y5 l.ok c];by_cases h0:zv b=0
 rw[Q<|xm.2 h0,Q h0];rw[S<|λe=>h0<|xm.1 e,S h0,Y<|Vr i j hc hd r c];have⟨h1,m⟩:=N8 (a:=zv a) h0;generalize f:((xdk (zv a).natAbs (zv b).natAbs:wL):J)=G at*
 have g1:G∣zv a:=by rw[<-f];exact xel.2<|xeY _ _
 have n:G∣zv b:=by rw[<-f];exact xel.2<|xdg _ _
 have g0:G≠0:=λe=>h0<|Int.zero_dvd.1<|e▸n;have t:Bz K G:=(Bz.of j).mono hd|>.le (by rw[<-f,xaL];exact Nat.le_of_dvd W<|xdg _ _)
 have o:fF (yC G):=t.okS W;rw[Y<|vO s o c,zn];simp only;rw[Y<|vO l o c,zn];have e1:∀{x:J},G∣x->exI x G=x/G:=λh=>by unfold exI;rw[S g0,Q<|xax h]
 rw[e1 g1,e1 n];have gp:0<G:=by rw[<-f];rw[<-f]at g0;lia
 have p:zv b/G<0↔zv b<0:=by
  constructor;intro h;exact Int.not_le.1 λe=>jp (Int.ediv_nonneg e<|xdG gp) W
  intro h;exact Int.ediv_neg_of_neg_of_pos h gp
 by_cases g:zv b<0;rw[Q<|(J0 _).2<|p.2 g,Y<|Vy (((Bz.of i).mono hc).le (xbr _ _)|>.ok W) c,zn];unfold cq;rw[h1,m,Q g];rfl;rw[S<|λe=>g<|p.1<|(J0 _).1 e];unfold cq;rw[h1,m,S g];rfl
def dU{x:D}(h:Qz K x)(b:K<=10000)(a:3000000<=fu):YZ fu x=Z (yC (P x.2:wL)):=by unfold YZ;rw[Y<|uj ⟨h.2.2.1,xal h.2.2.2 W⟩ a];rfl
def Ur{n:J}(h:WQ n)(a:3000000<=fu):ji fu n=Z (cq (n:uL)):=by unfold ji cq;rw[Y<|yr h a];rfl
def oq{x:D}(h:Qz K x)(a:K<=10000)(b:3000000<=fu):wy fu x=Z (cq<|qv x):=by
 unfold wy;have hd:Bz K ((P x.2:wL):J):=by unfold Bz;exact xag (vd h.2.2.1)<|xam rx h.2.2.2
 rw[Y<|dU h a b,Y<|aZ h.1 (yx _) h.2.1 hd.len a,zn];by_cases h0:((P x.2:wL):J)=0
 skip;simp only;rw[Y<|Ur rx b];unfold qv;simp_all;rw[S h0];rfl
def Yi(x:D):Prop:=Qz 4000 x
def fS(q:uL):Prop:=Qh 4000 q
def fS.rs(h:fS q):Yi (cq q):=h.qs
def Yi.hs{x:D}(h:Yi x):fS (qv x):=h.hb rx
def Yi.nil:Yi ((I,[]),[]):=Qz.nil _
def kh{x:D}(h:Yi x)(a:3000000<=fu):wy fu x=Z (cq<|qv x):=oq h rx a
def zdE{n:J}(hn:Bz K n)(hd:Bz K (d:J))(a:K<=10000)(b:3000000<=fu):wy fu (yC n,yI d)=Z (cq<|mkRat n d):=by rw[oq ⟨yx _,hn.len,zt _,by have:=hd.len;unfold yC at this;simpa using this⟩ a b];unfold qv;rw[zn,zV]
def zkd(h:Qh K q):zp (yI q.den)/\X (yI q.den)<=K:=⟨zt _,h.qs.2.2.2⟩
def zdl{p:uL}(hp:fS p)(a:fS q)(c:3000000<=fu):ZX fu (yI p.den) (yI q.den)=Z (yI<|p.den*q.den):=by have h1:=zkd hp;have b:=zkd a;rw[XT h1.1 b.1 W W W,zV,zV]
def dR{x y:D}(c:Yi x)(e:Yi y)(a:3000000<=fu):Ve fu x y=Z (cq<|qv x*qv y):=by unfold Ve;rw[Y<|kh c a,Y<|kh e a];have h1:=c.hs;have b:=e.hs;unfold cq;rw[Y<|yi (h1.1.ok rx) (b.1.ok rx) a,Y<|zdl h1 b a,zn,zn,Y<|zdE (h1.1.mul b.1) (by skip;exact h1.2.mul b.2) rx a,<-Rat.mkRat_mul_mkRat,Rat.mkRat_self,Rat.mkRat_self];rfl
def oV{x:D}(a:Yi x)(b:3000000<=fu):Vg fu x=Z (jE (qv x).num 0):=by unfold Vg;rw[Y<|kh a b];unfold cq;rw[Y<|y5 (a.hs.1.ok rx) b,zn]
def mU:jE q.num 0=0↔q=0:=xm.trans Rat.num_eq_zero
def cR{x y:D}{f:U->U->V U}{r:J}(c:Yi x)(e:Yi y)(a:3000000<=fu)(h:f (yC<|(qv x).num*(qv y).den) (yC<|(qv y).num*(qv x).den)=Z (yC r))(g:Bz 8001 r):Vx fu x y f=Z (cq<|mkRat r<|(qv x).den*(qv y).den):=by unfold Vx;rw[Y<|kh c a,Y<|kh e a];have h1:=c.hs;have b:=e.hs;rw[Y<|dU b.qs rx a];unfold cq;rw[zV,Y<|yi (h1.1.ok rx) (b.2.ok rx) a];have hd:=dU h1.qs rx a;unfold cq at hd;rw[Y hd];rw[zV,Y<|yi (b.1.ok rx) (h1.2.ok rx) a,zn,zn,zn,zn,Y h,Y<|zdl h1 b a,Y<|zdE g (by skip;exact(h1.2.mul b.2).mono rx) rx a];rfl
def sa{x y:D}(a:Yi x)(b:Yi y)(c:3000000<=fu):cm fu x y=Z (cq<|qv x+qv y):=by have h1:=a.hs;have e:=b.hs;have b1:=h1.1.mul e.2;have b2:=e.1.mul h1.2;unfold cm XE;rw[Y<|Y<|cR a b c ?_<|b1.add b2];rw[Rat.add_def,xfr];unfold Wj;rw[S rx,Y<|qq (b1.ok rx) (b2.ok rx) c,zn,zn]
def sw{x y:D}(a:Yi x)(b:Yi y)(c:3000000<=fu):Kc fu x y=Z (cq<|qv x-qv y):=by have h1:=a.hs;have e:=b.hs;have b1:=h1.1.mul e.2;have b2:=e.1.mul h1.2;unfold Kc XE;rw[Y<|Y<|cR a b c ?_<|b1.sub b2];rw[Rat.sub_def,xfr];unfold Wj;rw[Q O,Y<|qg (b1.ok rx) (b2.ok rx) c,zn,zn]
end
section
variable{fu K:wL}
def fJ{a b:U}(d:zp a.2)(f:zp b.2)(hc:X a.2<=K)(hd:X b.2<=K)(j:K<=10000)(c:3000000<=fu):
 XI fu a b=Z (if zv b=0 then(((I,[]),[]),3)else(cq<|xff (zv a)<|zv b,0)):=by
 rw[<-aZ (fu:=fu) d f hc hd j];unfold XI YO;have l:fF a:=⟨d,W⟩;have g:fF b:=⟨f,W⟩;rw[Y<|um g.ok c,Y<|y5 g.ok c];by_cases h0:zv b=0
 rw[Q<|xm.2 h0,Q<|xm.2 h0];have h1:=λe=>h0<|xm.1 e;rw[S h1,S h1,Y<|lk d f hc hd j c,Y<|Vr d f hc hd j c];generalize k:((xdk (zv a).natAbs (zv b).natAbs:wL):J)=G;have g1:G∣zv a:=by rw[<-k];exact xel.2<|xeY _ _
 have m:G∣zv b:=by rw[<-k];exact xel.2<|xdg _ _
 have g0:G≠0:=λe=>h0<|Int.zero_dvd.1<|e▸m;have o:Bz K G:=(Bz.of f).mono hd|>.le (by rw[<-k,xaL];exact Nat.le_of_dvd W<|xdg _ _)
 have i:fF (yC G):=o.okS W;have e1:∀{x:J},G∣x->exI x G=x/G:=λh=>by unfold exI;rw[S g0,Q<|xax h]
 rw[Y<|XN l i c,Y<|vO l i c,zn,e1 g1];unfold EV;rw[S g0];simp only;rw[Y<|XN g i c,Y<|vO g i c,zn,e1 m];unfold EV;rw[S g0];simp only;have n:=((Bz.of d).mono hc).le (xbr (zv a) G)|>.ok W
 rw[Y<|Kh n c,Y<|Vy n c]
def KI{x:D}(h:Qz K x)(b:K<=10000)(a:3000000<=fu):xV fu x=Z (yC (P x.2:wL)):=by unfold xV;rw[Y<|yW (z:=(I,x.2)) h.2.2.1 (xal h.2.2.2 W) a];rfl
def Yx{n:J}(h: -9223372036854775807<=n/\n<=9223372036854775807)(a:3000000<=fu):YU fu n=Z (cq (n:uL)):=by unfold YU cq;rw[Y<|a8 h W];rfl
def eN{a b:U}(d:zp a.2)(e:zp b.2)(hc:X a.2<=K)(hd:X b.2<=K)(f:K<=10000)(c:3000000<=fu):
 jg fu a b=Z (cq<|xff (zv a)<|zv b):=by
 unfold jg;rw[Y<|fJ d e hc hd f c];by_cases h0:zv b=0
 rw[Q h0,h0];simp only;rw[S rx,Y<|Yx rx c,Rat.divInt_zero];rfl;rw[S h0];rfl
def BT{a b:J}(c:Bz K a)(d:Bz K b)(e:K<=10000)(f:3000000<=fu):jg fu (yC a) (yC b)=Z (cq<|xff a b):=by rw[eN (yx _) (yx _) c.len d.len e f,zn,zn]
def Yi.dz{x:D}(h:Yi x):Bz 4000 ((P x.2:wL):J):=by have⟨K,b⟩:∃K,K=4000:=⟨_,O⟩;have a:=h.2.2.2;rw[<-b]at a⊢;exact xag (vd h.2.2.1)<|xam rx a
def w8{x:D}(h:Yi x)(a:3000000<=fu):wV fu x=Z (cq<|qv x):=by unfold wV;rw[Y<|KI h rx a,Y<|eN h.1 (yx _) h.2.1 h.dz.len rx a,zn];rfl
def iM{x:D}(h:Yi x)(a:3000000<=fu):Qc fu x=Z (cq (-qv x)):=by unfold Qc;have b:=(Bz.of h.1).mono h.2.1;rw[Y<|Kh ⟨h.1,xal h.2.1 rx⟩ a,Y<|KI h rx a,Y<|BT b.neg h.dz rx a];unfold qv;rw[Rat.divInt_ofNat,Rat.neg_mkRat]
def cq1(q:uL):(cq q).1=yC q.num:=O
def aw{x:uL}(h:fS x)(a:3000000<=fu):xV fu (cq x)=Z (yC (x.den:wL)):=by rw[KI h.qs rx a];unfold cq;rw[zV]
def KN{x y:D}(c:Yi x)(d:Yi y)(a:3000000<=fu):Xb fu x y=Z (cq<|qv x+qv y):=by have h1:=c.hs;have b:=d.hs;have b1:=h1.1.mul b.2;have b2:=b.1.mul h1.2;have ok:∀{n:J},Bz 4000 n->fW (yC n):=λh=>h.ok rx;unfold Xb;rw[Y<|w8 c a,Y<|w8 d a,Y<|aw b a,cq1,Y<|wk (ok h1.1) (ok b.2) a,zn,zn,Y<|aw h1 a,cq1,Y<|wk (ok b.1) (ok h1.2) a,zn,zn,Y<|Ub (b1.ok rx) (b2.ok rx) a,zn,zn,Y<|aw h1 a,Y<|aw b a,Y<|wk (ok h1.2) (ok b.2) a,zn,zn,Y<|BT (b1.add b2) ((h1.2.mul b.2).mono rx) rx a];rw[Rat.add_def,xfr];rfl
def me{x y:D}(c:Yi x)(a:Yi y)(b:3000000<=fu):Qv fu x y=Z (cq<|qv x-qv y):=by have h:fS (-qv y):=⟨by rw[Rat.neg_num];exact a.hs.1.neg,by rw[Rat.neg_den];exact a.hs.2⟩;unfold Qv;rw[Y<|iM a b,Y<|KN c h.rs b,uq,Rat.sub_eq_add_neg]
def iv{x y:D}(c:Yi x)(d:Yi y)(a:3000000<=fu):Qx fu x y=Z (cq<|qv x*qv y):=by have h1:=c.hs;have b:=d.hs;have ok:∀{n:J},Bz 4000 n->fW (yC n):=λh=>h.ok rx;unfold Qx;rw[Y<|w8 c a,Y<|w8 d a,cq1,cq1,Y<|wk (ok h1.1) (ok b.1) a,Y<|aw h1 a,Y<|aw b a,Y<|wk (ok h1.2) (ok b.2) a,zn,zn,zn,zn,Y<|BT (h1.1.mul b.1) (h1.2.mul b.2) rx a,<-Rat.divInt_mul_divInt,Rat.num_divInt_den,Rat.num_divInt_den]
def EP{x y:D}(c:Yi x)(d:Yi y)(h0:qv y≠0)(a:3000000<=fu):U5 fu x y=Z (cq<|qv x/qv y,0):=by
 have h1:=c.hs;have b:=d.hs;have ok:∀{n:J},Bz 4000 n->fW (yC n):=λh=>h.ok rx;unfold U5;rw[Y<|w8 c a,Y<|w8 d a,Y<|aw b a,cq1,Y<|wk (ok h1.1) (ok b.2) a,Y<|aw h1 a,cq1,Y<|wk (ok h1.2) (ok b.1) a,zn,zn,zn,zn,Y<|fJ (K:=8000) (yx _) (yx _) (h1.1.mul b.2).len (h1.2.mul b.1).len rx a,zn,zn];generalize qv x=p at*
 generalize qv y=q at*
 have f:(p.den:J)*q.num≠0:=xdH (by have:=p.den_nz;lia)<|λe=>h0<|Rat.num_eq_zero.1 e;rw[S f];have:xff (p.num*q.den) (p.den*q.num)=p/q:=by rw[<-Rat.divInt_mul_divInt,Rat.num_divInt_den,Rat.div_def,Rat.inv_def]
 rw[this]
def e9{x:D}(a:Yi x)(b:3000000<=fu):XY fu x=Z (jE (qv x).num 0):=by unfold XY;rw[Y<|w8 a b];unfold cq;rw[Y<|um (a.hs.1.ok rx) b,zn]
end
def Q1:K->(K->uL)->uL
 |0,_=>0
 |n+1,g=>Q1 n g+g n
def y7(n:K)(f:K->uL)(t:uL):uL:=Q1 n λi=>f i*t^i
def qO{f g:K->uL}:∀{n},(∀i,i<n->f i=g i)->Q1 n f=Q1 n g
 |0,_=>rfl
 |n+1,h=>by show Q1 n f+f n=Q1 n g+g n;rw[qO λi hi=>h i W,h n W]
def TH(f g:K->uL):∀n,Q1 n (λi=>f i+g i)=Q1 n f+Q1 n g
 |0=>by show(0:uL)=0+0;grind
 |n+1=>by show Q1 n _+_=Q1 n f+f n+(Q1 n g+g n);rw[TH f g n];grind
def DU(c:uL)(f:K->uL):∀n,Q1 n (λi=>c*f i)=c*Q1 n f
 |0=>by show(0:uL)=c*0;grind
 |n+1=>by show Q1 n _+_=c*(Q1 n f+f n);rw[DU c f n];grind
def Kb{f:K->uL}:∀{n},(∀i,i<n->f i=0)->Q1 n f=0
 |0,_=>rfl
 |n+1,h=>by show Q1 n f+f n=0;rw[Kb λi hi=>h i W];grind
def IC{f:K->uL}{n:K}:∀{m},n<=m->(∀i,n<=i->f i=0)->Q1 m f=Q1 n f
 |0,h,_=>by rw[(W:n=0)]
 |m+1,h,h0=>by
  by_cases e:n=m+1
  rw[e];show Q1 m f+f m=_;rw[IC W h0];grind
def Iz(f:K->uL):∀n,Q1 (n+1) f=f 0+Q1 n (λi=>f<|i+1)
 |0=>by show(0:uL)+f 0=f 0+0;grind
 |n+1=>by show Q1 (n+1) f+f (n+1)=f 0+(Q1 n _+f (n+1));rw[Iz f n];grind
def upq(f:K->uL)(k:K)(v:uL):K->uL:=λi=>if i=k then v else f i
def zhq{f:K->uL}{k:K}{v t:uL}:∀{n},k<n->y7 n (upq f k v) t=y7 n f t+(v-f k)*t^k
 |0,h=>jp h<|xbb _
 |n+1,h=>by
  show y7 n (upq f k v) t+upq f k v n*t^n=y7 n f t+f n*t^n+_;by_cases e:k=n;have:y7 n (upq f k v) t=y7 n f t:=qO λi hi=>by unfold upq;rw[zG]
  rw[this];unfold upq;grind;rw[zhq W];have:upq f k v n=f n:=by unfold upq;rw[zG]
  grind
def nD(n:K)(t:uL):y7 n (λ_=>0) t=0:=Kb λi _=>by grind
def Xy(n:K)(f g:K->uL)(t:uL):y7 n (λi=>f i+g i) t=y7 n f t+y7 n g t:=by unfold y7;rw[<-TH];exact qO λi _=>by grind
def VD(n:K)(c:uL)(f:K->uL)(t:uL):y7 n (λi=>c*f i) t=c*y7 n f t:=by unfold y7;rw[<-DU];exact qO λi _=>by grind
def jL(n:K)(f:K->uL)(t:uL):y7 (n+1) f t=f 0+t*y7 n (λi=>f<|i+1) t:=by unfold y7;rw[Iz,<-DU];grind
def XD{f:K->uL}{n m:K}(h:n<=m)(h0:∀i,n<=i->f i=0)(t:uL):y7 m f t=y7 n f t:=IC h λi hi=>by skip;grind
def S6(r:uL):∀(n:K) (f:K->uL),∃g,∀t,y7 (n+1) f t-y7 (n+1) f r=(t-r)*y7 n g t
 |0,f=>⟨f,λt=>by rw[jL,jL];show f 0+t*0-(f 0+r*0)=(t-r)*0;grind⟩
 |n+1,f=>by
  have⟨g,a⟩:=S6 r n λi=>f<|i+1;refine⟨λi=>if i=0 then y7 (n+1) (λi=>f<|i+1) r else g (i-1),λt=> ?_⟩;rw[jL (n+1) f,jL (n+1) f,jL n (λi=>if i=0 then y7 (n+1) (λi=>f<|i+1) r else g (i-1))];grind
def DJ:∀(n:K) (f:K->uL) (N:K),(∀k:K,N<=k->y7 n f (k:uL)=0)->∀i,i<n->f i=0
 |0,_,_,_,i,hi=>jp hi<|xbb _
 |n+1,f,N,h,i,hi=>by
  have⟨g,a⟩:=S6 (N:uL) n f;have b:=h N<|Nm _;have g0:∀i,i<n->g i=0:=DJ n g (N+1) λk c=>by
   have h1:=a k;rw[h k W,b]at h1;have j:((k:K):uL)-N≠0:=λe=>by
    have d:((k:K):uL)=N:=by grind
    have:=xfk.1 d;lia
   grind
  have e:∀t,y7 (n+1) f t=0:=λt=>by
   have h1:=a t;rw[show y7 n g t=0 from Kb λi hi=>by rw[g0 i hi];grind,b]at h1;grind
  have f0:f 0=0:=by have:=e 0;rw[jL]at this;grind
  have f1:=DJ n (λi=>f<|i+1) 1 λk c=>by
   have h1:=e k;rw[jL,f0]at h1;have:((k:K):uL)≠0:=λe=>by have:=xfk.1<|e.trans (by rfl:(0:uL)=((0:K):uL));lia
   grind
  cases i with
  |zero=>exact f0
  |succ i=>exact f1 i W
def zcN{n:K}{f g:K->uL}(h:∀t,y7 n f t=y7 n g t):∀i,i<n->f i=g i:=λi hi=>by
 have:=DJ n (λi=>f i+ -1*g i) 0 (λk _=>by rw[Xy,VD];grind) i hi;grind
def sS(t:uL)(m:K):∀n,t^(m+n)=t^m*t^n
 |0=>by skip;grind
 |n+1=>by skip;grind
def rn(n:K)(F:uL->uL):Prop:=∃f,∀t,F t=y7 n f t
def rn.self(n:K)(f:K->uL):rn n (y7 n f):=⟨f,λ_=>O⟩
def rn.mono{m n:K}{F:uL->uL}(h:rn n F)(a:n<=m):rn m F:=by have⟨f,b⟩:=h;refine⟨λi=>if i<n then f i else 0,λt=> ?_⟩;rw[b,XD a<|λi hi=>by rw[zG]];exact qO λi hi=>by simp[hi]
def rn.add{n:K}{F G:uL->uL}:rn n F->rn n G->rn n λt=>F t+G t:=λ⟨f,a⟩ ⟨g,b⟩=>⟨λi=>f i+g i,λt=>by have:=a t;rw[Xy];grind⟩
def rn.smul{n:K}{F:uL->uL}(c:uL):rn n F->rn n λt=>c*F t:=λ⟨f,a⟩=>⟨λi=>c*f i,λt=>by have:=a t;rw[VD];grind⟩
def rn.x{n:K}{F:uL->uL}:rn n F->rn (n+1) λt=>t*F t:=λ⟨f,a⟩=>⟨λi=>if i=0 then 0 else f (i-1),λt=>by
 have h1:y7 n (λi=>if i+1=0 then 0 else f (i+1-1)) t=y7 n f t:=qO λi _=>by simp
 rw[jL];grind⟩
def rn.xn{n:K}{F:uL->uL}(h:rn n F):∀m,rn (n+m) λt=>t^m*F t
 |0=>by have⟨f,a⟩:=h;exact⟨f,λt=>by have:=a t;grind⟩
 |m+1=>by have⟨f,a⟩:=(h.xn m).x;exact⟨f,λt=>by have:=a t;grind⟩
def rn.mul{m:K}{G:uL->uL}(a:rn (m+1) G):∀(n:K) (f:K->uL),rn (n+m) λt=>y7 n f t*G t
 |0,f=>⟨λ_=>0,λt=>by rw[nD];show(0:uL)*_=0;grind⟩
 |n+1,f=>by
  have⟨g,b⟩:=((rn.mul a n f).mono (m:=n+1+m) W).add (((a.xn n).smul<|f n).mono W);exact⟨g,λt=>by skip;show(y7 n f t+f n*t^n)*G t=_;grind⟩
def VF(F:uL->uL):Prop:=∃n,rn n F
def VF.self(n:K)(f:K->uL):VF (y7 n f):=⟨n,rn.self n f⟩
def VF.add{F G:uL->uL}:VF F->VF G->VF λt=>F t+G t:=λ⟨m,h⟩ ⟨n,k⟩=>⟨max m n,(h.mono W).add<|k.mono W⟩
def VF.mul{F G:uL->uL}:VF F->VF G->VF λt=>F t*G t:=λ⟨m,f,a⟩ ⟨n,k⟩=>⟨m+n,by have⟨g,b⟩:=rn.mul (k.mono<|xbB n) m f;exact⟨g,λt=>by rw[<-b];show F t*G t=y7 m f t*G t;rw[a]⟩⟩
def VF.c(a:uL):VF λ_=>a:=⟨1,λ_=>a,λt=>by rw[jL];show a=a+t*0;grind⟩
def VF.smul{F:uL->uL}(c:uL)(h:VF F):VF λt=>c*F t:=(VF.c c).mul h
def jd(P F G:uL->uL):Prop:=∃Q,VF Q/\∀t,F t-G t=P t*Q t
def jd.refl{P F:uL->uL}:jd P F F:=⟨_,VF.c 0,λt=>by grind⟩
def jd.of{P F G:uL->uL}(h:∀t,F t=G t):jd P F G:=⟨_,VF.c 0,λt=>by skip;grind⟩
def jd.symm{P F G:uL->uL}:jd P F G->jd P G F:=λ⟨Q,h,e⟩=>⟨_,h.smul (-1),λt=>by have:=e t;grind⟩
def jd.trans{P F G a:uL->uL}:jd P F G->jd P G a->jd P F a:=λ⟨Q,h,e⟩ ⟨R,k,b⟩=>⟨_,h.add k,λt=>by have:=e t;grind⟩
def jd.add{P F G a b:uL->uL}:jd P F G->jd P a b->jd P (λt=>F t+a t) λt=>G t+b t:=λ⟨Q,h,e⟩ ⟨R,k,c⟩=>⟨_,h.add k,λt=>by have:=e t;grind⟩
def jd.mul{P F G a b:uL->uL}(c:VF a)(d:VF G):jd P F G->jd P a b->jd P (λt=>F t*a t) λt=>G t*b t:=λ⟨Q,h,e⟩ ⟨R,k,f⟩=>⟨_,(h.mul c).add<|d.mul k,λt=>by have:=e t;grind⟩
def jd.smul{P F G:uL->uL}(c:uL):jd P F G->jd P (λt=>c*F t) λt=>c*G t:=λ⟨Q,h,e⟩=>⟨_,h.smul c,λt=>by have:=e t;grind⟩
def jd.sub{P F G a b:uL->uL}(h:jd P F G)(k:jd P a b):jd P (λt=>F t-a t) λt=>G t-b t:=by have⟨Q,h,e⟩:=h.add<|k.smul (-1);exact⟨Q,h,λt=>by have:=e t;grind⟩
def jd.inj{d:K}{b f g:K->uL}(o:b d=1)(h:jd (y7 (d+1) b) (y7 d f) (y7 d g)):∀i,i<d->f i=g i:=by
 have⟨Q,⟨n,q,a⟩,e⟩:=h;have j:∀n (q:K->uL),(∀t,y7 d f t-y7 d g t=y7 (d+1) b t*y7 n q t)->∀t,y7 n q t=0:=by
  intro n
  induction n with
  |zero=>intro q _ t;rfl
  |succ n p=>
   intro q e;have⟨c,hc⟩:=((((rn.self d f).add<|(rn.self d g).smul (-1)).mono (m:=n+d) W).add<|(rn.mul (rn.self (d+1) b) n q).smul (-1)).add ((((rn.self d b).xn n).smul (-q n)).mono (m:=n+d) W);have h1:=DJ (n+d+1) (λi=>if i<n+d then c i else-q n) 0 (λk _=>by
    show y7 (n+d) _ _+(if n+d<n+d then c (n+d)else-q n)*(k:uL)^(n+d)=0;have r:y7 (n+d) (λi=>if i<n+d then c i else-q n) (k:uL)=y7 (n+d) c k:=qO λi hi=>by simp[hi]
    have s:=hc k;have u:y7 d f (k:uL)-y7 d g k=(y7 d b k+b d*(k:uL)^d)*(y7 n q k+q n*(k:uL)^n):=e k;have v:y7 (d+1) b (k:uL)=y7 d b k+b d*(k:uL)^d:=O;rw[r,<-s,zG,sS];show y7 d f k+ -1*y7 d g k+ -1*(y7 n q k*y7 (d+1) b k)+ -q n*((k:uL)^n*y7 d b k)+ -q n*((k:uL)^n*(k:uL)^d)=0;rw[v];rw[o]at u⊢;grind) (n+d) W
   simp only[xfQ,Z5]at h1;have q0:q n=0:=by grind
   have l:∀t,y7 (n+1) q t=y7 n q t:=λt=>by show y7 n q t+q n*t^n=_;rw[q0,xeA,xem]
   intro t;rw[l];exact p q (λt=>by rw[<-l];exact e t) t
 intro i hi;exact zcN (λt=>by have:=e t;rw[a,j n q (λt=>by rw[<-a];exact e t),Rat.mul_zero]at this;clear e a j;grind) i hi
section
variable{k j i:wL}{f g:wL->uL}{a b:wF}{l:ww uL}
def yH(l:N uL)(i:K):uL:=l.getD i 0
def xD(l:N uL):uL->uL:=y7 (X l)<|yH l
def KG(k:K)(f:K->uL):Prop:=∃D:K,0<D/\D<2^k/\∀i,∃n:J,f i*D=n/\n.natAbs<2^k
def Ht(k:K)(l:N uL):Prop:=KG k<|yH l
def Hx(k:K)(x:uL):Prop:=∃D:K,0<D/\D<2^k/\∃n:J,x*D=n/\n.natAbs<2^k
def KG.hx(h:KG k f)(i:K):Hx k (f i):=by have⟨D,h0,h1,c⟩:=h;exact⟨D,h0,h1,c i⟩
def za2{K:wL}(h:k<=64*K):2^k<=18446744073709551616^K:=xal (xam rx h)<|by rw[xcg];exact Nm _
theorem zjk{x:uL}{D:K}{n:J}(h0:0<D)(h:x*D=n):x=mkRat n D:=by
 have c:(D:uL)≠0:=λe=>by have:=xfk.1<|e.trans (by rfl:(0:uL)=((0:K):uL));lia
 rw[Rat.mkRat_eq_div];grind
def Hx.hs{x:uL}(h:Hx k x)(m:k<=256000):fS x:=by have⟨D,h0,h1,n,d,e⟩:=h;rw[zjk h0 d];have c:=za2 (W:k<=64*4000);exact Qh.mk (xag e c) (xag (by skip;exact h1) c) rx
def KG.mono(h:KG j f)(c:j<=k):KG k f:=by have⟨D,h0,h1,d⟩:=h;have:=xam (rx:0<2) c;exact⟨D,h0,W,λi=>by have⟨n,a,b⟩:=d i;exact⟨n,a,W⟩⟩
def xQ(c:a.natAbs<2^j)(d:b.natAbs<2^k):(a*b).natAbs<2^(j+k):=by rw[xcw,xbg];exact xbS c d
theorem Hx.mul{x y:uL}(c:Hx j x)(d:Hx k y):Hx (j+k) (x*y):=by have⟨D,h0,h1,n,o,e⟩:=c;have⟨E,g0,g1,m,p,h⟩:=d;refine⟨D*E,xdr h0 g0,by rw[xbg];exact xbS h1 g1,n*m,?_,xQ e h⟩;grind
def Hl(c:a.natAbs<2^k)(d:b.natAbs<2^k):(a+b).natAbs<2^(k+1):=by skip;lia
theorem KG.comb{c:uL}(h:KG j f)(d:KG k g){s:K}(hc:∃m:J,c=m/\m.natAbs<2^s):KG (j+k+s+1) λi=>f i+c*g i:=by
 have⟨D,h0,h1,e⟩:=h;have⟨E,g0,g1,o⟩:=d;obtain⟨m,rfl,p⟩:=hc;have e1:D*E<2^(j+k):=by rw[xbg];exact xbS h1 g1
 have v:=xam (rx:0<2) (W:j+k<=j+k+s+1);refine⟨D*E,xdr h0 g0,W,λi=> ?_⟩;have⟨n,q,r⟩:=e i;have⟨u,b1,b2⟩:=o i;refine⟨n*E+m*(u*D),?_,Hl (k:=j+k+s) ?_ ?_⟩;rw[Rat.intCast_add,xcJ,xcJ,xcJ,xeR,<-q,<-b1];show _=f i*D*(E:uL)+m*(g i*E*(D:uL));grind;have:=xQ r (b:=(E:J)) (k:=k) (by rw[xaL];exact g1);have:=xam (rx:0<2) (W:j+k<=j+k+s);lia;have:=xQ p (xQ b2 (b:=(D:J)) (k:=j)<|by rw[xaL];exact h1);have t:s+(k+j)=j+k+s:=W
 rwa[t]at this
theorem KG.less{b:K}{h:K->uL}{e:K}(m:KG k f)(o:KG b g)(p:∀i,h i=f i\/∃j,h i=f i-f e*g j):KG (k+b+1) h:=by
 have⟨D,h0,h1,c⟩:=m;have⟨E,g0,g1,r⟩:=o;have e1:D*E<2^(k+b):=by rw[xbg];exact xbS h1 g1
 have t:=xam (rx:0<2) (W:k+b<=k+b+1);refine⟨D*E,xdr h0 g0,W,λi=> ?_⟩;have⟨n,d,s⟩:=c i;have a3:=xQ s (b:=(E:J)) (k:=b) (by rw[xaL];exact g1);obtain q|⟨j,q⟩:=p i
 refine⟨n*E,?_,W⟩;rw[q,xcJ,xeR,<-d];show _=f i*D*(E:uL);grind;have⟨u,b1,b2⟩:=r j;have⟨v,c1,c2⟩:=c e;have w:=xQ c2 b2;refine⟨n*E-v*u,?_,W⟩;rw[q,Rat.intCast_sub,xcJ,xcJ,xeR,<-d,<-b1,<-c1];show _=f i*D*(E:uL)-_;grind
def mo(h:i<X l:=by lia):(l.map cq).getD i ((I,[]),[])=cq (yH l i):=by unfold yH;simp[xaa h]
theorem Dn{v:uL}(h:i<X l):yH (l.set i v)=upq (yH l) i v:=by funext j;unfold yH upq;by_cases e:j=i;simp_all;grind
def ZR(h:X l<=i:=by lia):yH l i=0:=by unfold yH;simp[xbh h]
def EK(h:i<k):yH (l.take k) i=yH l i:=by unfold yH;simp[h]
def Zk{n:K}(h:X l<=n)(t:uL):xD l t=y7 n (yH l) t:=(XD h (λi hi=>ZR hi) t).symm
def Ht.hs{k i:K}{l:N uL}(h:Ht k l)(c:k<=256000):fS (yH l i):=(KG.hx h i).hs c
theorem Ht.take{k m:K}{l:N uL}(h:Ht k l):Ht k (l.take m):=by have⟨D,h0,h1,c⟩:=h;refine⟨D,h0,h1,λi=> ?_⟩;by_cases e:i<m;rw[EK e];exact c i;rw[ZR<|by rw[xas];lia];exact⟨0,by grind,xdD _⟩
def Hf(d:K)(q:N uL):Prop:=X q<=d/\(X q≠0->yH q (X q-1)≠0)
def Hf.ext{d:K}{p q:N uL}(hp:Hf d p)(c:Hf d q)(h:∀i,i<d->yH p i=yH q i):p=q:=by
 have hl:X p=X q:=by
  rcases xfy (X p) (X q) with e|e|e
  exact jp ((h _ (by have:=c.1;lia)).symm.trans<|ZR)<|c.2 W
  exact e;exact jp ((h _ (by have:=hp.1;lia)).trans<|ZR)<|hp.2 W
 refine xeb hl λi h1 m=> ?_;have:=h i (by have:=hp.1;lia);unfold yH at this;simp_all
def Hf.inj{d:K}{β:K->uL}{p q:N uL}(c:β d=1)(hp:Hf d p)(m:Hf d q)(h:jd (y7 (d+1) β) (xD p) (xD q)):p=q:=by have⟨Q,k,e⟩:=h;exact hp.ext m<|jd.inj c ⟨Q,k,λt=>by rw[<-Zk hp.1,<-Zk m.1];exact e t⟩
def Hf.nil(d:K):Hf d []:=⟨xaf _,λh=>jp O h⟩
structure Fld(r:v6)(d b:K)(β:K->uL):Prop where
 len:r.2.length=d+1
 at_:∀i,i<=d->r.2.getD i ((I,[]),[])=cq (β i)
 one:β d=1
 ht:KG b β
 d1:1<=d
 d2:d<=16
 b2:b<=700
theorem mC{β g:K->uL}{c:uL}{e:K}(h0:∀i,i<e->g i=0):∀s,(∀i,i<s->g (e+i)=c*β i)->∀t,y7 (e+s) g t=c*(t^e*y7 s β t)
 |0,_,t=>by show y7 e g t=c*(t^e*0);rw[Rat.mul_zero,Rat.mul_zero];exact Kb λi hi=>by rw[h0 i hi,xeA]
 |s+1,h,t=>by
  show y7 (e+s) g t+g (e+s)*t^(e+s)=c*(t^e*(y7 s β t+β s*t^s));rw[mC h0 s (λi hi=>h i W) t];grind
end
section
variable{fu d b k:wL}{r:v6}{β:wL->uL}
def zmQ(F:Fld r d b β){l:N uL}{e:K}(hl:Ht k l)(t:d<=e)(hc:e<X l)(u:X l<=1000)(v:k+b+1<=256000)(f:3000000<=fu):
 ∃y,zg (YR fu (e:J) r (d:J)) fu (0,l.map cq,cq<|yH l e)=Z y/\∃l',y=l'.map cq/\X l'=X l/\∀i,yH l' i=if e-d<=i/\i<e then yH l i-yH l e*β (i-(e-d))else yH l i:=by
 have hd:=F.d2;refine zM (λs=>∃(m:K) (l1:N uL),s=((m:J),l1.map cq,cq<|yH l e)/\m<=d/\X l1=X l/\∀i,yH l1 i=if e-d<=i/\i<e-d+m then yH l i-yH l e*β (i-(e-d))else yH l i) (λs=>d-s.1.toNat) _ ?_ fu _ ⟨0,l,O,xaf _,O,λi=>by rw[zG]⟩ (by show d-(0:J).toNat<fu;lia);rintro _ L ⟨m,l1,rfl,j,h1,a⟩ n;unfold YR;simp only;by_cases o:m=d;rw[zG,Y O];simp only[xaj,Z5];exact⟨_,O,l1,O,h1,λi=>by rw[a];congr 1;rw[o,(W:e-d+d=e)]⟩;rw[yg,Y O];simp only[Z4];have e1:(e:J)-d=((e-d:K):J):=W
 have g:((e-d:K):J)+m=((e-d+m:K):J):=W
 rw[e1,zb,g,zb,zb,g,zb,zm (by rw[xan];lia),ze,mo,zm (by rw[F.len];lia),ze,F.at_ m j];have p:fS (yH l e):=hl.hs W;have q:fS (β m):=(F.ht.hx m).hs W;have a3:fS (yH l e*β m):=((KG.hx hl e).mul<|F.ht.hx m).hs W;have a4:yH l1 (e-d+m)=yH l (e-d+m):=by rw[a,zG]
 have a5:fS (yH l<|e-d+m):=hl.hs W;rw[a4,Y<|dR p.rs q.rs f,uq,uq,Y<|sw a5.rs a3.rs f,uq,uq,zm (by rw[xan];lia),ze,zb,<-List.map_set];refine n _ ⟨m+1,_,O,W,by rw[xbe,h1],λi=> ?_⟩ (by show d-((m:J)+1).toNat<d-(m:J).toNat;lia);rw[Dn W];unfold upq;by_cases c:i=e-d+m;rw[Q c,yg,c,(W:e-d+m-(e-d)=m)];rw[S c,a];congr 1;exact lM ⟨λh=>by lia,λh=>by lia⟩
theorem Lz(F:Fld r d b β){l l':N uL}{e:K}(q:d<=e)(h:X l=e+1)(hl:Ht k l)(h1:X l'=X l)(a:∀i,yH l' i=if e-d<=i/\i<e then yH l i-yH l e*β (i-(e-d))else yH l i):
 jd (y7 (d+1) β) (xD<|l'.take e) (xD l)/\Ht (k+b+1) (l'.take e):=by
 constructor;refine⟨_,((VF.self (e-d+1) (λi=>if i=e-d then 1 else 0)).smul (-yH l e)),λt=> ?_⟩;have g1:xD (l'.take e) t=y7 e (yH l) t+ -1*y7 e (λi=>if e-d<=i/\i<e then yH l e*β (i-(e-d))else 0) t:=by rw[Zk (n:=e) (by rw[xas];lia),<-VD,<-Xy];refine qO λi hi=> ?_;rw[EK hi,a];grind
 have f:=mC (β:=β) (g:=λi=>if e-d<=i/\i<e then yH l e*β (i-(e-d))else 0) (c:=yH l e) (e:=e-d) (λi hi=>by rw[zG]) d (λi hi=>by rw[yg,(W:e-d+i-(e-d)=i)]) t;rw[(W:e-d+d=e)]at f;have j:xD l t=y7 e (yH l) t+yH l e*t^e:=by unfold xD;rw[h];rfl
 have m:y7 (d+1) β t=y7 d β t+1*t^d:=by rw[<-F.one];rfl
 have o:y7 (e-d+1) (λi=>if i=e-d then 1 else 0) t=t^(e-d):=by show y7 (e-d) _ t+(if e-d=e-d then(1:uL)else 0)*t^(e-d)=_;rw[Q O,show y7 (e-d) (λi=>if i=e-d then 1 else 0) t=0 from Kb λi hi=>by show(if i=e-d then(1:uL)else 0)*t^i=0;rw[zG,xeA]];grind
 have p:t^e=t^(e-d)*t^d:=by rw[<-sS,(W:e-d+d=e)]
 rw[g1,f,j,m,o,p];grind
 exact Ht.take (KG.less (e:=e) hl F.ht λi=>by
  rw[a];by_cases c:e-d<=i/\i<e;exact .inr ⟨_,Q c⟩;exact .inl<|S c)
def zmp(F:Fld r d b β){k0 n0:K}{l0:N uL}(h0:Ht k0 l0)(hn:X l0=n0)(C:n0<=100)(D:k0+n0*(b+1)<=255000)(o:3000000<=fu):
 ∃y,zg (YS fu r (d:J)) fu (l0.map cq,(n0:J)-1)=Z y/\∃q,(y=.inl (q.map cq)\/y=.inr (q.map cq))/\Hf d q/\jd (y7 (d+1) β) (xD q) (xD l0)/\Ht (k0+n0*(b+1)) q:=by
 have hd:=F.d2;have E:=F.b2;refine zM (λs=>∃(l:N uL) (j:K),s=(l.map cq,(X l:J)-1)/\X l+j=n0/\jd (y7 (d+1) β) (xD l) (xD l0)/\Ht (k0+j*(b+1)) l) (λs=>X s.1) _ ?_ fu _ ⟨l0,0,by rw[hn],W,jd.refl,by simpa using h0⟩ (by show(l0.map cq).length<fu;rw[xan];lia);rintro _ L ⟨l,j,rfl,G,c,a⟩ p;have H:j*(b+1)<=n0*(b+1):=xac _ W;unfold YS;simp only;by_cases u:X l=0
 rw[zG];refine⟨_,O,l,.inl O,?_,c,a.mono W⟩;rw[xbt.1 u];exact Hf.nil d;have⟨e,g⟩:∃e,X l=e+1:=⟨X l-1,W⟩;have e1:(X l:J)-1=(e:J):=W
 rw[e1,yg,zm (by rw[xan];lia),ze,mo];by_cases hl:d<=e;rw[yg,Y O];simp only[Z4];obtain⟨_,h1,l',rfl,v,w⟩:=zmQ F a hl W W W o;have⟨x,z⟩:=Lz F hl g a v w;have m:X (l'.take e)=e:=by rw[xas];lia
 rw[Y h1,yF,xN (by rw[xan];lia),ze,zb,<-xeU];exact p _ ⟨_,j+1,by rw[m],W,x.trans c,z.mono<|by rw[xcQ];lia⟩ (by show(((l'.take e).map cq)).length<X (l.map cq);rw[xan,xan];lia);rw[zG,Y O];simp only[xaj,Z5];have A:fS (yH l e):=a.hs W;rw[Y<|oV A.rs o,uq];by_cases hc:yH l e=0
 rw[Q<|mU.2 hc,yF,xN (by rw[xan];lia),ze,zb,<-xeU];have m:X (l.take e)=e:=by rw[xas];lia
 refine p _ ⟨_,j+1,by rw[m],W,jd.trans (jd.of λt=> ?_) c,a.take.mono<|by rw[xcQ];lia⟩ (by show((l.take e).map cq).length<X (l.map cq);rw[xan,xan];lia);rw[Zk (n:=e) W];show _=y7 (X l) (yH l) t;rw[g];show _=y7 e (yH l) t+yH l e*t^e;rw[hc,xeA,xem];exact qO λi hi=>by rw[EK hi]
 rw[S<|λh=>hc<|mU.1 h,zb];have B:(e:J)+1=((e+1:K):J):=W
 rw[B,yF,xN (by rw[xan];lia),ze,<-g,<-xan (f:=cq),xbR];exact⟨_,O,l,.inr O,⟨W,λ_=>by rw[g];exact hc⟩,c,a.mono W⟩
def zl8{a:N D}(e:∀x∈a,Yi x)(hn:X a<=100)(f:3000000<=fu):zg (YV fu r a) fu (0,So (X a) ((I,[]),[]))=Z ((a.map qv).map cq):=by
 refine zB (λs=>∃m:K,m<=X a/\s=((m:J),((a.take m).map qv).map cq++So (X a-m) ((I,[]),[]))) (λs=>X a-s.1.toNat) _ ?_ fu _ ⟨0,W,rC⟩ (by show X a-(0:J).toNat<fu;lia);rintro _ L ⟨m,j,rfl⟩ g;unfold YV;simp only;by_cases h:m=X a;rw[zG,Y O];simp[h];rw[yg,Y O];simp only[Z4];have i:Yi (a.getD m ((I,[]),[])):=by
  have c:m<X a:=W
  rw[UV,xaa c];exact e _<|xby c
 rw[yn,F,Y<|kh i f,zm (by simp;lia),F,zb,OM (by simp;lia) W];refine g _ ⟨m+1,W,?_⟩ (by show X a-((m:J)+1).toNat<X a-(m:J).toNat;lia);have c:m<X a:=W
 rw[xeV,xaa c,UV,xaa c];simp only[Option.toList,xdn,xaO,xbP,xdR];rfl
theorem mg(F:Fld r d b β){a:N D}(e:∀x∈a,Yi x)(hn:X a<=100)(f:Ht k (a.map qv))(g:k+X a*(b+1)<=255000)(c:3000000<=fu):
 ∃q,xy fu r a=Z (q.map cq)/\Hf d q/\jd (y7 (d+1) β) (xD q) (xD<|a.map qv)/\Ht (k+X a*(b+1)) q:=by
 have hd:=F.d2;have⟨y,h1,q,h,i⟩:=zmp F f (xan _) hn g c;unfold xy;rw[yF,y9,ze,Y<|zl8 e hn c,F.len,zb,xan,xan,zb,(W:((d+1:K):J)-1=d),Y h1];grind
end
section
variable{fu d b j k:wL}{r:v6}{β:wL->uL}
def vl(a:N D):N uL:=a.map qv
theorem U4(a:N D)(i:K):yH (vl a) i=qv (a.getD i ((I,[]),[])):=by unfold yH vl;rw[UV,UV,xci];cases a[i]? <;>simp[zb0]
theorem zhv{a:N D}{i:K}{v:uL}:vl (a.set i<|cq v)=(vl a).set i v:=by unfold vl;rw[List.map_set,uq]
theorem Yn(l:N uL):vl (l.map cq)=l:=by unfold vl;rw[xcE];exact(xcc λx _=>uq x).trans<|List.map_id l
theorem uG(a:N D):X (vl a)=X a:=xan _
theorem aD{a:N D}(c:∀x∈a,Yi x)(i:K):Yi (a.getD i ((I,[]),[])):=by
 rw[UV]
 cases h:a[i]? with
 |none=>exact Yi.nil
 |some x=>exact c x<|xbv h
theorem zdI{a:N D}(e:∀x∈a,Yi x){i:K}{v:uL}(hv:fS v):∀x∈a.set i (cq v),Yi x:=λx c=>by
 obtain h|h:=xdx c
 grind;rw[h];exact hv.rs
theorem zk9(n:K):∀x∈So n (((I,[]),[]):D),Yi x:=λx a=>by rw[(xen.1 a).2];exact Yi.nil
theorem O0{l:N uL}{k:K}(h:Ht k l)(a:k<=256000):∀x∈l.map cq,Yi x:=λx c=>by
 obtain⟨y,f,rfl⟩:=xat.1 c;have⟨i,hi,e⟩:=xcr.1 f;have:=h.hs (i:=i) a;unfold yH at this;rw[UV,xaa hi,e]at this;exact this.rs
def zhQ{q:N uL}{o:N D}{i2:J}{i1:K}{x:uL}{t7:N D}(l:∀x∈o,Yi x)(hl:i1+X q<=X o)(h1:X o<=1000)(n:fS x)(p:∀m,fS<|yH q m)(t:∀m,fS<|x*yH q m)(u:∀j m,fS<|yH (vl o) j+x*yH q m)(g:3000000<=fu):
 ∃y,zg (kU fu (i1:J) (q.map cq) r t7 i2) fu (0,q.map cq,o,cq x)=Z y/\∃a,y=(q.map cq,a)/\(∀x∈a,Yi x)/\X a=X o/\∀j,yH (vl a) j=yH (vl o) j+(if i1<=j/\j<i1+X q then x*yH q (j-i1)else 0):=by
 refine zM (λs=>∃(m:K) (o1:N D),s=((m:J),q.map cq,o1,cq x)/\m<=X q/\(∀x∈o1,Yi x)/\X o1=X o/\∀j,yH (vl o1) j=yH (vl o) j+(if i1<=j/\j<i1+m then x*yH q (j-i1)else 0)) (λs=>X q-s.1.toNat) _ ?_ fu _ ⟨0,o,O,xaf _,l,O,λj=>by rw[zG,xem]⟩ (by show X q-(0:J).toNat<fu;lia);rintro _ L ⟨m,o1,rfl,A,e,i,f⟩ v;unfold kU;simp only;rw[xan];by_cases hc:m=X q;rw[zG,Y O];simp only[xaj,Z5];exact⟨_,O,o1,O,e,i,λj=>by rw[f,hc]⟩;rw[yg,Y O];simp only[Z4];have w:(i1:J)+m=((i1+m:K):J):=W
 have z:qv (o1.getD (i1+m) ((I,[]),[]))=yH (vl o) (i1+m):=by rw[<-U4,f,zG,xem]
 rw[yn,F,mo,w,zb,zb,yn,F,Y<|dR n.rs (p m).rs g,uq,uq,Y<|sa (aD e _) (t m).rs g,uq,z,yn,F,zb];refine v _ ⟨m+1,_,O,W,zdI e<|u _ _,by rw[xbe,i],λj=> ?_⟩ (by show X q-((m:J)+1).toNat<X q-(m:J).toNat;lia);rw[zhv,Dn<|by rw[uG];lia];unfold upq;by_cases c:j=i1+m;rw[Q c,yg,c,(W:i1+m-i1=m)];rw[S c,f];congr 2;exact lM ⟨λh=>by lia,λh=>by lia⟩
theorem Fi{D:wL}{x:uL}{n:J}{K:wL}(h0:0<D)(h1:D<2^K)(a:x*D=n)(c:n.natAbs<2^K)(e:K<=256000:=by lia):fS x:=Hx.hs ⟨D,h0,h1,n,a,c⟩ e
theorem zhX{p q:N uL}(hp:Ht j p)(H:Ht k q)(hc:X p<=16)(hd:X q<=16)(hK:j+k+5<=255000)(M:3000000<=fu):
 ∃y,zg (ui fu r<|p.map cq) fu (0,q.map cq,So (X p+X q) ((I,[]),[]))=Z y/\(∀x∈y,Yi x)/\X y=X p+X q/\Ht (j+k+5) (vl y)/\∀t,xD (vl y) t=xD p t*xD q t:=by
 have⟨D,d0,d1,w⟩:=hp;have⟨E,e0,e1,z⟩:=H;have w1:D*E<2^(j+k):=by rw[xbg];exact xbS d1 e1
 have w2:2^(j+k+5)=2^(j+k)*32:=xbg 2 (j+k) 5;have cx:∀i m,∃n:J,yH p i*yH q m*((D*E:wL):uL)=n/\n.natAbs<2^(j+k):=λi m=>by
  have⟨n,a,h⟩:=w i;have⟨u,b1,b2⟩:=z m;exact⟨n*u,by rw[xeR,xcJ,<-a,<-b1];grind,xQ h b2⟩
 refine zM (λs=>∃(m:wL) (o:N Qr),s=((m:J),q.map cq,o)/\m<=X p/\(∀x∈o,Yi x)/\X o=X p+X q/\(∀i,∃n:J,yH (vl o) i*((D*E:wL):uL)=n/\n.natAbs<=m*2^(j+k))/\∀t,xD (vl o) t=y7 m (yH p) t*xD q t) (λs=>X p-s.1.toNat) _ ?_ fu _ ⟨0,_,O,xaf _,zk9 _,xaN,λi=>⟨0,by rw[U4];simp[UV,xdP];split<;>simp[zb0],rC⟩,λt=> ?_⟩ (by show X p-(0:J).toNat<fu;lia);rintro _ L ⟨m,o,rfl,hm,h1,A,v,B⟩ P;unfold ui;simp only;rw[xan];by_cases Q:m=X p;rw[zG,Y O];simp only[xaj,Z5];refine⟨_,O,h1,A,⟨D*E,xdr d0 e0,W,λi=> ?_⟩,λt=>by rw[B,Q];rfl⟩;have⟨n,a,h⟩:=v i;have:m*2^(j+k)<=16*2^(j+k):=xac _ W;have:=xdD<|j+k;exact⟨n,a,W⟩;rw[yg,Y O];simp only[Z4];have w3:m*2^(j+k)<=16*2^(j+k):=xac _ W;have w4:=xdD<|j+k;have e5:=xam (rx:0<2) (W:j<=j+k+5);have e6:=xam (rx:0<2) (W:k<=j+k+5);have R:fS (yH p m):=by have⟨n,a,h⟩:=w m;exact Fi (K:=j+k+5) d0 W a W
 have S:∀i,fS (yH q i):=λi=>by have⟨n,a,h⟩:=z i;exact Fi (K:=j+k+5) e0 W a W
 have T:∀i,fS (yH p m*yH q i):=λi=>by have⟨n,a,h⟩:=cx m i;exact Fi (K:=j+k+5) (xdr d0 e0) W a W
 have C:∀i l,∃n:J,(yH (vl o) i+yH p m*yH q l)*((D*E:wL):uL)=n/\n.natAbs<=(m+1)*2^(j+k):=λi l=>by
  have⟨n,a,h⟩:=cx m l;have⟨u,b1,b2⟩:=v i;refine⟨u+n,by rw[Rat.intCast_add,<-a,<-b1];grind,?_⟩;rw[xcQ];lia
 have U:∀i l,fS (yH (vl o) i+yH p m*yH q l):=λi l=>by
  have⟨n,a,h⟩:=C i l;rw[xcQ]at h;exact Fi (K:=j+k+5) (xdr d0 e0) W a W
 rw[zm (by rw[xan];lia),F,mo];obtain⟨_,g1,V,rfl,g2,g3,G⟩:=zhQ (fu:=fu) (r:=r) (i2:=(X p:J)) (i1:=m) (x:=yH p m) (t7:=p.map cq) h1 W W R S T U M;rw[Y g1];simp only;rw[zb];refine P _ ⟨m+1,_,O,W,g2,g3.trans A,λi=> ?_,λt=> ?_⟩ (by show X p-((m:J)+1).toNat<X p-(m:J).toNat;lia);rw[G];split;exact C _ _;have⟨n,a,h⟩:=v i;exact⟨n,by rw[xem];exact a,by rw[xcQ];lia⟩;have c1:xD (vl V) t=xD (vl o) t+y7 (X p+X q) (λi=>if m<=i/\i<m+X q then yH p m*yH q (i-m)else 0) t:=by rw[Zk (n:=X p+X q) (by rw[uG];lia),Zk (n:=X p+X q) (by rw[uG];lia),<-Xy];exact qO λi _=>by rw[G]
 have c2:=mC (β:=yH q) (g:=λi=>if m<=i/\i<m+X q then yH p m*yH q (i-m)else 0) (c:=yH p m) (e:=m) (λi hi=>by rw[zG]) (X q) (λi hi=>by rw[yg,(W:m+i-m=i)]) t;have c3:=XD (f:=λi=>if m<=i/\i<m+X q then yH p m*yH q (i-m)else 0) (W:m+X q<=X p+X q) (λi hi=>by rw[zG]) t;rw[c1,c3,c2,B];show _=(y7 m (yH p) t+yH p m*t^m)*xD q t;show _+yH p m*(t^m*xD q t)=_;grind;have:∀i,yH (vl<|So (X p+X q) (((I,[]),[]):Qr)) i=0:=λi=>by rw[U4];simp[UV,xdP];split<;>simp[zb0]
 show y7 _ _ t=0*_;rw[xeA];exact Kb λi _=>by rw[this,xeA]
theorem eE(l:N uL):VF (xD l):=VF.self _ _
def zfr(F:Fld r d b β){a c:N D}(f:∀x∈a,Yi x)(hc:∀x∈c,Yi x)(g:X a<=32)(h:X c<=32)(i:Ht j (vl a))(l:Ht k (vl c))(C:j+k+101*(b+1)<=250000)(e:3000000<=fu):
 ∃q,xM fu r a c=Z (q.map cq)/\Hf d q/\jd (y7 (d+1) β) (xD q) (λt=>xD (vl a) t*xD (vl c) t)/\Ht (j+k+101*(b+1)) q:=by
 have hd:=F.d2;have E:=F.b2;have G:X a*(b+1)<=32*(b+1):=xac _ g;have H:X c*(b+1)<=32*(b+1):=xac _ h;have⟨p,m,n,s,u⟩:=mg (fu:=fu) F f W i W e;have⟨q,q1,q2,v,w⟩:=mg (fu:=fu) F hc W l W e;have hp:=n.1;have L:=q2.1;have⟨o,o1,o2,M,y,A⟩:=zhX (fu:=fu) (r:=r) u w W W W e;have P:X o*(b+1)<=32*(b+1):=xac _ W;have⟨z,B,z2,z3,z4⟩:=mg (fu:=fu) F o2 W y W e;refine⟨z,?_,z2,z3.trans<|(jd.of A).trans<|jd.mul (eE _) (eE _) s v,z4.mono W⟩;unfold xM;rw[Y m,Y q1,xan,xan,zb,(W:(X p:J)+X q=((X p+X q:K):J)),yF,y9,ze,Y o1,Y B]
def zlx{a c o:N D}{n:J}(q:∀x∈o,Yi x)(hc:∀x∈c,Yi x)(hl:X c<=X o)(h1:X o<=1000)(hn:n=1\/n= -1)(t:∀j,fS<|yH (vl o) j+yH (vl c) j*n)(u:∀j,fS<|yH (vl c) j*n)(f:3000000<=fu):
 ∃y,zg (YW fu r c n) fu (0,o)=Z y/\(∀x∈y,Yi x)/\X y=X o/\∀j,yH (vl y) j=yH (vl o) j+yH (vl c) j*n:=by
 have hd:WQ n:=by obtain rfl|rfl:=hn<;>decide
 have v:fS (n:uL):=by
  unfold fS Qh;rw[Rat.num_intCast,Rat.den_intCast];obtain rfl|rfl:=hn
  exact⟨Bz.one' rx,Bz.one' rx⟩;exact⟨Bz.one rx,Bz.one' rx⟩
 refine zM (λs=>∃(m:K) (o1:N D),s=((m:J),o1)/\m<=X c/\(∀x∈o1,Yi x)/\X o1=X o/\∀j,yH (vl o1) j=yH (vl o) j+(if j<m then yH (vl c) j*n else 0)) (λs=>X c-s.1.toNat) _ ?_ fu _ ⟨0,o,O,xaf _,q,O,λj=>by rw[zG,xem]⟩ (by show X c-(0:J).toNat<fu;lia);rintro _ L ⟨m,o1,rfl,A,g,p,i⟩ w;unfold YW;simp only;by_cases B:m=X c;rw[zG,Y O];simp only[xaj,Z5];refine⟨_,O,g,p,λj=> ?_⟩;rw[i];by_cases e:j<m;rw[Q e];rw[S e,ZR (l:=vl c) (by rw[uG];lia),xeA];rw[yg,Y O];simp only[Z4];have z:qv (o1.getD m ((I,[]),[]))=yH (vl o) m:=by rw[<-U4,i,zG,xem]
 rw[yn,F,yn,F,Y<|Ur hd f,Y<|dR (aD hc m) v.rs f,uq,Y<|sa (aD g m) (by rw[<-U4];exact(u m).rs) f,uq,z,<-U4,yn,F,zb];refine w _ ⟨m+1,_,O,W,zdI g<|t m,by rw[xbe,p],λj=> ?_⟩ (by show X c-((m:J)+1).toNat<X c-(m:J).toNat;lia);rw[zhv,Dn<|by rw[uG];lia];unfold upq;by_cases e:j=m;rw[Q e,yg,e];rw[S e,i];congr 2;exact lM ⟨λh=>by lia,λh=>by lia⟩
theorem znY{a:N D}{n:K}(h:X a<=n):(∀j,yH (vl<|LH (So n ((I,[]),[])) a) j=yH (vl a) j)/\X (LH (So n (((I,[]),[]):D)) a)=n/\((∀x∈a,Yi x)->∀x∈LH (So n (((I,[]),[]):D)) a,Yi x):=by
 have e:LH (So n (((I,[]),[]):D)) a=a++So (n-X a) ((I,[]),[]):=by unfold LH;rw[xaN,xcl h,xbR,List.drop_replicate]
 rw[e];refine⟨λj=> ?_,by simp;lia,λf x c=> ?_⟩;rw[U4,U4,UV,UV,xfM];split;rfl;grind;obtain h1|h1:=xab.1 c
 grind;rw[(xen.1 h1).2];exact Yi.nil
theorem SM(F:Fld r d b β){a c:N D}{n:J}(m:∀x∈a,Yi x)(hc:∀x∈c,Yi x)(B:X a<=32)(hi:X c<=32)(p:Ht j (vl a))(e:Ht k (vl c))(hn:n=1\/n= -1)(C:j+k+34*(b+1)<=250000)(f:3000000<=fu):
 ∃q,wG fu r a c n=Z (q.map cq)/\Hf d q/\jd (y7 (d+1) β) (xD q) (λt=>xD (vl a) t+n*xD (vl c) t)/\Ht (j+k+34*(b+1)) q:=by
 have hd:=F.d2;have E:=F.b2;have⟨c1,c2,u⟩:=znY (a:=a) (n:=max (X a) (X c)) W;have g:KG (j+k+1+1) λi=>yH (vl a) i+n*yH (vl c) i:=KG.comb (s:=1) p e ⟨n,O,by obtain rfl|rfl:=hn<;>decide⟩;have v:∀i,Hx (k+1) (yH (vl c) i*n):=λi=>(KG.hx e i).mul ⟨1,rx,rx,n,by show(n:uL)*((1:K):uL)=n;grind,by obtain rfl|rfl:=hn<;>decide⟩;have⟨o,o1,o2,G,w⟩:=zlx (fu:=fu) (r:=r) (a:=a) (c:=c) (n:=n) (u m) hc W W hn (λi=>by rw[c1,Rat.mul_comm];exact(g.hx i).hs W) (λi=>(v i).hs W) f;have h:∀i,yH (vl o) i=yH (vl a) i+n*yH (vl c) i:=λi=>by rw[w,c1,Rat.mul_comm]
 have H:X o*(b+1)<=32*(b+1):=xac _ W;have y:Ht (j+k+1+1) (vl o):=by unfold Ht;rw[show yH (vl o)=λi=>yH (vl a) i+n*yH (vl c) i from uT h];exact g
 have⟨z,A,z2,z3,z4⟩:=mg (fu:=fu) F o2 W y W f;refine⟨z,?_,z2,z3.trans<|jd.of λt=> ?_,z4.mono W⟩;unfold wG;rw[ze,(W:max (X a:J) (X c)=((max (X a) (X c):K):J)),yF,y9,ze,ze,Y o1,Y A];rw[show o.map qv=vl o from O,Zk (n:=max (X a) (X c)) (by rw[uG];lia),Zk (l:=vl a) (n:=max (X a) (X c)) (by rw[uG];lia),Zk (l:=vl c) (n:=max (X a) (X c)) (by rw[uG];lia),<-VD,<-Xy];exact qO λi _=>by rw[h]
end
section
variable{fu d b j k h:wL}{r:v6}{β:wL->uL}
theorem ze7{n i:K}(h:i<n):yH ((xaC n).map β) i=β i:=by unfold yH;simp[h]
theorem zjC{l:N uL}{k:K}(h:Ht k l)(a:k<=256000):∀x∈l.map cq,Yi x:=O0 h a
end
section
variable{m u d g:ww wF}{P:wL}{f v w:Pz}{y p a:wF}{b:wL->Pz}{l us:ww (ww wF)}
def pp(f:Pz):K->Pz
 |0=>E 1
 |n+1=>pp f n*f
def Ek(f:Pz)(m:K):∀n,pp f (m+n)=pp f m*pp f n
 |0=>(yp _).symm
 |n+1=>by rw[<-xcV];show pp f (m+n)*f=_;rw[Ek f m n,zd];rfl
def zj8(f g:Pz):∀n,pp (f*g) n=pp f n*pp g n
 |0=>(yp _).symm
 |n+1=>by
  show pp (f*g) n*(f*g)=pp f n*f*(pp g n*g);rw[zj8 f g n,zd,zd,zF<|pp g n]
def zj0(f:Pz)(m:K):∀n,pp (pp f m) n=pp f (m*n)
 |0=>rfl
 |n+1=>by rw[Nat.mul_succ,Ek f,<-zj0 f m n];rfl
def zgp(c:J):∀n,pp (E c) n=E (c^n)
 |0=>by rw[xce];rfl
 |n+1=>by show pp (E c) n*E c=_;rw[zgp c n,ky,xbO]
def Fs.pp{f:Pz}(h:Fs f):∀n,Fs (pp f n)
 |0=>⟨1,λk c=>zG⟩
 |n+1=>(Fs.pp h n).mul h
def smP:K->(K->Pz)->Pz
 |0,_=>E 0
 |n+1,F=>smP n F+F n
def W5{F G:K->Pz}:∀n,(∀i,i<n->F i=G i)->smP n F=smP n G
 |0,_=>rfl
 |n+1,h=>by show smP n F+F n=smP n G+G n;rw[W5 n λi hi=>h i W,h n W]
def zco{m:J}{F G:K->Pz}:∀n,(∀i,i<n->Cg m (F i) (G i))->Cg m (smP n F) (smP n G)
 |0,_=>Cg.rfl
 |n+1,h=>(zco n λi hi=>h i W).add<|h n W
theorem Kt(f g:Pz):f+g=g+f:=by grind [zX,Int.add_comm]
def VW(f g h:Pz):f+g+h=f+(g+h):=uT λk=>by simp only[zX];lia
def Wy(f:Pz):f+E 0=f:=uT λk=>by rw[zX,zS,xbY]
def FY(f:Pz):E 0+f=f:=uT λk=>by rw[zX,zS,xcI]
def ry(g:Pz)(F:K->Pz):∀n,smP n F*g=smP n λi=>F i*g
 |0=>yB g
 |n+1=>by show(smP n F+F n)*g=smP n (λi=>F i*g)+F n*g;rw[yV,ry g F n]
def Ns(F G:K->Pz):∀n,smP n (λi=>F i+G i)=smP n F+smP n G
 |0=>(Wy _).symm
 |n+1=>by
  show smP n (λi=>F i+G i)+(F n+G n)=smP n F+F n+(smP n G+G n);rw[Ns F G n];funext k;simp only[zX];lia
def Y4(F:K->Pz):∀n,smP (n+1) F=F 0+smP n λi=>F (i+1)
 |0=>by show E 0+F 0=F 0+E 0;rw[Kt]
 |n+1=>by show smP (n+1) F+F (n+1)=F 0+(smP n (λi=>F<|i+1)+F (n+1));rw[Y4 F n,VW]
def zjJ{m:J}{F:K->Pz}(n:K)(h:∀i,i<n->Cg m (F i) (E 0)):Cg m (smP n F) (E 0):=by
 induction n with
 |zero=>exact Cg.rfl
 |succ n c=>
  have:=(c λi hi=>h i W).add (h n W);rw[Wy]at this;exact this
theorem zaK(a b:J):E (a+b)=E a+E b:=by grind [E,zX]
def zhx(f g:Pz):∀n,pp (f+g) n=smP (n+1) λi=>E (fU n i)*(pp f i*pp g (n-i))
 |0=>by
  show E 1=E 0+E ((fU 0 0:K):J)*(E 1*E 1);rw[FY,zE,show((fU 0 0:K):J)=1 from O,zE]
 |n+1=>by
  show pp (f+g) n*(f+g)=_;rw[zhx f g n,wI,ry,ry];have e1:(smP (n+1) λi=>E (fU n i)*(pp f i*pp g (n-i))*g)=smP (n+2) λi=>E (fU n i)*(pp f i*pp g (n+1-i)):=by
   have c:E ((fU n (n+1):K):J)*(pp f (n+1)*pp g (n+1-(n+1)))=E 0:=by rw[Ah n (n+1) W];exact yB _
   show _=smP (n+1) _+E ((fU n (n+1):K):J)*(pp f (n+1)*pp g (n+1-(n+1)));rw[c,Wy];refine W5 _ λi hi=> ?_;rw[(W:n+1-i=n-i+1),zd,zd];rfl
  have e:(smP (n+1) λi=>E (fU n i)*(pp f i*pp g (n-i))*f)=smP (n+1) λi=>E (fU n i)*(pp f (i+1)*pp g (n+1-(i+1))):=
   W5 _ λi hi=>by rw[(W:n+1-(i+1)=n-i),zd,zo (pp f i*_) f,<-zd f,zo f<|pp f i];rfl
  rw[e1,e,Y4 _<|n+1,Y4 (λi=>E ((fU (n+1) i:K):J)*(pp f i*pp g (n+1-i)))<|n+1,QG,QG,<-VW,Kt<|smP _ _,VW,<-Ns];congr 1;refine W5 _ λi hi=> ?_;rw[K4,xfj,zaK,yV,Kt]
def zq4(hp:2<=P)(hn:kF P)(f g:Pz):Cg (P:J) (pp (f+g) P) (pp f P+pp g P):=by
 obtain⟨q,rfl⟩:∃q,P=q+1:=⟨P-1,W⟩;rw[zhx];show Cg _ (smP (q+1) _+E ((fU (q+1) (q+1):K):J)*(pp f (q+1)*pp g (q+1-(q+1)))) _;rw[Y4,Ei,QG,xck,show((1:K):J)=1 from O,zE,zE];have e:=zjJ (m:=((q+1:K):J)) (F:=λi=>E ((fU (q+1) (i+1):K):J)*(pp f (i+1)*pp g (q+1-(i+1)))) q λi hi=>Cg.of_dvd λk=>by
  rw[zY];exact xbw (xdl.2<|zdz hp hn)<|xbZ _ _
 have h1:pp f 0*pp g (q+1-0)=pp g (q+1):=zE _;have h:pp f (q+1)*pp g 0=pp f (q+1):=yp _;rw[h1,h];have c:=((Cg.rfl (m:=((q+1:K):J)) (f:=pp g<|q+1)).add e).add<|Cg.rfl (f:=pp f<|q+1);rw[Wy,Kt (pp g _)<|pp f _]at c;exact c
def L5{P:K}(hp:2<=P)(hn:kF P)(F:K->Pz):∀n,Cg (P:J) (pp (smP n F) P) (smP n λi=>pp (F i) P)
 |0=>by
  show Cg _ (pp (E 0) P) (E 0);rw[zgp,Int.zero_pow W];exact Cg.rfl
 |n+1=>(zq4 hp hn (smP n F)<|F n).trans<|(L5 hp hn F n).add Cg.rfl
def vx:Pz:=mono 1 1
def zd7(c:J):∀i,(mono i c:Pz)=E c*pp vx i
 |0=>by
  show _=E c*E 1;rw[yp];funext k;unfold mono E;rfl
 |i+1=>by
  show _=E c*(pp vx i*vx);rw[<-zd,<-zd7 c i];funext k;rw[zo];show mono (i+1) c k=((mono 1 1:Pz)*mono i c) k;rw[VZ];unfold sh mono;by_cases h:1<=k;rw[Q h];by_cases e:k=i+1
  rw[Q e,yg,xdd];rw[S e,zG,xaA];rw[S h,zG];rfl
def zg2{n:K}(h:∀k,n<=k->f k=0):f=smP n λi=>mono i (f i):=by
 have e:∀m k,smP m (λi=>(mono i (f i):Pz)) k=if k<m then f k else 0:=λm=>by
  induction m with
  |zero=>intro k;rw[zG];exact zS k
  |succ m j=>
   intro k;show(smP m (λi=>(mono i (f i):Pz))+mono m (f m)) k=_;rw[zX,j];unfold mono;by_cases h1:k=m;rw[Q h1,zG,yg,h1,xcI];rw[S h1,xbY];by_cases c:k<m;rw[Q c,yg];rw[S c,zG]
 funext k;rw[e];split;rfl;exact h k W
def DX(hp:2<=P)(hn:kF P)(a:J):a^P%P=a%P:=by
 have h1:a%P=((a%P).toNat:J)%P:=by have:=xcH a (W:(P:J)≠0);rw[xdc this,xaR]
 have c:=zbD hp hn (a%P).toNat;have e:=xcH a (W:(P:J)≠0);rw[xdc e,xaR]at c;rw[<-c,<-xcA (a^P)<|xei _];have:∀n,(a%P)^n%P=a^n%P:=λn=>by
  induction n with
  |zero=>rw[xce,xce]
  |succ n h=>rw[xbO,xbO,xcd,h,xaR,<-xcd]
 rw[this,xaR]
def zsC(hp:2<=P)(hn:kF P){n:K}(h:∀k,n<=k->f k=0):Cg (P:J) (pp f P) (smP n λi=>E (f i)*pp (pp vx P) i):=by
 have h1:pp f P=pp (smP n λi=>mono i<|f i) P:=by rw[<-zg2 h]
 rw[h1];refine(L5 hp hn _ n).trans<|zco n λi hi=> ?_;rw[zd7,zj8,zgp,zj0,zj0,xaS];refine Cg.mul (λk=> ?_) Cg.rfl;unfold E;split;exact DX hp hn _;rfl
def es(d:K->J):K->J->J
 |0,_=>0
 |n+1,a=>d 0+a*es (λk=>d<|k+1) n a
theorem zgM(a:J):∀(n:K) (d:K->J),∃q:K->J,(∀b,es d (n+1) b=(b-a)*es q n b+es d (n+1) a)/\(∀k,k<n->d (k+1)=q k-a*(if k+1<n then q (k+1)else 0))/\d 0=es d (n+1) a-a*(if 0<n then q 0 else 0)
 |0,d=>⟨λ_=>0,λb=>by show d 0+b*0=(b-a)*0+(d 0+a*0);grind,λk i=>by lia,by show d 0=d 0+a*0-a*(if 0<0 then 0 else 0);rw[zG];grind⟩
 |n+1,d=>by
  have⟨q,h1,j,h⟩:=zgM a n λk=>d<|k+1;have⟨e,c⟩:∃e,e=es (λk=>d<|k+1) (n+1) a:=⟨_,O⟩;rw[<-c]at h1 h
  refine⟨λk=>match k with
   |0=>e
   |k+1=>q k,λb=> ?_,λk i=> ?_,?_⟩
  show d 0+b*es (λk=>d<|k+1) (n+1) b=(b-a)*(e+b*es q n b)+(d 0+a*es (λk=>d<|k+1) (n+1) a);rw[h1 b,<-c];generalize es q n b=x;grind
  cases k with
  |zero=>
   show d (0+1)=e-a*(if 0+1<n+1 then q 0 else 0);have o:d (0+1)=e-a*(if 0<n then q 0 else 0):=h;rw[o];by_cases hn:0<n;rw[Q hn,yg];rw[S hn,zG]
  |succ k=>
   show d (k+1+1)=q k-a*(if k+1+1<n+1 then q (k+1)else 0);rw[j k W];by_cases hn:k+1<n;rw[Q hn,yg];rw[S hn,zG]
  show d 0=d 0+a*es (λk=>d<|k+1) (n+1) a-a*(if 0<n+1 then e else 0);rw[yg,c];grind
theorem Nf(hp:2<=P)(hn:kF P){x:J}(h:(P:J)∣x*y):(P:J)∣x\/(P:J)∣y:=by
 by_cases c:(P:J)∣x;exact .inl c;right;have h0:0<(x%P).toNat:=by have h1:=xcH x (W:(P:J)≠0);have i:x%P≠0:=λe=>c<|xaH e;lia
 have h1:(x%P).toNat<P:=by have:=xdK x (W:(0:J)<P);lia
 have i:(P:J)∣(x%P)*y:=by
  have:(x%P)*y=x*y-P*(x/P*y):=by have:=Int.emod_add_mul_ediv x P;grind
  rw[this];exact xdt h<|xbZ _ _
 have k:P∣(x%P).toNat*y.natAbs:=by
  have j:=xcm.2 i;rw[xcw]at j;have n:(x%P).natAbs=(x%P).toNat:=W
  rwa[xaL,n]at j
 exact xcm.1<|by rw[xaL];exact zdk hp hn h0 h1 k
def zc0{P:K}(hp:2<=P)(hn:kF P):∀(n:K) (d:K->J),n<=P->(∀a:K,a<n->(P:J)∣es d n a)->∀k,k<n->(P:J)∣d k
 |0,_,_,_,k,i=>by lia
 |n+1,d,t,h,k,i=>by
  have⟨q,h1,j,o⟩:=zgM (n:J) n d;have e:=zc0 hp hn n q W λa x=>by
   have e1:=h1 a;have r:(P:J)∣((a:J)-n)*es q n a:=by
    have:((a:J)-n)*es q n a=es d (n+1) a-es d (n+1) n:=W
    rw[this];exact xdt (h a W)<|h n W
   obtain e3|e3:=Nf hp hn r
   exfalso;have⟨c,hc⟩:=e3;have z:c<0:=by apply Int.not_le.1;intro hd;have:=xcx (W:(0:J)<=P) hd;lia
   have A:(P:J)*c<=(P:J)*(-1):=xaU W W;lia;exact e3
  have s:=h n W
  cases k with
  |zero=>
   rw[o];refine xdt s ?_;split;exact xbw (e 0 W)<|xcK _ _;rw[xaA];exact xdE _
  |succ k=>
   rw[j k W];refine xdt (e k W) ?_;split;exact xbw (e (k+1) W)<|xcK _ _;rw[xaA];exact xdE _
def sc:K->K->J
 |0,k=>if k=0 then 1 else 0
 |n+1,0=> -(n:J)*sc n 0
 |n+1,k+1=>sc n k-(n:J)*sc n (k+1)
theorem BM:∀n k,n<k->sc n k=0
 |0,k,h=>zG
 |n+1,0,h=>by lia
 |n+1,k+1,h=>by show sc n k-(n:J)*sc n (k+1)=0;rw[BM n k W,BM n (k+1) W];grind
theorem zbq:∀n,sc n n=1
 |0=>rfl
 |n+1=>by show sc n n-(n:J)*sc n (n+1)=1;rw[zbq n,BM n (n+1) W];grind
def prv(v:Pz):K->Pz
 |0=>E 1
 |n+1=>prv v n*(v-E n)
theorem zdK(a:J)(f:Pz):E (-a)*f= -(E a*f):=by grind [zcD,zY,Int.neg_mul]
theorem zdo(v:Pz):∀n,prv v n=smP (n+1) λk=>E (sc n k)*pp v k
 |0=>by
  show E 1=E 0+E (sc 0 0)*E 1;rw[FY,show sc 0 0=1 from O,yp]
 |n+1=>by
  show prv v n*(v-E n)=_;have e:∀F G:Pz,F*(G-E n)=F*G+ -(E n*F):=λF G=>by rw[qx,zo F<|E n,RP]
  rw[e,zdo v n,ry];have c: -(E (n:J)*smP (n+1) λk=>E (sc n k)*pp v k)=smP (n+2) λk=>E (-(n:J)*sc n k)*pp v k:=by rw[<-zdK,zo,ry];show _=smP (n+1) _+E (-(n:J)*sc n (n+1))*pp v (n+1);rw[BM n (n+1) W,xaA,yB,Wy];exact W5 _ λi _=>by rw[zo,<-zd,ky]
  rw[c,Y4 _<|n+1,Y4 (λk=>E (sc (n+1) k)*pp v k)<|n+1,<-VW,Kt<|smP _ _,VW,<-Ns];congr 1;refine W5 _ λi _=> ?_;show E (sc n i)*pp v i*v+E (-(n:J)*sc n (i+1))*pp v (i+1)=E (sc n i-(n:J)*sc n (i+1))*pp v (i+1);rw[zd];show E (sc n i)*pp v (i+1)+_=_;rw[<-yV,<-zaK];congr 2;grind
theorem gG(d:K->J)(a:J):∀n,es d (n+1) a=es d n a+d n*a^n:=by
 intro n
 induction n generalizing d with
 |zero=>show d 0+a*0=0+d 0*a^0;rw[xce];grind
 |succ n c=>
  show d 0+a*es (λk=>d<|k+1) (n+1) a=d 0+a*es (λk=>d<|k+1) n a+d (n+1)*a^(n+1);rw[c,xbO];grind
theorem zb8(c d:K->J)(a:J):∀n,es (λk=>c k+d k) n a=es c n a+es d n a
 |0=>rfl
 |n+1=>by rw[gG,gG,gG,zb8 c d a n];grind
def prn(a:J):K->J
 |0=>1
 |n+1=>prn a n*(a-n)
theorem zjq(a:J):∀n,prn a n=es (sc n) (n+1) a
 |0=>by show(1:J)=1+a*0;grind
 |n+1=>by
  show prn a n*(a-n)=_;have h1:es (sc<|n+1) (n+2) a= -(n:J)*sc n 0+a*es (λk=>sc n k-(n:J)*sc n (k+1)) (n+1) a:=O;have e:es (λk=>sc n k-(n:J)*sc n (k+1)) (n+1) a=es (sc n) (n+1) a+es (λk=> -(n:J)*sc n (k+1)) (n+1) a:=by rw[<-zb8];congr 1;funext k;grind
  have h:∀m (d:K->J) (c:J),es (λk=>c*d k) m a=c*es d m a:=λm=>by
   induction m with
   |zero=>intro d c;show(0:J)=c*0;grind
   |succ m i=>intro d c;rw[gG,gG,i];grind
  have j:es (sc n) (n+2) a=es (sc n) (n+1) a:=by rw[gG,BM n (n+1) W,xbc,xbY]
  have o:es (sc n) (n+2) a=sc n 0+a*es (λk=>sc n<|k+1) (n+1) a:=O;rw[h1,e,h,zjq a n];grind
def zcR{a:K}:∀n,a<n->prn a n=0
 |0,h=>by lia
 |n+1,h=>by
  show prn a n*((a:J)-n)=0;by_cases e:a=n;rw[e,xej,xaA];rw[zcR n W,xbc]
theorem zpp(hp:2<=P)(hn:kF P)(k:K):sc P k%P=(if k=P then(1:J)else if k=1 then-1 else 0)%P:=by
 by_cases h:k<P
 have e:=zc0 hp hn P (λk=>sc P k+(if k=1 then 1 else 0)) (Nm _) (λa i=>by
  rw[zb8];have e1:es (λk=>if k=1 then(1:J)else 0) P (a:J)=a:=by
   obtain⟨q,rfl⟩:∃q,P=q+2:=⟨P-2,W⟩;show(0:J)+a*((1:J)+a*es (λk=>if k+1+1=1 then(1:J)else 0) q a)=a;have:∀m,es (λk=>if k+1+1=1 then(1:J)else 0) m (a:J)=0:=λm=>by
    induction m with
    |zero=>rfl
    |succ m j=>rw[gG,j,zG];grind
   rw[this];grind
  have n:=zjq (a:J) P;rw[zcR P i,gG,zbq]at n;have o:=DX hp hn (a:J);rw[e1];have r:es (sc P) P (a:J)+a=a-a^P:=by grind
  rw[r];exact xaH<|xaM.1 o.symm) k h
 rw[zG];have hc:=xax e;by_cases h1:k=1
 rw[Q h1]at hc⊢;refine xaM.2 ?_;rw[(W:sc P k- -1=sc P k+1)];exact hc;rw[S h1]at hc⊢;rw[xbY]at hc;rw[hc,xaq];by_cases c:k=P;rw[Q c,c,zbq];rw[S c,zG,BM P k W]
def zjZ:∀n,(smP n λ_=>E 0)=E 0
 |0=>rfl
 |n+1=>by show(smP n λ_=>E 0)+E 0=E 0;rw[zjZ n,Wy]
def zkH(hp:2<=P)(hn:kF P)(v:Pz):Cg (P:J) (prv v P) (pp v P-v):=by
 rw[zdo]
 have h1:Cg (P:J) (smP (P+1) λk=>E (sc P k)*pp v k) (smP (P+1) λk=>E (if k=P then(1:J)else if k=1 then-1 else 0)*pp v k):=
  zco _ λk _=>Cg.mul (λj=>by unfold E;split;exact zpp hp hn k;rfl) Cg.rfl
 refine h1.trans<|Cg.of ?_;obtain⟨q,rfl⟩:∃q,P=q+2:=⟨P-2,W⟩;show smP (q+2) _+E (if q+2=q+2 then(1:J)else _)*pp v (q+2)=_;rw[Q O,zE,Y4 _<|q+1,Y4 _ q,zG,zG,zG,Q O];have c:(smP q λk=>E (if k+1+1=q+2 then(1:J)else if k+1+1=1 then-1 else 0)*pp v (k+1+1))=E 0:=by rw[W5 (G:=λ_=>E 0) q λi hi=>by rw[zG,zG,yB]];exact zjZ q
 rw[c];have e:E (-1)*pp v (0+1)= -v:=by rw[zdK,zE];show-(E 1*v)= -v;rw[zE]
 rw[e,yB];funext k;simp only[zX,y8,zcD,zS];lia
def Di(p:J)(u v:Pz):Prop:=∃q:Pz,Fs q/\Cg p v (q*u)
def Di.refl(p:J)(u:Pz):Di p u u:=⟨E 1,Fs.pc 1,Cg.of (zE u).symm⟩
def Di.trans{p:J}{u v w:Pz}(h:Di p u v)(g:Di p v w):Di p u w:=by have⟨q,f1,h1⟩:=h;have⟨r,f2,c⟩:=g;exact⟨r*q,f2.mul f1,c.trans<|((Cg.rfl (f:=r)).mul h1).trans<|Cg.of (zd r q u).symm⟩
def Di.add{p:J}{u v w:Pz}(h:Di p u v)(g:Di p u w):Di p u (v+w):=by have⟨q,f1,h1⟩:=h;have⟨r,f2,c⟩:=g;exact⟨q+r,f1.add f2,(h1.add c).trans<|Cg.of (yV q r u).symm⟩
def Di.sub{p:J}{u v w:Pz}(h:Di p u v)(g:Di p u w):Di p u (v-w):=by have⟨q,f1,h1⟩:=h;have⟨r,f2,c⟩:=g;exact⟨q-r,f1.subt f2,(h1.sub c).trans<|Cg.of (ki q r u).symm⟩
def Di.mul{p:J}{u v:Pz}(w:Pz)(c:Fs w)(h:Di p u v):Di p u (w*v):=by have⟨q,f1,h1⟩:=h;exact⟨w*q,c.mul f1,((Cg.rfl (f:=w)).mul h1).trans<|Cg.of (zd w q u).symm⟩
def Di.cg{u:Pz}(h:Di p u v)(g:Cg p v w):Di p u w:=by have⟨q,f1,h1⟩:=h;exact⟨q,f1,g.symm.trans h1⟩
def Di.zero(p:J)(u:Pz):Di p u (E 0):=⟨E 0,Fs.pc 0,Cg.of (yB u).symm⟩
def Di.euclid{u:Pz}(c:Fs w)(h:km p u v)(g:Di p u (v*w)):Di p u w:=by
 have⟨s,t,fs,e,h1⟩:=h;have i:Cg p (w*s*u+t*(v*w)) w:=by refine Cg.trans (Cg.of ?_)<|(h1.mul<|Cg.rfl (f:=w)).trans<|Cg.of<|zE w;rw[yV,zd t,zo (s*u) w,zd w]
 refine Di.cg (Di.add ?_<|g.mul t e) i;exact⟨w*s,c.mul fs,Cg.rfl⟩
def Di.both{u:Pz}(j:Fs w)(h:km p u v)(g1:Di p u w)(c:Di p v w):Di p (u*v) w:=by have⟨q,fq,h1⟩:=c;have e:Di p u q:=Di.euclid fq h<|g1.cg<|h1.trans<|Cg.of<|zo q v;have⟨r,fr,i⟩:=e;refine⟨r,fr,h1.trans<|(i.mul<|Cg.rfl (f:=v)).trans<|Cg.of<|zd r u v⟩
def Di.prz{p:J}{w:Pz}(e:Fs w):∀{us:N Pz},(∀u∈us,Fs u)->us.Pairwise (km p)->(∀u∈us,Di p u w)->Di p (prZ us) w
 |[],_,_,_=>⟨w,e,Cg.of (yp w).symm⟩
 |u::us,i,hp,h=>by
  have⟨h1,j⟩:=xdi.1 hp;refine Di.both e ?_ (h u<|IR)<|Di.prz e (λg c=>i g<|FS _ c) j λg c=>h g<|FS _ c;exact(km.prZ (i u<|IR) (λg c=>i g<|FS _ c) λg c=>(h1 g c).symm).symm
structure Jj(p:J)(u:N J):Prop where
 mn:vu p u
 l1:1<u.length
 ir:∀d,vu p d->Di p (C d) (C u)->d.length=1\/d=u
def N4{a b:N J}(hp:2<=p)(c:vu p a)(i:vu p b)(h:Di p (C a) (C b))(hl:X b<=X a):a=b:=by
 have⟨q,fq,h1⟩:=h;have⟨n,hn⟩:=fq;have hd:=c.ln;have x:=i.ln;have z:=ni hp i c ⟨n,hn⟩ h1;have e:X a=X b:=W
 have j:Cg p ((q-E 1)*C a) (C b-C a):=by rw[ki,zE];exact h1.symm.sub Cg.rfl
 have o:=c.mn.zero hp (Fs.subt ⟨n,hn⟩<|Fs.pc 1) λk A=>by
  rw[j k,y8];by_cases hc:k=X a-1
  have r:=c.top;have s:=i.top;rw[hc,r,e,s,xej,xaq];rw[yz W,yz W];exact xaq _
 refine c.fm.ext i.fm ?_;have t:=j.symm.trans<|o.mul_zero_r<|C a;exact(Cg.iff_sub.2 t).symm
theorem Jj.or(hp:qt p=wT){l:N J}(c:Jj p u)(i:X u<=290)(hl:Fp p l)(hc:X l<=290):Di p (ci u) (ci l)\/km p (ci u) (ci l):=by
 have⟨j,q⟩:=zA hp;have⟨d,s,t,_,e,hd⟩:=uX (fu:=3000000) hp c.mn.fm hl i hc<|Nm _;have h:=zmK j c.mn e hd;have⟨A,C,k,n,h1,o⟩:=e.dv;rcases c.ir d h ⟨A,k,h1⟩with h3|h3
 exact .inr<|NX e h3 h.top;left;rw[<-h3];exact⟨C,n,o⟩
def Jj.ne(hp:2<=p)(e:Jj p u):¬Di p (C u) (E 1):=λ⟨q,fq,h⟩=>by
 have hl:=e.l1;have h1:=e.mn.mn.zero hp fq λk i=>by rw[<-h k,show E 1 k=0 from zG,xaq]
 have c:=(h.trans<|h1.mul_zero_r _) 0;rw[zS,xaq]at c;unfold E at c;rw[Q O,xaJ rx W]at c;cases c
theorem Jj.cop(hp:qt p=wT){w:N J}(c:Jj p u)(e:Jj p w)(i:X u<=290)(hc:X w<=290)(h:u≠w):km p (C u) (C w):=by grind [Jj.or,vu.fm,Jj.mn,Jj.ir,Jj.l1]
def quo(hp:qt p=wT)(e:vu p m)(hd:vu p d)(k:X m<=90000)(h:Di p (C d) (C m)):∃q,vu p q/\Cg p (C m) (C q*C d)/\X m+1=X q+X d:=by have⟨i,x⟩:=zA hp;have⟨A,j,h1⟩:=h;have hc:=ni i e hd j h1;have⟨q,r,_,n,o,s,t,z⟩:=xJ (fu:=3000000) hp e.fm hd.fm hd.ln k W<|Nm _;have⟨a,b,c⟩:=LV i e hd j h1 n o s t;exact⟨q,a,b,c⟩
def zqP(hp:qt p=wT):∀(n:K) {m:N J},X m=n->n<=290->vu p m->∃us:N (N J),(∀u∈us,Jj p u/\X u<=n)/\Cg p (C m) (prZ<|us.map C):=by
 intro n
 induction n using xdz with
 |ind n j=>
  intro m H hn c;have⟨s,L⟩:=zA hp;have M:=c.ln;by_cases h1:X m=1
  refine⟨[],(λu e=>by cases e),?_⟩;have:=c.one h1;rw[this];refine Cg.of<|funext λk=> ?_;show C [1] k=E 1 k
  cases k with
  |zero=>rfl
  |succ k=>rw[yz rC];exact(zG).symm
  by_cases hi:Jj p m;refine⟨[m],λu e=> ?_,?_⟩;rw[xad.1 e];exact⟨hi,W⟩;exact Cg.of (yp<|C m).symm;have⟨d,i,hc,ht,t⟩:∃d,vu p d/\Di p (C d) (C m)/\X d≠1/\d≠m:=by
   apply xak;intro x;refine hi ⟨c,W,λd z A=> ?_⟩;by_cases o:X d=1
   exact .inl o;right;apply xak;intro B;exact x ⟨d,z,A,o,B⟩
  have⟨q,D,F,hv⟩:=quo hp c i W hc;have Q:=i.ln;have R:X d<X m:=by apply xdp;intro h;exact t<|N4 s i c hc h
  have⟨us,hd,hl⟩:=j (X d) W O W i;have⟨vs,r,G⟩:=j (X q) W O W D;refine⟨vs++us,λu e=> ?_,?_⟩;obtain h|h:=xab.1 e
  exact⟨(r u h).1,by have:=(r u h).2;lia⟩;exact⟨(hd u h).1,by have:=(hd u h).2;lia⟩;rw[xaO,vo];exact F.trans<|G.mul hl
def dN{p:J}{u:Pz}:∀{us:N Pz},(∀w∈us,Fs w)->u∈us->Di p u (prZ us)
 |[],_,h=>by cases h
 |w::us,c,h=>by
  have i:=Fs.prZ λg e=>c g<|FS _ e;obtain rfl|h:=xai.1 h
  exact⟨prZ us,i,Cg.of<|zo _ _⟩;exact(dN (λg e=>c g<|FS _ e) h).mul w<|c w<|IR
def Jj.mem{p:J}(hp:qt p=wT){u:N J}(c:Jj p u)(k:X u<=290):∀{us:N (N J)},(∀w∈us,Jj p w/\X w<=290)->Di p (C u) (prZ<|us.map C)->u∈us
 |[],_,h=>jp h<|c.ne (zA hp).1
 |w::us,i,h=>by
  by_cases e:u=w;rw[e];exact IR;have h1:=c.cop hp (i w<|IR).1 k (i w<|IR).2 e;refine FS _<|Jj.mem hp c k (λg j=>i g<|FS _ j)<|Di.euclid (Fs.prZ λg j=> ?_) h1 h;obtain⟨l,_,rfl⟩:=xat.1 j;exact Fs.ci l
def Fs.to{n:K}(h:∀k,n<=k->f k=0):Fs f:=⟨n,h⟩
def Fs.vx:Fs vx:=⟨2,λk c=>zG⟩
def lst(hp:0<p){n:K}(h:∀k,n<=k->f k=0):∃l:N J,Fp p l/\X l<=n/\Cg p (C l) f:=by refine⟨pm p<|zl n f,Ej hp _,xal (zcL _ _) (by rw[ye];exact Nm _),?_⟩;exact(PY p _).trans<|Cg.of<|funext λk=>X6 h k
def Jj.or'(hp:qt p=wT)(e:Jj p u)(i:X u<=290){n:K}(h:∀k,n<=k->f k=0)(hn:n<=290):Di p (C u) f\/km p (C u) f:=by
 have⟨j,o⟩:=zA hp;have⟨l,h1,q,c⟩:=lst (p:=p) W h;obtain h4|h4:=e.or hp i h1 W
 exact .inl<|h4.cg c;exact .inr<|h4.congr Cg.rfl c
def Jj.const(hp:2<=p)(e:Jj p u){c:J}(h:Di p (C u) (E c)):p∣c:=by
 have⟨q,fq,h⟩:=h;have hl:=e.l1;have h1:=e.mn.mn.zero hp fq λk j=>by rw[<-h k,show E c k=0 from zG,xaq]
 have i:=(h.trans<|h1.mul_zero_r _) 0;rw[zS,xaq]at i;exact xaH i
def Di.const{c:J}{u:Pz}(h:p∣c):Di p u (E c):=(Di.zero p u).cg λk=>by
 rw[zS];unfold E;split;rw[xaq,xax h];rfl
def Vl(p:J)(u:N J)(v:Pz)(c:J):Prop:=Di p (C u)<|v-E c
theorem zbJ(a b:J):E (a-b)=E a-E b:=by grind [E,y8]
def Vl.uniq(hp:2<=p)(c:Jj p u){b:J}(h:Vl p u v a)(g:Vl p u v b):p∣a-b:=by refine c.const hp<|(Di.sub g h).cg<|Cg.of ?_;rw[zbJ];funext k;simp only[y8];lia
def Vl.add{p:J}{u:N J}{v w:Pz}{a b:J}(h:Vl p u v a)(g:Vl p u w b):Vl p u (v+w) (a+b):=by refine(Di.add h g).cg<|Cg.of ?_;rw[zaK];funext k;simp only[zX,y8];lia
def Vl.sub{p:J}{u:N J}{v w:Pz}{a b:J}(h:Vl p u v a)(g:Vl p u w b):Vl p u (v-w) (a-b):=by refine(Di.sub h g).cg<|Cg.of ?_;rw[zbJ];funext k;simp only[y8];lia
def Vl.mul{p:J}{u:N J}{v w:Pz}{a b:J}(c:Fs v)(h:Vl p u v a)(g:Vl p u w b):Vl p u (v*w) (a*b):=by refine(Di.add (Di.mul v c g)<|Di.mul (E b) (Fs.pc b) h).cg<|Cg.of ?_;rw[qx,qx,zo v<|E b,ky,xbI b a];funext k;simp only[zX,y8];lia
def Vl.pc(p:J)(u:N J)(c:J):Vl p u (E c) c:=(Di.zero p<|C u).cg<|Cg.of<|funext λk=>by rw[y8,zS,xej]
def Vl.pp{p:J}{u:N J}{v:Pz}{a:J}(c:Fs v)(h:Vl p u v a):∀n,Vl p u (pp v n) (a^n)
 |0=>by rw[xce];exact Vl.pc p u 1
 |n+1=>by rw[xbO];exact Vl.mul (c.pp n) (Vl.pp c h n) h
def Vl.cg{p:J}{u:N J}{v w:Pz}{a:J}(h:Vl p u v a)(g:Cg p v w):Vl p u w a:=Di.cg h<|g.sub Cg.rfl
def Vl.md{b:J}(h:Vl p u v a)(g:p∣a-b):Vl p u v b:=by refine(Di.add h<|Di.const (u:=C u) g).cg<|Cg.of ?_;rw[zbJ];funext k;simp only[zX,y8];lia
def Vl.di(hp:2<=p)(c:Jj p u)(h:Vl p u v a):Di p (C u) v↔p∣a:=by constructor;intro g;have h0:Vl p u v 0:=g.cg (Cg.of<|funext λk=>by rw[y8,zS,xdf]);have:=h.uniq hp c h0;rwa[xdf]at this;intro g;have h0:Vl p u v 0:=h.md (by rwa[xdf]);exact Di.cg h0<|Cg.of<|funext λk=>by rw[y8,zS,xdf]
def zkj{p:J}(hp:qt p=wT){u:N J}(e:Jj p u)(o:X u<=290){v:Pz}{n:K}(hv:∀k,n<=k->v k=0)(hd:1<=n)(hn:n<=290):∀j,Di p (C u) (prv v j)->∃c:K,c<j/\Vl p u v c
 |0,h=>jp h<|e.ne (zA hp).1
 |j+1,h=>by
  have q:∀k,n<=k->(v-E (j:J)) k=0:=λk r=>by rw[y8,hv k r,show E (j:J) k=0 from zG];rfl
  obtain h1|h1:=e.or' hp o q hn
  exact⟨j,W,h1⟩
  have s:∀i,Fs (prv v i):=λi=>by
   induction i with
   |zero=>exact Fs.pc 1
   |succ i t=>exact t.mul<|(Fs.to hv).subt<|Fs.pc _
  have x:Di p (C u) (prv v j):=Di.euclid (s j) h1<|h.cg<|Cg.of<|zo _ _;have⟨c,hc,z⟩:=zkj hp e o hv hd hn j x;exact⟨c,W,z⟩
def zmm(hp:qt (P:J)=wT)(h:Jj (P:J) u)(hc:X u<=290)(hd:Di (P:J) (C u) (C m)){n:K}(hv:∀k,n<=k->v k=0)(i:1<=n)(hn:n<=290)(j:Di (P:J) (C m) (pp v P-v)):∃c:K,c<P/\Vl (P:J) u v c:=by have⟨o,q⟩:=zA hp;have e:=WB hp;rw[xba]at e;exact zkj hp h hc hv i hn P<|(hd.trans j).cg (zkH W e v).symm
def zsb{p:J}{m:N J}(c:vu p m):∀(n:K) (f:Pz),(∀k,n<=k->f k=0)->∃q r:Pz,Fs q/\(∀k,X m-1<=k->r k=0)/\f=q*C m+r
 |0,f,h=>⟨E 0,E 0,Fs.pc 0,λk _=>zS k,uT λk=>by rw[zX,yB,zS,h k W];rfl⟩
 |n+1,f,h=>by
  have hl:=c.ln;by_cases hn:n+1<=X m-1
  exact⟨E 0,f,Fs.pc 0,λk i=>h k W,uT λk=>by rw[zX,yB,zS,xcI]⟩
  have⟨d,hd⟩:∃d,d=X m-1:=⟨_,O⟩;have⟨q,r,fq,j,o⟩:=zsb c n (f-mono (n-d) (f n)*C m) λk i=>by
   rw[y8,VZ];unfold sh;rw[yg];by_cases e:k=n;have ht:=c.top;rw[e,(W:n-(n-d)=X m-1),ht];lia;rw[h k W,yz W];lia
  refine⟨q+mono (n-d) (f n),r,fq.add ⟨n+1,λk i=>zG⟩,j,?_⟩;rw[yV];funext k;have:=WP o k;simp only[zX,y8]at this⊢;lia
def zsL(hp:qt (P:J)=wT)(R:vu (P:J) m)(G:∀u∈us,Jj (P:J) u/\X u<=290)(KJ:us.Pairwise (λa b=>km (P:J) (C a)<|C b))(hc:Cg (P:J) (C m) (prZ<|us.map C))(hd:u∈us):
 ∃e:Pz,(∀k,X m-1<=k->e k=0)/\Vl (P:J) u e 1/\(∀w,w∈us->w≠u->Vl (P:J) w e 0)/\Di (P:J) (C m) (pp e P-e):=by
 have⟨H,p2⟩:=zA hp;have S:=WB hp;rw[xba]at S;have⟨a,b,K⟩:=xeo hd;have o:∀{l:N (N J)},∀g∈l.map C,Fs g:=λg x=>by obtain⟨l,_,rfl⟩:=xat.1 x;exact Fs.ci l
 have⟨i,D⟩:∃i,i=prZ ((a++b).map C):=⟨_,O⟩;have T:Fs i:=by rw[D];exact Fs.prZ o
 have hi:km (P:J) (C u) i:=by
  rw[D];refine(km.prZ (Fs.ci u) o λg x=> ?_).symm;obtain⟨l,hl,rfl⟩:=xat.1 x;rw[K,xdm,xdi]at KJ;obtain h|h:=xab.1 hl
  exact KJ.2.2 l h u<|IR;exact(KJ.2.1.1 l h).symm
 have⟨s,t,fs,L,h1⟩:=hi;have⟨n,hn⟩:=L.mul T;have⟨q,e,fq,M,U⟩:=zsb R n (t*i) hn;have V:∀w∈us,Di (P:J) (C w) (C m):=λw j=>Di.cg (dN o<|xbE j) hc.symm;have Q:∀w∈us,∀{c:J},Vl (P:J) w (t*i) c->Vl (P:J) w e c:=λw j c h=>by
  have z:=Di.sub h<|Di.mul q fq<|V w j;refine z.cg<|Cg.of ?_;rw[U];funext k;simp only[zX,y8];lia
 have v1:Vl (P:J) u e 1:=Q u hd (by have z:Di (P:J) (C u) (E 0-s*C u):=(Di.zero _ _).sub ⟨s,fs,Cg.rfl⟩;refine z.cg<|Cg.trans (Cg.of ?_)<|(Cg.rfl (f:=t*i)).sub h1;funext k;simp only[zX,y8,zS];lia)
 have v0:∀w,w∈us->w≠u->Vl (P:J) w e 0:=λw j ht=>Q w j (by
  have Y:w∈a++b:=by
   rw[K]at j;obtain h|h:=xab.1 j
   exact xdO _ h;obtain h|h:=xai.1 h
   exact jp h ht;exact xep _ h
  have z:Di (P:J) (C w) i:=by rw[D];exact dN o<|xbE Y
  exact(z.mul t L).cg<|Cg.of<|funext λk=>by rw[y8,zS,xdf])
 refine⟨e,M,v1,v0,?_⟩;have B:=Fs.to M;have hk:Di (P:J) (prZ<|us.map C) (pp e P-e):=by refine Di.prz ((B.pp P).subt B) o ?_ λg x=> ?_;exact xey.2 KJ;obtain⟨w,j,rfl⟩:=xat.1 x;by_cases F:w=u;subst F;have A:=Vl.sub (Vl.pp B v1 P) v1;rw[Int.one_pow,xej]at A;exact(A.di H (G w j).1).2<|xdE _;have A:=Vl.sub (Vl.pp B (v0 w j F) P)<|v0 w j F;rw[Int.zero_pow W,xej]at A;exact(A.di H (G w j).1).2<|xdE _
 have⟨r,fr,h5⟩:=hk;exact⟨r,fr,h5.trans<|Cg.rfl.mul hc.symm⟩
def tV{p:J}{u:N J}{a c:K->J}{b:K->Pz}:∀n,(∀i,i<n->Vl p u (b i) (c i))->Vl p u (smP n λi=>E (a i)*b i) (yv n λi=>a i*c i)
 |0,_=>Vl.pc p u 0
 |n+1,h=>Vl.add (tV n λi hi=>h i W)<|Vl.mul (Fs.pc _) (Vl.pc p u<|a n)<|h n W
def sep(hp:qt (P:J)=wT)(s:vu (P:J) m)(j:∀u∈us,Jj (P:J) u/\X u<=290)(KJ:us.Pairwise (λa b=>km (P:J) (C a)<|C b))(hc:Cg (P:J) (C m) (prZ<|us.map C)){n:K}(t:∀e:Pz,(∀k,X m-1<=k->e k=0)->Di (P:J) (C m) (pp e P-e)->∃a:K->J,Cg (P:J) e<|smP n λi=>E (a i)*b i){w:N J}(hd:u∈us)(o:w∈us){c:K->J}(h1:∀i,i<n->Vl (P:J) u (b i) (c i))(x:∀i,i<n->Vl (P:J) w (b i) (c i)):u=w:=by
 have⟨q,L⟩:=zA hp;apply xak;intro z;have⟨e,e1,A,B,D⟩:=zsL hp s j KJ hc hd;have⟨a,r⟩:=t e e1 D;have f1:=(tV (a:=a) n h1).cg r.symm;have f2:=(tV (a:=a) n x).cg r.symm;have g1:=A.uniq q (j u hd).1 f1;have F:=(B w o λh=>z h.symm).uniq q (j w o).1 f2;have G:=xdt g1 F;have⟨k,M⟩:=G;have H:(P:J)*k=1:=W
 have h6:k=1\/k<=0\/2<=k:=W
 obtain h6|h6|h6:=h6
 rw[h6]at H;lia;have:=xaU h6 (W:(0:J)<=P);lia;have:=xaU h6 (W:(0:J)<=P);lia
theorem zdX{P:J}{a b:J}(h:P∣a-b):∀n:K,P∣a^n-b^n
 |0=>by rw[xce,xce,xej];exact xdE _
 |n+1=>by
  have⟨x,c⟩:=h;have⟨y,e⟩:=zdX ⟨x,c⟩ n;refine⟨y*a+b^n*x,?_⟩;rw[xbO,xbO];grind
def AK(P:K)(y:J):Prop:=if 2<P then(P:J)∣y^((P-1)/2)-1 else(P:J)∣y
def AK.md{z:J}(h:(P:J)∣y-z)(g:AK P y):AK P z:=by
 unfold AK at g⊢;split;rw[ce ‹_›]at g;have:=zdX h<|(P-1)/2;have e:=xdt g this;have c:y^((P-1)/2)-1-(y^((P-1)/2)-z^((P-1)/2))=z^((P-1)/2)-1:=W
 rwa[c]at e;rw[if_neg ‹_›]at g;have e:=xdt g h;have c:y-(y-z)=z:=W
 rwa[c]at e
def AK.iff{z:J}(h:(P:J)∣y-z):AK P y↔AK P z:=by refine⟨AK.md h,AK.md ?_⟩;have⟨k,c⟩:=h;exact⟨-k,by rw[Int.mul_neg];lia⟩
def zbr(hp:qt (P:J)=wT){d:J}(hd:¬(P:J)∣d):∃k:K,(P:J)∣(k:J)*d-1:=by
 have⟨n,o⟩:=zA hp;have h0:=xcH d (W:(P:J)≠0);have h1:=xdK d (W:(0:J)<P);have q:d%P≠0:=λe=>hd<|xaH e;have c:=zcl hp (W:0<d%P) h1;have⟨x,h⟩:∃x,x=(d%P)^((P:J)-2).toNat:=⟨_,O⟩;rw[<-h]at c;have i:0<=x:=by rw[h];exact Int.pow_nonneg h0
 refine⟨x.toNat,?_⟩;rw[xdc i];have j:(x*d)%P=1%P:=by rw[xcd,<-xcA d<|xei _,<-xcd,c,xaJ rx W]
 exact xaH<|xaM.1 j
def zmz(hp:qt (P:J)=wT)(A:P=2\/P%2=1){b:J}(h:∀c:K,c<P->(AK P (a+c)↔AK P (b+c))):(P:J)∣a-b:=by
 have⟨B,C⟩:=zA hp;apply xak;intro hd;have hc:∀y:J,AK P (a+y)↔AK P (b+y):=λy=>by
  have e1:=xcH y (W:(P:J)≠0);have D:=xdK y (W:(0:J)<P);have j:=h (y%P).toNat W;rw[xdc e1]at j;have E:(P:J)∣y-y%P:=⟨y/P,by have:=Int.emod_add_mul_ediv y P;lia⟩;have o:(P:J)∣a+y-(a+y%P):=by rwa[(W:a+y-(a+y%P)=y-y%P)]
  have r:(P:J)∣b+y-(b+y%P):=by rwa[(W:b+y-(b+y%P)=y-y%P)]
  exact(AK.iff o).trans<|j.trans (AK.iff r).symm
 have s:∀y:J,AK P y↔AK P (y+(a-b)):=λy=>by
  have:=hc<|y-b;rw[(W:b+(y-b)=y),(W:a+(y-b)=y+(a-b))]at this;exact this.symm
 have t:∀k:K,AK P 0↔AK P ((k:J)*(a-b)):=λk=>by
  induction k with
  |zero=>rw[show((0:K):J)=0 from O,xbc]
  |succ k x=>
   refine x.trans<|(s _).trans ?_;rw[xfj,Int.add_mul,show((1:K):J)=1 from O,xdd]
 have⟨k,h1⟩:=zbr hp hd;have e:=(t k).trans<|AK.iff h1;have n:¬(P:J)∣1:=λ⟨q,z⟩=>by
  have h6:q<=0\/1<=q:=W
  obtain h6|h6:=h6
  have:=xaU h6 (W:(0:J)<=P);lia;have:=xaU h6 (W:(0:J)<=P);lia
 unfold AK at e;by_cases i:2<P;rw[Q i,Q i,Int.one_pow,xej,Int.zero_pow W]at e;have:=e.2<|xdE _;refine n ?_;have⟨q,z⟩:=this;exact⟨-q,by rw[Int.mul_neg];lia⟩;rw[S i,S i]at e;exact n<|e.1<|xdE _
theorem zgu(A B D:K->J)(x z:J):∀n,yv n (λi=>A i*(B i-x*D i*z))=yv n (λi=>A i*B i)-x*z*yv n (λi=>A i*D i)
 |0=>by show(0:J)=0-x*z*0;lia
 |n+1=>by
  show yv n _+A n*(B n-x*D n*z)=yv n _+A n*B n-x*z*(yv n _+A n*D n);rw[zgu A B D x z n];grind
theorem Gu{P:K}(hp:qt (P:J)=wT):∀(n:K) (c:N K) (A C:K->K->J),c.Nodup->(∀j∈c,∀k∈c,(P:J)∣yv n (λi=>A j i*C i k)-(if j=k then 1 else 0))->X c<=n
 |0,[],_,_,_,_=>Nm _
 |0,j::c,A,C,_,h=>by
  exfalso;have⟨p1,p2⟩:=zA hp;have:=h j (IR) j<|IR;rw[Q O]at this;have⟨q,H⟩:=this;have hi:(0:J)-1=P*q:=H;have h6:q<= -1\/0<=q:=W
  obtain h6|h6:=h6
  have:=xaU h6 (W:(0:J)<=P);lia;have:=xcx (W:(0:J)<=P) h6;lia
 |n+1,c,A,C,t,h=>by
  by_cases D:∀j∈c,(P:J)∣C n j;refine Nat.le_succ_of_le<|Gu hp n c A C t λj r k z=> ?_;have h1:=h j r k z;have B:(P:J)∣A j n*C n k:=xbw (D k z)<|xcK _ _;have L:=xdt h1 B;have e:yv (n+1) (λi=>A j i*C i k)-(if j=k then 1 else 0)-A j n*C n k=yv n (λi=>A j i*C i k)-(if j=k then 1 else 0):=by show yv n _+A j n*C n k-_-A j n*C n k=_;lia
  rwa[e]at L;have⟨o,hd,hc⟩:∃o,o∈c/\¬(P:J)∣C n o:=by apply xak;intro M;refine D λj r=> ?_;apply xak;intro h1;exact M ⟨j,r,h1⟩
  have⟨x,R⟩:=zbr hp hc;have T:=List.length_erase_of_mem hd;have U:=xfs hd;have:=Gu hp n (c.erase o) A (λi k=>C i k-(x:J)*C i o*C n k) (t.erase o) λj r k z=>by
   have⟨n1,F⟩:=t.mem_erase_iff.1 r;have⟨n2,V⟩:=t.mem_erase_iff.1 z;have h1:=h j F k V;have B:=h j F o hd;rw[S n1,xdf]at B;rw[zgu];have⟨k1,e1⟩:=h1;have⟨k2,G⟩:=B;have⟨k3,e3⟩:=R;have s:yv n (λi=>A j i*C i k)+A j n*C n k-(if j=k then 1 else 0)=P*k1:=e1;have E:yv n (λi=>A j i*C i o)+A j n*C n o=P*k2:=G;have Y:(if j=k then(1:J)else 0)=if j=k then 1 else 0:=O;generalize(if j=k then(1:J)else 0)=dl at s⊢;generalize yv n (λi=>A j i*C i k)=s1 at s⊢;generalize yv n (λi=>A j i*C i o)=s0 at E⊢;refine⟨k1-((x:J)*C n k*k2-A j n*C n k*k3),?_⟩;clear e1 G Y D hc h T U;grind
  lia
structure Sf(p:J)(m:N J)(us:N (N J)):Prop where
 hp:qt p=wT
 mn:vu p m
 ml:m.length<=290
 ir:∀u∈us,Jj p u/\u.length<=290
 pw:us.Pairwise (λa b=>km p (C a)<|C b)
 cg:Cg p (C m) (prZ<|us.map C)
theorem dP:∀g∈l.map C,Fs g:=by grind [C,Fs.ci]
theorem Jj.self(hp:2<=p)(c:Jj p u):¬km p (C u) (C u):=λ⟨s,t,fs,e,h⟩=>by
 refine c.ne hp ⟨s+t,fs.add e,h.symm.trans<|Cg.of ?_⟩;rw[yV]
def Sf.dv(h:Sf p m us)(c:u∈us):Di p (C u) (C m):=(dN dP<|xbE c).cg h.cg.symm
def Sf.mem{p:J}{m:N J}{us:N (N J)}(h:Sf p m us){u:N J}(c:Jj p u)(e:X u<=290)(hd:Di p (C u) (C m)):u∈us:=c.mem h.hp e h.ir<|hd.cg h.cg
def Sf.sq(h:Sf p m us)(e:u∈us):¬Di p (C u*C u) (C m):=λhd=>by
 have⟨c,A⟩:=zA h.hp;obtain⟨a,b,rfl⟩:=xeo e;have⟨hi,j⟩:=h.ir u e;have KJ:=h.pw;rw[xdm,xdi]at KJ;have⟨q,fq,h1⟩:=hd;have i:=h.cg;rw[xaO,xbP,vo]at i;have n:Cg p (prZ (a.map C)*(C u*prZ (b.map C))) (q*(C u*C u)):=i.symm.trans h1;have o:Fs (prZ<|(a++b).map C):=Fs.prZ dP;have r:Cg p ((prZ ((a++b).map C)-q*C u)*C u) (E 0):=by rw[ki,xaO,vo];refine Cg.trans (Cg.sub (Cg.of ?_)<|Cg.of<|zd q (C u)<|C u)<|Cg.iff_sub.1 n;rw[zd,zo<|prZ<|b.map C]
 have s:=hi.mn.mn.zero c (o.subt<|fq.mul<|Fs.ci u) λk B=>by rw[r k,zS,xaq]
 have t:Di p (C u) (prZ<|(a++b).map C):=⟨q,fq,Cg.iff_sub.2 s⟩;have x:=hi.mem h.hp j (us:=a++b) (λw z=>by
  obtain h|h:=xab.1 z
  exact(by assumption:Sf p m (a++u::b)).ir w<|xdO _ h;exact(by assumption:Sf p m (a++u::b)).ir w<|xep _<|FS _ h) t
 obtain h8|h8:=xab.1 x
 exact hi.self c<|KJ.2.2 u h8 u<|IR;exact hi.self c<|KJ.2.1.1 u h8
def Sf.len(h:Sf p m us)(c:vu p g)(hd:Di p (C g) (C m)):X g<=290:=by have⟨q,fq,h1⟩:=hd;exact xal (ni (zA h.hp).1 h.mn c fq h1) h.ml
def Sf.some{p:J}{m:N J}{us:N (N J)}(h:Sf p m us){g:N J}(e:vu p g)(hd:Di p (C g) (C m))(hl:1<X g):∃u,u∈us/\Di p (C u) (C g):=by
 have j:=h.len e hd;have⟨vs,h1,i⟩:=zqP h.hp (X g) O j e
 cases vs with
 |nil=>
  exfalso;have c:=i<|X g-1;have ht:=e.top;have hp:=(zA h.hp).1;rw[ht,show prZ (List.map C [])=E 1 from O,show E 1 (X g-1)=0 from zG,xaq,xaJ rx W]at c;cases c
 |cons v vs=>
  have c:Di p (C v) (C g):=(dN dP<|xbE<|IR).cg i.symm;have⟨k,n⟩:=h1 v<|IR;exact⟨v,h.mem k W<|c.trans hd,c⟩
def Sf.one{p:J}{m:N J}{us:N (N J)}(h:Sf p m us){g:N J}(c:vu p g)(hd:Di p (C g) (C m))(hl:1<X g)(o:∀u∈us,∀w∈us,Di p (C u) (C g)->Di p (C w) (C g)->u=w):Jj p g:=by
 have⟨s,A⟩:=zA h.hp;have B:=h.len c hd;have⟨u,i,h1⟩:=h.some c hd hl;have⟨hi,D⟩:=h.ir u i;have⟨q,j,hc,hn⟩:=quo h.hp c hi.mn W h1;by_cases t:1<X q;exfalso;have k:Di p (C q) (C g):=⟨C u,Fs.ci u,hc.trans<|Cg.of<|zo _ _⟩;have⟨w,x,n⟩:=h.some j (k.trans hd) t;have e:=o w x u i (n.trans k) h1;subst e;have⟨r,fr,z⟩:=n;refine h.sq i<|Di.trans ⟨r,fr,hc.trans<|(z.mul Cg.rfl).trans<|Cg.of<|zd _ _ _⟩ hd;have hp:=j.ln;have E:=j.one W;have:g=u:=by refine(N4 s hi.mn c h1 ?_).symm;lia
 rw[this];exact hi
def Sf.apart(h:Sf p m us){a b:Pz}(k:Fs a)(n:Fs b)(c:Di p (a*b) (C m))(e:u∈us)(h1:Di p (C u) a)(i:Di p (C u) b):UP:=by have⟨q,fq,e1⟩:=h1;have⟨r,fr,j⟩:=i;refine h.sq e<|Di.trans ⟨q*r,fq.mul fr,(e1.mul j).trans<|Cg.of ?_⟩ c;rw[zd,zd,zF (C u) r]
def zoR{t e i:N J}{S:K}(c:BzR p g t d e i S)(u:N J):Di p (ci u) (ci d)↔Di p (ci u) (ci g)/\Di p (ci u) (ci t):=by have⟨A,C,j,k,h1,n⟩:=c.dv;refine⟨λh=>⟨h.trans ⟨A,j,h1⟩,h.trans ⟨C,k,n⟩⟩,λ⟨a,b⟩=> ?_⟩;exact(Di.add (a.mul _<|Fs.ci _)<|b.mul _<|Fs.ci _).cg c.cg.symm
def iL{α:Type}[DecidableEq α]:∀{vs us:N α},vs.Nodup->(∀v∈vs,v∈us)->X vs<=X us
 |[],_,_,_=>xaf _
 |v::vs,us,hn,h=>by
  have⟨h1,i⟩:=xfl.1 hn;have hv:=h v<|IR;have j:=iL (us:=us.erase v) i λw c=>by
   refine(List.mem_erase_of_ne λe=> ?_).2<|h w<|FS _ c;rw[e]at c;exact h1 c
  have k:=List.length_erase_of_mem hv;have n:=xfs hv;simp only[xaw];lia
def Sf.nodup(h:Sf p m us):us.Nodup:=by
 have hp:=(zA h.hp).1;have:∀us:N (N J),(∀u∈us,Jj p u/\X u<=290)->us.Pairwise (λa b=>km p (C a)<|C b)->us.Nodup:=λus=>by
  induction us with
  |nil=>intro _ _;exact List.nodup_nil
  |cons u us c=>
   intro hi e;have⟨w1,i⟩:=xdi.1 e;refine xfl.2 ⟨λj=> ?_,c (λg k=>hi g<|FS _ k) i⟩;exact(hi u<|IR).1.self hp<|w1 u j
 exact this us h.ir h.pw
structure Pl(p:J)(m:N J)(l:N (N J)):Prop where
 mn:∀g∈l,vu p g/\1<g.length
 pr:Cg p (C m) (prZ<|l.map C)
def Pl.dv(h:Pl p m l)(c:g∈l):Di p (C g) (C m):=(dN dP<|xbE c).cg h.pr.symm
theorem zds(a b:N (N J))(g:N J):prZ ((a++g::b).map C)=C g*prZ ((a++b).map C):=by grind [prZ,C,vo,zF]
def Sf.pick{p:J}{m:N J}{us:N (N J)}(h:Sf p m us):∀{l:N (N J)},(∀g∈l,vu p g/\1<X g)->Di p (prZ<|l.map C) (C m)->∃vs:N (N J),X vs=X l/\vs.Nodup/\∀v∈vs,v∈us/\Di p (C v) (prZ<|l.map C)
 |[],_,_=>⟨[],O,List.nodup_nil,λv hv=>by cases hv⟩
 |g::l,c,hd=>by
  have fl:Fs (prZ<|l.map C):=Fs.prZ dP;have d1:Di p (C g) (prZ<|(g::l).map C):=⟨prZ<|l.map C,fl,Cg.of<|zo _ _⟩;have d2:Di p (prZ<|l.map C) (prZ<|(g::l).map C):=⟨C g,Fs.ci g,Cg.rfl⟩;have⟨j,k⟩:=c g<|IR;have⟨u,e,i⟩:=h.some j (d1.trans hd) k;have⟨vs,v1,n,v3⟩:=h.pick (λg o=>c g<|FS _ o)<|d2.trans hd;refine⟨u::vs,by simp[v1],xfl.2 ⟨λhc=> ?_,n⟩,λv hv=> ?_⟩;exact h.apart (Fs.ci g) fl hd e i (v3 u hc).2;obtain rfl|hv:=xai.1 hv
  exact⟨e,i.trans d1⟩;exact⟨(v3 v hv).1,(v3 v hv).2.trans d2⟩
def Sf.more(h:Sf p m us)(hl:Pl p m l){w:N J}(j:g∈l)(c:u∈us)(e:w∈us)(h1:Di p (C u) (C g))(k:Di p (C w) (C g))(n:u≠w):X l<X us:=by
 obtain⟨a,b,rfl⟩:=xeo j;have i:=hl.pr;rw[zds]at i;have fl:Fs (prZ<|(a++b).map C):=Fs.prZ dP;have hd:Di p (C g*prZ ((a++b).map C)) (C m):=⟨E 1,Fs.pc 1,i.trans<|Cg.of (zE _).symm⟩;have⟨vs,v1,o,v3⟩:=h.pick (l:=a++b) (λx q=>by
  obtain h|h:=xab.1 q
  exact hl.mn x<|xdO _ h;exact hl.mn x<|xep _<|FS _ h) (Di.trans ⟨C g,Fs.ci g,Cg.rfl⟩ hd)
 have hn:(u::w::vs).Nodup:=by
  refine xfl.2 ⟨λhc=> ?_,xfl.2 ⟨λhc=> ?_,o⟩⟩;obtain hc|hc:=xai.1 hc
  exact n hc;exact h.apart (Fs.ci g) fl hd c h1 (v3 u hc).2;exact h.apart (Fs.ci g) fl hd e k (v3 w hc).2
 have:=iL (us:=us) hn λv hv=>by
  obtain rfl|hv:=xai.1 hv
  exact c;obtain rfl|hv:=xai.1 hv
  exact e;exact(v3 v hv).1
 simp only[xaw,xau]at this v1⊢;lia
def Pl.split{a b:N (N J)}{q:N J}(h:Pl p m (a++g::b))(hd:vu p d)(c:vu p q)(e:1<X d)(i:1<X q)(hc:Cg p (C g) (C q*C d)):Pl p m (a++d::(b++[q])):=by
 refine⟨λx hx=> ?_,?_⟩;obtain hx|hx:=xab.1 hx
 exact h.mn x<|xdO _ hx;obtain rfl|hx:=xai.1 hx
 exact⟨hd,e⟩;obtain hx|hx:=xab.1 hx
 exact h.mn x<|xep _<|FS _ hx;rw[xad.1 hx];exact⟨c,i⟩;have h1:=h.pr;rw[zds]at h1⊢;rw[<-xar,xaO,vo];refine h1.trans<|(hc.mul Cg.rfl).trans<|Cg.of ?_;show C q*C d*prZ ((a++b).map C)=C d*(prZ ((a++b).map C)*(C q*E 1));rw[yp,zo (prZ _)<|C q,zF<|C d,zd]
structure Bs(P:K)(m:N J)(b:K->Pz)(n:K):Prop where
 od:P=2\/P%2=1
 ml:1<m.length
 sp:∀e:Pz,(∀k,m.length-1<=k->e k=0)->Di (P:J) (C m) (pp e P-e)->∃a:K->J,Cg (P:J) e<|smP n λi=>E (a i)*b i
 sm:∀i,i<n->∀k,m.length-1<=k->b i k=0
 fx:∀i,i<n->Di (P:J) (C m) (pp (b i) P-b i)
def Bs.val(h:Sf (P:J) m us){n:K}(e:Bs P m b n)(j:u∈us){i:K}(hi:i<n):∃c:K,c<P/\Vl (P:J) u (b i) c:=by have hl:=h.ml;have k:=e.ml;exact zmm h.hp (h.ir u j).1 (h.ir u j).2 (h.dv j) (n:=X m-1) (e.sm i hi) W W<|e.fx i hi
def Bs.le(h:Sf (P:J) m us){n:K}(D:Bs P m b n):X us<=n:=by
 have⟨F,p2⟩:=zA h.hp;have hl:=h.nodup;have hd:∀j,j<X us->us.getD j []∈us:=λj k=>by rw[UV,xaa k];exact xby k
 have G:∀i j,∃c:J,i<n->j<X us->Vl (P:J) (us.getD j []) (b i) c:=λi j=>by
  by_cases hi:i<n;by_cases k:j<X us;have⟨c,_,hc⟩:=D.val h (hd j k) hi;exact⟨c,λ_ _=>hc⟩;exact⟨0,λ_ h=>jp h k⟩;exact⟨0,λh=>jp h hi⟩
 have H:∀j,∃a:K->J,j<X us->∃e:Pz,Cg (P:J) e (smP n λi=>E (a i)*b i)/\Vl (P:J) (us.getD j []) e 1/\∀w,w∈us->w≠us.getD j []->Vl (P:J) w e 0:=λj=>by
  by_cases k:j<X us;have⟨e,e1,t,x,s⟩:=zsL h.hp h.mn h.ir h.pw h.cg<|hd j k;have⟨a,U⟩:=D.sp e e1 s;exact⟨a,λ_=>⟨e,U,t,x⟩⟩;exact⟨λ_=>0,λh=>jp h k⟩
 have z:∃A:K->K->J,∀j,j<X us->∃e:Pz,Cg (P:J) e (smP n λi=>E (A j i)*b i)/\Vl (P:J) (us.getD j []) e 1/\∀w,w∈us->w≠us.getD j []->Vl (P:J) w e 0:=⟨λj=>Classical.choose<|H j,λj=>xfF<|H j⟩;have B:∃C:K->K->J,∀i j,i<n->j<X us->Vl (P:J) (us.getD j []) (b i) (C i j):=⟨λi j=>Classical.choose<|G i j,λi j=>xfF<|G i j⟩;have⟨A,z⟩:=z;have⟨C,B⟩:=B;have:=Gu h.hp n (xaC (X us)) A C List.nodup_range λj k o V=>by
  have l1:=xbd.1 k;have r:=xbd.1 V;have⟨e,e1,t,x⟩:=z j l1;have s:=(tV (a:=A j) n λi hi=>B i o hi r).cg e1.symm;have L:=(h.ir _<|hd o r).1;by_cases q:j=o;subst q;rw[Q O];exact s.uniq F L t;rw[S q];refine s.uniq F L<|x _ (hd o r) λY=>q ?_;have g1:=UV (l:=us) (i:=j) (a:=[]);have M:=UV (l:=us) (i:=o) (a:=[]);rw[xaa l1]at g1;rw[xaa r]at M;have R:us[j]=us[o]:=by have:us.getD j []=us.getD o []:=Y.symm;rw[g1,M]at this;exact this
  apply xak;intro hh;have T:=xcU.1 hl;obtain hlt|hlt:=Nat.lt_or_gt_of_ne q
  exact T j o l1 r hlt R;exact T o j r l1 hlt R.symm
 rwa[xex]at this
def Ct(P:K)(us:N (N J))(v:Pz)(c:J)(g:N J):Prop:=
 (∀u∈us,Di (P:J) (C u) (C g)->∀a,Vl (P:J) u v a->AK P (a+c))\/(∀u∈us,Di (P:J) (C u) (C g)->∀a,Vl (P:J) u v a->¬AK P (a+c))
def Ct.sub{c:J}(h:Ct P us v c g)(hd:Di (P:J) (C d) (C g)):Ct P us v c d:=by
 obtain h|h:=h
 exact .inl λu e i=>h u e<|i.trans hd;exact .inr λu e i=>h u e<|i.trans hd
def Pl.done(h:Sf (P:J) m us){n:K}(e:Bs P m b n)(hl:Pl (P:J) m l)(h0:∃c:J,Cg (P:J) (b 0)<|E c)(B:X l=n\/∀i,1<=i->i<n->∀c:K,c<P->∀g∈l,Ct P us (b i) c g):∀g∈l,Jj (P:J) g:=λg o=>by
 have⟨H,L⟩:=zA h.hp;have⟨g1,D⟩:=hl.mn g o;refine h.one g1 (hl.dv o) D λu j w k h1 r=> ?_;apply xak;intro A;have hn:=e.le h;have M:=h.more hl o j k h1 r A;obtain he|he:=B
 lia
 refine A ?_;have hc:∀i,∃c:J,i<n->Vl (P:J) u (b i) c/\Vl (P:J) w (b i) c:=λi=>by
  by_cases hi:i<n;by_cases F:i=0
  have⟨c,hc⟩:=h0;subst F;exact⟨c,λ_=>⟨(Vl.pc _ u c).cg hc.symm,(Vl.pc _ w c).cg hc.symm⟩⟩
  have⟨x,_,s⟩:=e.val h j hi;have⟨y,_,t⟩:=e.val h k hi;have hd:(P:J)∣(x:J)-y:=zmz h.hp e.od λc G=>by
   obtain ht|ht:=he i W hi c G g o
   exact⟨λ_=>ht w k r _ t,λ_=>ht u j h1 _ s⟩;exact⟨λz=>jp z<|ht u j h1 _ s,λz=>jp z<|ht w k r _ t⟩
  exact⟨y,λ_=>⟨s.md hd,t⟩⟩;exact⟨0,λh=>jp h hi⟩
 have q:∃C:K->J,∀i,i<n->Vl (P:J) u (b i) (C i)/\Vl (P:J) w (b i) (C i):=⟨λi=>Classical.choose<|hc i,λi=>xfF<|hc i⟩;have⟨C,q⟩:=q;exact sep h.hp h.mn h.ir h.pw h.cg e.sp j k (λi hi=>(q i hi).1) λi hi=>(q i hi).2
end
section
variable{p:wF}{a g d v ds m:ww wF}{y:Pz}{E fu P k i nb:wL}{us l bs:ww (ww wF)}
def Em(p:J)(a:N J)(x y:Pz):Prop:=Di p (C a)<|x-y
def Em.rfl{x:Pz}:Em p a x x:=(Di.zero p<|C a).cg<|Cg.of<|funext λk=>by rw[y8,zS,xej]
def Em.cg{p:J}{a:N J}{x y:Pz}(h:Cg p x y):Em p a x y:=(Di.zero p<|C a).cg (Cg.iff_sub.1 h).symm
def Em.symm{x:Pz}(h:Em p a x y):Em p a y x:=(Di.sub (Di.zero p<|C a) h).cg<|Cg.of<|funext λk=>by simp only[y8,zS];lia
def Em.trans{x z:Pz}(h:Em p a x y)(g:Em p a y z):Em p a x z:=(Di.add h g).cg<|Cg.of<|funext λk=>by simp only[zX,y8];lia
def Em.mul{p:J}{a:N J}{x y z w:Pz}(fx:Fs x)(b:Fs w)(h:Em p a x y)(g:Em p a z w):Em p a (x*z) (y*w):=by refine(Di.add (Di.mul x fx g)<|Di.mul w b h).cg<|Cg.of ?_;rw[qx,qx,zo w x,zo w y];funext k;simp only[zX,y8];lia
def Em.dv{b:N J}{x:Pz}(h:Em p a x y)(g:Di p (C b) (C a)):Em p b x y:=g.trans h
def Em.vl{u:N J}{x:Pz}{c:J}(h:Em p u x y)(g:Vl p u y c):Vl p u x c:=by refine(Di.add h g).cg<|Cg.of ?_;funext k;simp only[zX,y8];lia
def Em.rest{x q r:N J}(h:Cg p (C x) (C q*C a+C r)):Em p a (C x) (C r):=by refine⟨C q,Fs.ci q,(h.sub Cg.rfl).trans<|Cg.of ?_⟩;funext k;simp only[zX,y8];lia
theorem zlc(h0:0<E)(h:E<18446744073709551616):yC (E:J)=(I,[E]):=by grind [yC,Mc]
def zq8(n:K):n<2^bl n:=by
 induction n using xdz with
 |ind n b=>
  obtain rfl|h:=xct n
  skip;decide;have h1:=b (n/2) W;rw[lD h];lia
structure PwI(p:J)(a w:N J)(E i:K)(t:N J):Prop where
 fp:Fp p t
 ln:t.length<a.length
 em:Em p a (pp (C w)<|E/2^i) (C t)
def UQ{w:N J}(hp:qt p=wT)(o:Fp p w)(e:vu p a)(hm:X w<=40000)(hn:X a<=40000)(h0:0<E)(hE:E<1048576)(c:3000000<=fu):
 ∃r,Zs fu w (yC E) a p=Z (r,0)/\Fp p r/\X r<X a/\Em p a (pp (C w) E) (C r):=by
 have⟨p1,h⟩:=zA hp;have hc:=e.ln;have u:=zlc h0 (W:E<18446744073709551616);have z:zp [E]:=λx H=>by rw[xad.1 H];lia
 have M:nv [E]=E:=by simp[nv]
 have R:fW (yC (E:J)):=by rw[u];exact⟨z,rC⟩
 have⟨q1,r1,d1,d2,d3,d4,d5,d6⟩:=xJ (fu:=fu) hp (Q3 (x:=1)) e.fm hc rC W c;have⟨q2,r2,f1,f2,f3,f4,f5,f6⟩:=xJ (fu:=fu) hp o e.fm hc W W c;have T:bl E<=20:=bU (W:E<2^20);have hl:jE (E:J) 0=1:=by unfold jE;rw[zG,yg]
 unfold Zs;rw[Y<|Za hp,Q O,Y<|y5 R c,zn,hl,S rx,Y<|zN W h (e.fm.rl h) W c,e.fm.pm,zG,Y d1];simp only;rw[Y<|zN W h (o.rl h) W c,o.pm,Y f1];simp only;rw[u];show∃r,G (ZD fu [E]) _=_/\_;rw[Y (Vj z rC<|by simp;lia),M,zb];have hd:=zM (f:=W2 fu (I,[E]) p a) (λs:N J×N J×J=>∃(i:K) (t:N J),s=(t,r2,(i:J)-1)/\i<=20/\PwI p a w E i t) (λs=>(s.2.2+1).toNat) (λr=>PwI p a w E 0 r) (by
  rintro s L ⟨i,t,rfl,hi,b⟩ A;unfold W2;simp only
  cases i with
  |zero=>rw[zG];exact⟨t,O,b⟩
  |succ i=>
   have ho:=b.ln;have ml:=jK p t t;have⟨q3,j,g1,g2,B,U,V,g6⟩:=xJ (fu:=fu) hp (jj (p:=p) W t t) e.fm hc W W c;have n:Em p a (pp (C w)<|E/2^(i+1)+E/2^(i+1)) (C j):=by rw[Ek];refine(Em.mul ((Fs.ci w).pp _) (Fs.ci t) b.em b.em).trans<|(Em.cg (ZU p t t).symm).trans<|Em.rest U
   have ei:((i+1:K):J)-1=(i:J):=W
   have e1:xdv (i:J) 64=0:=by rw[xeW W];lia
   have e2:xcB (i:J) 64=(i:J):=by rw[Int.tmod_eq_emod_of_nonneg W];lia
   have e3:E/2^i/2=E/2^(i+1):=by rw[xaF,xbA]
   rw[ei,yg,Y<|vg W h b.fp b.fp W W c,Y g1];simp only;rw[xN rx,e1,yj ⟨rx,rx⟩,show(0:J)=((0:K):J)from O,zm rC,F,xN rx,e2,F,y9,F,F];have e4:(([E]:N K).getD 0 0/2^(min (i:J).toNat 64)) &&& 1=E/2^i%2:=by rw[Nat.and_one_is_mod,xba,xcl W];rfl
   rw[e4];by_cases hb:E/2^i%2=1
   rw[yg];have a0:=jK p j r2;have⟨q4,D,k1,k2,k3,k4,k5,k6⟩:=xJ (fu:=fu) hp (jj (p:=p) W j r2) e.fm hc W W c;rw[Y<|vg W h B f3 W W c,Y k1];simp only;rw[zb];refine A _ ⟨i,D,O,W,⟨k3,k5,?_⟩⟩ (by show((i:J)-1+1).toNat<(((i+1:K):J)-1+1).toNat;lia);have q:E/2^i=E/2^(i+1)+E/2^(i+1)+1:=W
   rw[q];show Em p a (pp (C w) (E/2^(i+1)+E/2^(i+1))*C w) (C D);exact(Em.mul ((Fs.ci w).pp _) (Fs.ci r2) n<|Em.rest f4).trans<|(Em.cg (ZU p j r2).symm).trans<|Em.rest k4;rw[zG,zb];refine A _ ⟨i,j,O,W,⟨B,V,?_⟩⟩ (by show((i:J)-1+1).toNat<(((i+1:K):J)-1+1).toNat;lia);have q:E/2^i=E/2^(i+1)+E/2^(i+1):=W
   rw[q];exact n)
 have⟨r,hr,b⟩:=hd fu (r1,r2,((bl E:K):J)-1) ⟨bl E,r1,O,T,⟨d3,d5,by have hz:E/2^bl E=0:=xbj<|zq8 E;rw[hz];show Em p a (pc 1) (C r1);have h1:Em p a (C [1]) (C r1):=Em.rest d4;rwa[j8]at h1⟩⟩ (by show(((bl E:K):J)-1+1).toNat<fu;lia)
 refine⟨r,?_,b.fp,b.ln,?_⟩;rw[Y hr];have:=b.em;rwa[xfd,xer]at this
def zhf{h s t:N J}{S:K}(hp:2<=p)(c:vu p h)(b:BzR p g h d s t S)(hd:X d=0\/ci d (X d-1)=1):vu p d:=by
 have⟨A,C,f,z2,d1,d2⟩:=b.dv;have hl:0<X d:=by refine xcP λe=> ?_;have h1:=d2<|X h-1;rw[c.top,vt,xb λi hi=>by rw[yz W,xaA],xaJ rx W]at h1;cases h1
 exact⟨b.df,hl,hd.resolve_left W⟩
def Hy{t:N J}(hp:qt p=wT)(ht:Fp p t)(c:vu p g)(e:X t<=290)(hc:X g<=290)(f:3000000<=fu):
 ∃d,dE fu t g p=Z d/\vu p d/\Di p (ci d) (ci g)/\∀u:N J,Di p (ci u) (ci d)↔Di p (ci u) (ci t)/\Di p (ci u) (ci g):=by
 have⟨h,n⟩:=zA hp;have⟨d,o,q,e1,b,j⟩:=K8 hp ht c.fm e hc f;have⟨A,C,r,z2,d1,d2⟩:=b.dv;refine⟨d,?_,zhf h c b j,⟨C,z2,d2⟩,λu=>zoR b u⟩;unfold dE;rw[Y e1]
def OX(hp:qt p=wT)(e:vu p g)(hd:vu p d)(x:X g<=290)(h:Di p (C d) (C g))(j:3000000<=fu):
 ∃q,my fu g d p=Z q/\vu p q/\Cg p (C g) (C q*C d)/\X g+1=X q+X d:=by
 have⟨n,f⟩:=zA hp;have⟨A,o,h1⟩:=h;have hc:=ni n e hd o h1;have⟨q,r,e1,s,t,u,w,z⟩:=xJ hp e.fm hd.fm hd.ln W W j;have⟨a,b,c⟩:=LV n e hd o h1 s t u w;refine⟨q,?_,a,b,c⟩;unfold my kD;rw[Y (v:=(q,r,0))];rw[Y<|Za hp,Q O,Y<|zN W f (hd.fm.rl f) W j,hd.fm.pm,zG,Y<|zN W f (e.fm.rl f) W j,e.fm.pm,Y e1]
def CG{c:J}(hp:qt (P:J)=wT)(hv:Rl v)(L:X v<=290)(n:vu (P:J) g)(M:X g<=290)(hl:0<=c)(R:c<P)(b:3000000<=fu):
 ∃t,JN fu v c g P=Z t/\Fp (P:J) t/\X t<=290/\∀u:N J,Jj (P:J) u->Di (P:J) (C u) (C g)->∀x,Vl (P:J) u (C v) x->(Di (P:J) (C u) (C t)↔AK P (x+c)):=by
 have⟨o,h⟩:=zA hp;have hi:=n.ln;have A:Rl [c]:=λk=>by
  rw[j8];unfold pc;split;lia;lia
 have⟨w,f⟩:∃w,w=Wm (P:J) (pm P v) (pm P [c]) 1:=⟨_,O⟩;have l1:=zcL (P:J) v;have q:=zcL (P:J) [c];have B:X w<=290:=by have:=DD (P:J) (pm P v) (pm P [c]) 1;rw[<-f]at this;simp only[xaw,xbV]at q;lia
 have s:Fp (P:J) w:=by rw[f];exact dW W _ _ _
 have D:Cg (P:J) (C w) (C v+pc c):=by rw[f];refine(OT _ _ _ _).trans<|(PY _ v).add ?_;rw[zE];exact(PY _ [c]).trans<|Cg.of<|j8 c
 have F:Uq fu v [c] P=Z (w,0):=by unfold Uq;rw[Y<|Za hp,Q O,Y<|zN W h hv W b,Y<|zN W h A rC b,Y<|Kx W h (Ej W v) (Ej W [c]) rx W W (by simp only[xaw,xbV]at q;lia) b,f]
 have vw:∀u:N J,∀x,Vl (P:J) u (C v) x->Vl (P:J) u (C w) (x+c):=λu x e=>(Vl.add e<|Vl.pc _ u c).cg D.symm;unfold JN;rw[Y F];simp only;by_cases z:2<P;have⟨r,e1,G,T,H⟩:=UQ (fu:=fu) (E:=(P-1)/2) hp s n W W W W b;have hd:xdv ((P:J)-1) 2=(((P-1)/2:K):J):=by rw[xeW W];lia
 have⟨t,ht⟩:∃t,t=Wm (P:J) r [1] ((P:J)-1):=⟨_,O⟩;have f1:Fp (P:J) [1]:=Q3;have lt:=DD (P:J) r [1]<|(P:J)-1;rw[<-ht]at lt;have ct:Cg (P:J) (C t) (C r-pc 1):=by rw[ht];refine(OT _ _ _ _).trans ?_;rw[j8,ky,xcO];intro k;rw[zX,y8];unfold pc;split;rw[(W:C r k+((P:J)-1)=C r k-1+P*1),Int.add_mul_emod_self_left];rw[xbY,xdf]
 rw[yg,zb,xN rx,hd,zb,Y<|yr ⟨W,W⟩ b,Y e1];simp only;rw[Y<|gA hp G f1 W rC b];refine⟨t,by rw[ht],by rw[ht];exact dW W _ _ _,by simp only[xaw,xbV]at lt;lia,λu j hc x e=> ?_⟩
 have v1:Vl (P:J) u (C t) ((x+c)^((P-1)/2)-1):=
  (Vl.sub ((Em.dv H hc).symm.vl<|Vl.pp (Fs.ci w) (vw u x e)<|(P-1)/2)<|Vl.pc _ u 1).cg ct.symm
 refine(v1.di o j).trans ?_;unfold AK;rw[Q z];rw[zG];refine⟨w,O,s,B,λu j hc x e=> ?_⟩;refine((vw u x e).di o j).trans ?_;unfold AK;rw[S z]
def nxt(P:K)(ds:N J)(k:K):J:=if k<X ds then ds.getD k 0%P else((k-X ds:K):J)
theorem pB(b:2<=P)(c:P<=65521)(hd:Rl ds)(e:k<P+X ds)(hc:X ds<=1000):YD fu (k:J) ds P=Z (nxt P ds k)/\0<=nxt P ds k/\nxt P ds k<P:=by unfold YD nxt;by_cases h:k<X ds;rw[zm h,F,Y (show ZJ fu (ds.getD k 0) P=Z (ds.getD k 0%P)from Y0 W W<|hd k)];have:=xf (a:=ds.getD k 0) (p:=P);simp_all;rw[zb];grind
abbrev Ts:=Pz->J->Prop
structure Pd(P:K)(m:N J)(us:N (N J))(S:Ts)(l:N (N J)):Prop where
 pl:Pl (P:J) m l
 ts:∀v c,S v c->∀g∈l,Ct P us v c g
def zkf{α:Type}{a b:N α}{g q d:α}:((a++g::b)++[q]).set (X a) d=a++d::(b++[q]):=by simp_all
def zje{α:Type}{l:N α}(h:i<X l)(z:α):∃a b,l=a++l.getD i z::b/\X a=i:=by refine⟨l.take i,l.drop<|i+1,?_,by rw[xas];lia⟩;simp_all
theorem Xd{α:Type}{l:N α}(h:i<X l)(z:α):l.getD i z∈l:=by grind
def Sf.pl_len(h:Sf p m us)(hl:Pl p m l):X l<=X us:=by have⟨vs,v1,b,v3⟩:=h.pick hl.mn ⟨pc 1,Fs.pc 1,hl.pr.trans<|Cg.of (zE _).symm⟩;have:=iL b λv hv=>(v3 v hv).1;lia
def zkb{t7:N (N J)}{i2 i4:J}{S:Ts}(h:Sf (P:J) m us)(hJ:X us<=290)(hK:X bs=nb)(hG:nb<=290)(hd:Rl ds)(hA:X ds<=1000)(hv:Rl v)(hB:X v<=290)(hk:k<P+X ds)(G:3000000<=fu)(hl:Pd P m us S l):
 ∃r,zg (Q8 fu P ds bs P ds i2 (k:J) t7 i4 v) fu (l,0)=Z r/\
  ((∃l',r=.inl l'/\Pl (P:J) m l'/\X l'=nb)\/∃l',r=.inr l'/\Pd P m us (λw c=>S w c\/w=C v/\c=nxt P ds k) l'):=by
 have⟨H,p2⟩:=zA h.hp;have⟨n1,n2,n3⟩:=pB (fu:=fu) (P:=P) (k:=k) (ds:=ds) W W hd hk hA;refine zM (λs:N (N J)×J=>∃(i:K) (l:N (N J)),s=(l,(i:J))/\Pd P m us S l/\i<=X l/\∀j,j<i->Ct P us (C v) (nxt P ds k) (l.getD j [])) (λs=>300-s.2.toNat) _ ?_ _ _ ⟨0,l,O,hl,xaf _,λj D=>by lia⟩ (by show 300-0<fu;lia);rintro s L ⟨i,l,rfl,hl,hi,ht⟩ T;have hL:=h.pl_len hl.pl;unfold Q8;simp only;by_cases h1:i<X l;rw[yg];by_cases h2:X l=nb;rw[yg];exact⟨_,O,.inl ⟨l,O,hl.pl,h2⟩⟩
 rw[zG,Y n1,zm h1,F];have⟨a,b,hc,hp⟩:=zje h1 [];have A:=Xd h1 [];have⟨g,f⟩:∃g,g=l.getD i []:=⟨_,O⟩;rw[<-f]at hc A⊢;have⟨g1,g2⟩:=hl.pl.mn g A;have hC:=hl.pl.dv A;have M:=h.len g1 hC;have⟨t,t1,t2,t3,t4⟩:=CG (fu:=fu) h.hp hv hB g1 M n2 n3 G;have⟨d,d1,d2,d3,d4⟩:=Hy (fu:=fu) h.hp t2 g1 t3 M G;have hM:=d2.ln;have hH:X d<=X g:=by have⟨q,fq,hq⟩:=d3;exact ni H g1 d2 fq hq
 rw[Y t1,zm h1,F,<-f,Y d1];have hn:∀u∈us,Di (P:J) (C u) (C g)->∀x,Vl (P:J) u (C v) x->(Di (P:J) (C u) (C d)↔AK P (x+nxt P ds k)):=λu n o x hx=>
  ⟨λQ=>(t4 u (h.ir u n).1 o x hx).1 ((d4 u).1 Q).1,λQ=>(d4 u).2 ⟨(t4 u (h.ir u n).1 o x hx).2 Q,o⟩⟩
 by_cases h3:1<X d/\X d<X g;have⟨q,q1,q2,U,q4⟩:=OX (fu:=fu) h.hp g1 d2 M d3 G;rw[yg,zm h1,F,<-f,yg,Y O];simp only[Z4];rw[zm h1,F,<-f,Y q1,xN (by simp;lia),F,zm (by simp;lia),F,zb];have hr:(l++[q]).set i d=a++d::(b++[q]):=by rw[hc,<-hp,zkf]
 have hD:Di (P:J) (C q) (C g):=⟨C d,Fs.ci d,U.trans<|Cg.of<|zo _ _⟩;have hw:∀x∈a++d::(b++[q]),x=d\/x=q\/x∈l:=λx hx=>by
  obtain hx|hx:=xab.1 hx
  right;right;rw[hc];exact xdO _ hx;obtain hx|hx:=xai.1 hx
  exact .inl hx;obtain hx|hx:=xab.1 hx
  right;right;rw[hc];exact xep _<|FS _ hx;exact .inr (.inl<|xad.1 hx)
 have hy:Pl (P:J) m (a++d::(b++[q])):=by have:=hl.pl;rw[hc]at this;exact this.split d2 q2 W W U
 refine T _ ⟨i+1,_,O,?_,?_,?_⟩ ?_;rw[hr];refine⟨hy,λw c z x hx=> ?_⟩;obtain rfl|rfl|hx:=hw x hx
 exact(hl.ts w c z g A).sub d3;exact(hl.ts w c z g A).sub hD;exact hl.ts w c z x hx;rw[xbe,xau];lia;intro j D;rw[hr];by_cases R:j=i;left;have e:(a++d::(b++[q])).getD j []=d:=by rw[R,<-hp,UV,xbl<|Nm _,xck];rfl
 rw[e];intro u n hz x hx;exact(hn u n (hz.trans d3) x hx).1 hz;have e:(a++d::(b++[q])).getD j []=l.getD j []:=by rw[hc,UV,UV,xaZ W,xaZ W]
 rw[e];exact ht j W
 have:=h.pl_len hy;have hI:X l=X a+1+X b:=by rw[hc];simp;lia
 simp only[xau,xaw]at this;show 300-((i:J)+1).toNat<300-(i:J).toNat;lia;have hE:Ct P us (C v) (nxt P ds k) g:=by
  by_cases h4:1<X d;left;have e:d=g:=N4 H d2 g1 d3 W;intro u n o x hx;exact(hn u n o x hx).1<|by rw[e];exact o
  right;intro u n o x hx hT;have h5:=(hn u n o x hx).2 hT;have h6:d=[1]:=d2.one W;rw[h6,j8]at h5;exact(h.ir u n).1.ne H h5
 have hF:(if(1:J)<(X d:J)then
  zD (i:J) (X l) λj5=>
  B (l.getD j5 []) λt13=>
  if(X d:J)<(X t13:J)then
  Z (bs,(P:J),ds,(k:J),v,t7,i4,i2,wT)
  else
  Z (bs,(P:J),ds,(k:J),v,t7,i4,i2,I)
  else
  Z (bs,(P:J),ds,(k:J),v,t7,i4,i2,I):V (N (N J)×J×N J×J×N J×N (N J)×J×J×ut))=Z (bs,(P:J),ds,(k:J),v,t7,i4,i2,I):=by
  by_cases h4:1<X d;rw[yg,zm h1,F,<-f,zG];rw[zG]
 rw[Y hF];simp only[xaj,Z5];rw[zb];refine T _ ⟨i+1,l,O,hl,W,λj D=> ?_⟩ (by show 300-((i:J)+1).toNat<300-(i:J).toNat;lia);by_cases R:j=i;rw[R,<-f];exact hE;exact ht j W
 rw[zG];refine⟨_,O,.inr ⟨l,O,hl.pl,λw c z g f=> ?_⟩⟩;obtain z|⟨rfl,rfl⟩:=z
 exact hl.ts w c z g f;have⟨j,D,e⟩:=xcZ f;have:=ht j W;rw[UV,xaa D]at this;rw[<-e];exact this
def Pd.mono{S T:Ts}(h:Pd P m us S l)(b:∀v c,T v c->S v c):Pd P m us T l:=⟨h.pl,λv c ht=>h.ts v c<|b v c ht⟩
def zf4{S:Ts}(h:Sf (P:J) m us)(hn:X us<=290)(hc:X bs=nb)(ht:1<=nb)(t:nb<=290)(hd:Rl ds)(u:X ds<=1000)(hv:∀v∈bs,Rl v/\X v<=290)(z:k<P+X ds)(A:3000000<=fu)(hl:Pd P m us S l):
 ∃r,zg (Je fu P ds (k:J)<|bs.drop 1) fu (bs,(P:J),ds,l,0)=Z r/\
  ((∃l',r=.inl l'/\Pl (P:J) m l'/\X l'=nb)\/∃l',r=.inr (bs,(P:J),ds,l')/\Pd P m us (λw c=>S w c\/∃i,1<=i/\i<nb/\w=C (bs.getD i [])/\c=nxt P ds k) l'):=by
 refine zM (λs:N (N J)×J×N J×N (N J)×J=>∃(i:K) (l:N (N J)),s=(bs,(P:J),ds,l,(i:J))/\i+1<=nb/\Pd P m us (λw c=>S w c\/∃j,1<=j/\j<i+1/\w=C (bs.getD j [])/\c=nxt P ds k) l) (λs=>300-s.2.2.2.2.toNat) _ ?_ _ _ ⟨0,l,O,W,hl.mono λw c f=>f.elim id λ⟨j,a,b,_⟩=>by lia⟩ (by show 300-0<fu;lia);rintro s L ⟨i,l,rfl,hi,o⟩ B;unfold Je;simp only;have n:X (bs.drop 1)=nb-1:=by rw[xch,hc]
 have q:∀{β:Type} (x:β) (k:β->V ((N<|N J)⊕(N (N J)×J×N J×N (N J)))),G (Z x) k=k x:=λ_ _=>O;by_cases h1:i+1<nb;rw[Q (by rw[n];lia),q];simp only[Z4];rw[zm (by rw[n];lia),F];have e:(bs.drop 1).getD i []=bs.getD (i+1) []:=by rw[UV,UV,xfg,xdA]
 have⟨hp,D⟩:=hv _<|Xd (l:=bs) (i:=i+1) W [];rw[e];have⟨r,H,M⟩:=zkb (fu:=fu) (i2:=(i:J)) (i4:=((X (bs.drop 1):K):J)) (t7:=bs.drop 1) (ds:=ds) h hn hc t hd u hp D z A o;rw[Y H];rcases M with⟨l',rfl,g1,R⟩|⟨l',rfl,g1⟩
 exact⟨_,O,.inl ⟨l',O,g1,R⟩⟩;simp only;rw[zb];refine B _ ⟨i+1,l',O,W,g1.mono λw c f=> ?_⟩ (by show 300-((i:J)+1).toNat<300-(i:J).toNat;lia);obtain f|⟨j,a,b,c1,c2⟩:=f;exact .inl (.inl f);by_cases T:j=i+1
 subst T;exact .inr ⟨c1,c2⟩;exact .inl (.inr ⟨j,a,W,c1,c2⟩);rw[ir (by rw[n];lia),q];simp only[xaj,Z5];refine⟨_,O,.inr ⟨l,O,o.mono λw c f=> ?_⟩⟩;obtain f|⟨j,a,b,c1,c2⟩:=f
 exact .inl f;exact .inr ⟨j,a,W,c1,c2⟩
def Bl(h:Sf (P:J) m us)(hn:1<X m)(t:X us<=290)(hp:X bs=nb)(u:1<=nb)(hi:nb<=290)(hd:Rl ds)(ht:X ds<=1000)(hv:∀v∈bs,Rl v/\X v<=290)(x:3000000<=fu):
 ∃l,Vp fu m bs P ds=Z l/\Pl (P:J) m l/\(X l=nb\/∀i,1<=i->i<nb->∀c:K,c<P->∀g∈l,Ct P us (C<|bs.getD i []) c g):=by
 have⟨R,S⟩:=zA h.hp;unfold Vp
 have z:=zM (f:=QV fu bs P ds) (λs:N (N J)×J=>∃(k:K) (l:N (N J)),s=(l,(k:J))/\k<=P+X ds/\Pd P m us (λw c=>∃j i,j<k/\1<=i/\i<nb/\w=C (bs.getD i [])/\c=nxt P ds j) l) (λs=>P+X ds-s.2.toNat)
  (λl=>Pl (P:J) m l/\(X l=nb\/∀i,1<=i->i<nb->∀c:K,c<P->∀g∈l,Ct P us (C<|bs.getD i []) c g)) (by
  rintro s L ⟨k,l,rfl,T,b⟩ A
  unfold QV
  simp only
  rw[zb]
  by_cases h1:k<P+X ds;rw[yg,show(1:J)=((1:K):J)from O,yF,y9,F]
  have⟨r,B,D⟩:=zf4 (fu:=fu) (ds:=ds) h t hp u hi hd ht hv h1 x b
  rw[Y B]
  rcases D with⟨l',rfl,g1,G⟩|⟨l',rfl,g1⟩
  exact⟨_,O,g1,.inl G⟩;simp only
  rw[zb]
  refine A _ ⟨k+1,l',O,W,g1.mono λw c e=> ?_⟩ (by show P+X ds-((k:J)+1).toNat<P+X ds-(k:J).toNat;lia)
  have⟨j,i,U,o,a3,a4,a5⟩:=e
  by_cases q:j=k;subst q;exact .inr ⟨i,o,a3,a4,a5⟩;exact .inl ⟨j,i,W,o,a3,a4,a5⟩;rw[zG]
  refine⟨_,O,b.pl,.inr λi H M c hc g n=> ?_⟩
  refine b.ts _ _ ⟨X ds+c,i,W,H,M,O,?_⟩ g n
  unfold nxt
  rw[zG,(W:X ds+c-X ds=c)])
 have⟨l,hl,Q⟩:=z fu ([m],0) ⟨0,[m],O,xaf _,⟨⟨λg n=>by rw[xad.1 n];exact⟨h.mn,hn⟩,Cg.of (yp<|C m).symm⟩,λv c e=>by have⟨j,i,q,_⟩:=e;lia⟩⟩ (by show P+X ds-0<fu;lia);exact⟨l,by rw[Y hl],Q⟩
end
section
variable{N w r i fu lo a:wL}{R M A B:wL->Pz}{g f:Pz}{σ:wL->wL}{p q:wF}{m:ww (ww wF)}{l:ww wF}{e:wL->wF}
def ZS(N w:K)(R:K->Pz):ww (ww J):=(xaC N).map λr=>zl w<|R r
def Z6(N w:K)(R:K->Pz):X (ZS N w R)=N:=by unfold ZS;simp
def qK(h:r<N):(ZS N w R).getD r []=zl w (R r):=by simp_all [ZS]
theorem ZT{S:K->Pz}(h:∀r,r<N->∀k,k<w->R r k=S r k):ZS N w R=ZS N w S:=by grind [ZS,y6,xcc]
theorem Pg:(ZS N w R).set r (zl w g)=ZS N w λs=>if s=r then g else R s:=by refine xcv λi=> ?_;unfold ZS;by_cases h:r=i;grind;grind
def cX(N:K)(σ:K->K):ww K:=(xaC N).map σ
def VR(N:K)(σ:K->K):X (cX N σ)=N:=by unfold cX;simp
def Zn(h:i<N:=by lia):(cX N σ).getD i 0=σ i:=by simp_all [cX]
def stk(p:J)(a:K)(own f:Pz):Pz:=λk=>(f k+(p-f a)*own k)%p
def Hk(p:J)(a:K)(own f:Pz)(i:K):Pz:=λk=>if k<i then stk p a own f k else f k
def zmj(hp:0<p)(a:K)(own f:Pz)(k:K):0<=stk p a own f k/\stk p a own f k<p:=xf hp
def zeW{ix:ww K}{n lo2 n2 q:K}{y:J}(h1:2<=p)(T:p<=65521)(h:∀s,s<N->∀k,0<=R s k/\R s k<p)(o:r<N)(t:q<N)(hd:q≠r)(U:w<=64)(C:y=R q a)(b:ww (ww J))(h0:b=ZS N w R)(V:3000000<=fu):
 zg (λL (z:((ww (ww J)×ww K)×K×K)×(K×K)×K×K×K×J)=>
 if z.2.2.2.2.2<(X (b.getD r []):J)then
  zD z.2.2.2.2.2 (X (z.1.1.1.getD z.2.2.2.1 [])) λj=>
  nm ((z.1.1.1.getD z.2.2.2.1 []).getD j 0) λv=>
  zD z.2.2.2.2.2 (X (z.1.1.1.getD z.2.2.2.2.1 [])) λj=>
  nm ((z.1.1.1.getD z.2.2.2.2.1 []).getD j 0) λu=>
  zf (p-y) λe=>
  zf (e*v) λe=>
  zf (u+e) λe=>
  ck (p≠0)<|
  nm (xcB e p) λe=>
  zD z.2.2.2.2.2 (X (z.1.1.1.getD z.2.2.2.2.1 [])) λj=>
  nm (z.1.1.1.set z.2.2.2.2.1<|(z.1.1.1.getD z.2.2.2.2.1 []).set j e) λx=>
  zf (z.2.2.2.2.2+1) λi=>
  L (((x,z.1.1.2),z.1.2),z.2.1,z.2.2.1,z.2.2.2.1,z.2.2.2.2.1,i)
 else Z (z.1,z.2.1,z.2.2.1)) fu (((b,ix),lo,n),(lo2,n2),r,r,q,0)=Z (((ZS N w λs=>if s=q then stk p a (R r) (R q)else R s,ix),lo,n),(lo2,n2),r):=by
 subst h0;refine zB (λz:((ww (ww J)×ww K)×K×K)×(K×K)×K×K×K×J=>∃i:K,i<=w/\z=(((ZS N w λs=>if s=q then Hk p a (R r) (R q) i else R s,ix),lo,n),(lo2,n2),r,r,q,(i:J))) (λz=>w-z.2.2.2.2.2.toNat) _ ?_ _ _ ⟨0,xaf _,by
  rw[ZT (R:=R) (S:=λs=>if s=q then Hk p a (R r) (R q) 0 else R s) λs _ k _=>by
   by_cases e:s=q;rw[Q e,e];unfold Hk;rw[zG];rw[ir e]]
  rfl⟩ (by show w-0<fu;lia)
 rintro z L ⟨i,hi,rfl⟩ D;simp only;rw[qK o,ye];by_cases c:i<w;have E:(ZS N w λs=>if s=q then Hk p a (R r) (R q) i else R s).getD r []=zl w (R r):=by rw[qK o,ir<|λe=>hd e.symm]
 have G:(ZS N w λs=>if s=q then Hk p a (R r) (R q) i else R s).getD q []=zl w (Hk p a (R r) (R q) i):=by rw[qK t,Q O]
 have ev:Hk p a (R r) (R q) i i=R q i:=zG;have⟨v1,Y⟩:=h r o i;have⟨u1,u2⟩:=h q t i;have⟨H,P⟩:=h q t a;rw[<-C]at H P;have m1:0<=(p-y)*R r i:=xcx W v1;have m2:(p-y)*R r i<=65521*65521:=Int.mul_le_mul W W v1 W;rw[yg,E,ye,zm c,F,uc c,G,ye,zm c,F,uc c,ev,zb,zb,zb,y9,F,nj,zm c,F,Yh,Pg,zb];refine D _ ⟨i+1,W,?_⟩ (by show w-((i:J)+1).toNat<w-(i:J).toNat;lia);rw[ZT (S:=λs=>if s=q then Hk p a (R r) (R q) (i+1)else R s) λs _ k _=>by
  by_cases e:s=q;rw[Q e,Q e];unfold XV Hk;by_cases d:k=i;rw[Q d,yg,d,C];rfl;rw[ir d];by_cases hc:k<i;rw[Q hc,yg];rw[ir hc,zG];rw[ir e,ir e,ir e]]
 rfl;rw[zG];obtain rfl:i=w:=W
 rw[ZT (S:=λs=>if s=q then stk p a (R r) (R q)else R s) λs _ k d=>by
  by_cases e:s=q;rw[Q e,Q e];unfold Hk;rw[Q d];rw[ir e,ir e]]
structure Ps(N:K)(σ:K->K):Prop where
 lt:∀i,i<N->σ i<N
 ij:∀i j,i<N->j<N->σ i=σ j->i=j
def Ln{n t:K}(h1:2<=p)(U:p<=65521)(V:∀s,s<N->∀k,0<=R s k/\R s k<p)(b:Ps N σ)(ht:t<N)(hp:t<lo\/lo+n<=t)(hn:lo+n<=N)(hN:N<=64)(hw:w<=64)(E:a<w)(hf:3000000<=fu):
 ∃S:K->Pz,qe fu (ZS N w R) (cX N σ) (σ t) (a:J) p lo n=Z (ZS N w S)/\(∀s,s<N->∀k,0<=S s k/\S s k<p)/\∀j,j<N->S (σ j)=if lo<=j/\j<lo+n then stk p a (R<|σ t) (R<|σ j)else R (σ j):=by
 unfold qe;have hd:=zM (f:=(λL (x:((ww (ww J)×ww K)×K×K)×(K×K)×K×J)=>
 if x.2.2.2<(n:J)then
  zD x.2.2.2 x.2.1.2 λj=>
  nm (x.1.1.2.getD (x.2.1.1+j) 0) λq=>
  zD (a:J) (X (x.1.1.1.getD q [])) λj=>
  nm ((x.1.1.1.getD q []).getD j 0) λy=>
  G (zg (λL (z:((ww (ww J)×ww K)×K×K)×(K×K)×K×K×K×J)=>
   if z.2.2.2.2.2<(X (x.1.1.1.getD x.2.2.1 []):J)then
    zD z.2.2.2.2.2 (X (z.1.1.1.getD z.2.2.2.1 [])) λj=>
    nm ((z.1.1.1.getD z.2.2.2.1 []).getD j 0) λv=>
    zD z.2.2.2.2.2 (X (z.1.1.1.getD z.2.2.2.2.1 [])) λj=>
    nm ((z.1.1.1.getD z.2.2.2.2.1 []).getD j 0) λu=>
    zf (p-y) λe=>
    zf (e*v) λe=>
    zf (u+e) λe=>
    ck (p≠0)<|
    nm (xcB e p) λe=>
    zD z.2.2.2.2.2 (X (z.1.1.1.getD z.2.2.2.2.1 [])) λj=>
    nm (z.1.1.1.set z.2.2.2.2.1<|(z.1.1.1.getD z.2.2.2.2.1 []).set j e) λD=>
    zf (z.2.2.2.2.2+1) λi=>
    L (((D,z.1.1.2),z.1.2),z.2.1,z.2.2.1,z.2.2.2.1,z.2.2.2.2.1,i)
   else Z (z.1,z.2.1,z.2.2.1)) fu (x.1,x.2.1,x.2.2.1,x.2.2.1,q,0)) λz=>
  zf (x.2.2.2+1) λi=>
  L (z.1,z.2.1,z.2.2,i)
 else Z x.1)) (λx=>∃(c:K) (S:K->Pz),x=(((ZS N w S,cX N σ),lo,n),(lo,n),σ t,(c:J))/\c<=n/\(∀s,s<N->∀k,0<=S s k/\S s k<p)/\∀j,j<N->S (σ j)=if lo<=j/\j<lo+c then stk p a (R (σ t)) (R (σ j))else R (σ j)) (λx=>n-x.2.2.2.toNat)
  (λy=>∃S:K->Pz,y=((ZS N w S,cX N σ),lo,n)/\(∀s,s<N->∀k,0<=S s k/\S s k<p)/\∀j,j<N->S (σ j)=if lo<=j/\j<lo+n then stk p a (R<|σ t) (R<|σ j)else R (σ j)) (by
  rintro x L ⟨c,S,rfl,hc,C,d⟩ ih
  simp only
  by_cases hi:c<n;have o:lo+c<N:=W
  have hk:=b.lt t ht
  have H:=b.lt (lo+c) o
  have hl:σ (lo+c)≠σ t:=λe=>by have:=b.ij _ _ o ht e;lia
  have hm:S (σ<|lo+c)=R (σ<|lo+c):=by rw[d _ o,zG]
  have ho:S (σ t)=R (σ t):=by rw[d _ ht,zG]
  rw[yg,zm hi,F,Zn o,qK H,ye,zm E,F,uc E,Y<|zeW (ix:=cX N σ) (lo:=lo) (n:=n) (lo2:=lo) (n2:=n) h1 U C hk H hl hw O _ O hf]
  simp only
  rw[zb]
  refine ih _ ⟨c+1,λs=>if s=σ (lo+c)then stk p a (S<|σ t) (S<|σ<|lo+c)else S s,O,W,λs hs k=> ?_,λj P=> ?_⟩ (by show n-((c:J)+1).toNat<n-(c:J).toNat;lia);show 0<=(if s=σ (lo+c)then stk p a (S<|σ t) (S<|σ<|lo+c)else S s) k/\(if s=σ (lo+c)then stk p a (S<|σ t) (S<|σ<|lo+c)else S s) k<p
  by_cases e:s=σ (lo+c);rw[Q e];exact zmj (W:0<p) _ _ _ _;rw[ir e];exact C s hs k;show(if σ j=σ (lo+c)then stk p a (S<|σ t) (S<|σ<|lo+c)else S (σ j))=_
  by_cases e:j=lo+c;rw[e,Q O,yg,ho,hm];rw[ir<|λh=>e<|b.ij _ _ P o h,d j P]
  by_cases T:lo<=j/\j<lo+c;rw[Q T,yg];rw[ir T,zG];rw[zG]
  obtain rfl:c=n:=W
  exact⟨_,O,S,O,C,d⟩)
 obtain⟨y,hy,S,rfl,C,d⟩:=hd fu (((ZS N w R,cX N σ),lo,n),(lo,n),σ t,0) ⟨0,R,O,xaf _,V,λj o=>by rw[zG]⟩ (by show n-0<fu;lia);refine⟨S,?_,C,d⟩;rw[Y hy];simp only;rw[xN ⟨jP,jP,jP⟩]
def fi(hp:qt p=wT)(d:X m<=64)(b:∀r∈m,X r=w)(j:w<=64)(n:3000000<=fu):XQ fu m p=Z 0:=by
 unfold XQ;rw[Y<|Za hp,Q O,zG,Y (v:=Sum.inl ())];refine zB (λi:J=>∃k:K,i=(k:J)/\k<=X m) (λi=>X m-i.toNat) _ ?_ _ _ ⟨0,O,xaf _⟩ W;rintro i L ⟨k,rfl,o⟩ c;unfold iZ;by_cases h:k<X m;have e1:=b _<|Xd h [];have s:=b _<|Xd (W:0<X m) [];rw[yg,Y O];simp only[Z4];rw[zm h,F,zG,show(0:J)=((0:K):J)from O,yn,F,yg,zb];exact c _ ⟨k+1,W,W⟩ W
 rw[zG,Y O];simp_all
def CY(h1:1<=p)(d:p<=65521)(j:Rl l)(hl:X l<=1000000)(o:3000000<=fu):Wb fu l p=Z (zl (X l)<|λk=>C l k%p):=by
 unfold Wb;rw[yF,y9,F,gJ,Y (v:=zl (X l)<|λk=>C l k%p)];refine zB (λs:J×ww J=>∃i:K,i<=X l/\s=((i:J),zl (X l) (λk=>if k<i then C l k%p else 0))) (λs=>X l-s.1.toNat) _ ?_ _ _ ⟨0,xaf _,by rw[y6 (f:=λ_=>0) (g:=λk=>if k<0 then C l k%p else 0) λk _=>by rw[zG]];rfl⟩ (by show X l-0<fu;lia);rintro s L ⟨i,hi,rfl⟩ n;unfold lX;simp only;by_cases h:i<X l
 rw[yg,zm h,F,Y (show ZJ fu (l.getD i 0) p=Z (l.getD i 0%p)from Y0 h1 d<|j i),zm (by rw[ye];exact h),F,Yh,zb];refine n _ ⟨i+1,W,?_⟩ (by show X l-((i:J)+1).toNat<X l-(i:J).toNat;lia);rw[y6 (g:=λk=>if k<i+1 then C l k%p else 0) λk _=>by
  unfold XV;by_cases b:k=i;rw[Q b,yg,b,JH];rw[S b];show(if k<i then C l k%p else 0)=_;by_cases c:k<i;rw[Q c,yg];rw[S c,zG]]
 rfl;rw[zG];rw[y6 (g:=λk=>C l k%p) λk b=>by rw[yg]]
theorem Re{l:ww (ww J)}{g:ww J->V ut}{b:ww J->ut}(o:∀z∈l,g z=Z (b z))(hl:X l<=1000000)(v:3000000<=fu):
 (yR fu l g=Z (-1)/\∀z∈l,b z=I)\/∃i:K,i<X l/\yR fu l g=Z (i:J)/\b (l.getD i [])=wT/\∀j,j<i->b (l.getD j [])=I:=by
 unfold yR
 have s:=zM (f:=vS fu l g) (λi:J=>∃k:K,i=(k:J)/\k<=X l/\∀j,j<k->b (l.getD j [])=I) (λi=>X l-i.toNat)
  (λr=>(r=.inl ()/\∀j,j<X l->b (l.getD j [])=I)\/∃i:K,i<X l/\r=.inr (i:J)/\b (l.getD i [])=wT/\∀j,j<i->b (l.getD j [])=I) (by
  rintro i L ⟨k,rfl,x,c⟩ t
  unfold vS
  by_cases h:k<X l;rw[yg,zm h,F,Y<|o _<|Xd h []]
  cases d:b (l.getD k [])with
  |true=>
   grind
  |false=>
   rw[S rx,zb]
   refine t _ ⟨k+1,W,W,λj y=> ?_⟩ W
   by_cases e:j=k;rw[e];exact d;exact c j W
  rw[zG]
  exact⟨_,O,.inl ⟨O,λj C=>c j W⟩⟩)
 have⟨r,n,hc⟩:=s fu 0 ⟨0,O,xaf _,λj c=>by lia⟩ (by show X l-0<fu;lia);rcases hc with⟨rfl,hd⟩|⟨i,hi,rfl,d,c⟩
 left;refine⟨by rw[Y n],λz u=> ?_⟩;have⟨j,c,e⟩:=xcZ u;have:=hd j c;rw[UV,xaa c]at this;rw[<-e];exact this;right;exact⟨i,hi,by rw[Y n],d,c⟩
theorem zeZ{g:J->V ut}{b:J->ut}(o:∀z,g z=Z (b z))(hl:X l<=1000000)(u:3000000<=fu):
 (xv fu l g=Z (-1)/\∀j,j<X l->b (C l j)=I)\/∃i:K,i<X l/\xv fu l g=Z (i:J)/\b (C l i)=wT/\∀j,j<i->b (C l j)=I:=by
 unfold xv
 have s:=zM (f:=vn fu l g) (λi:J=>∃k:K,i=(k:J)/\k<=X l/\∀j,j<k->b (C l j)=I) (λi=>X l-i.toNat)
  (λr=>(r=.inl ()/\∀j,j<X l->b (C l j)=I)\/∃i:K,i<X l/\r=.inr (i:J)/\b (C l i)=wT/\∀j,j<i->b (C l j)=I) (by
  rintro i L ⟨k,rfl,v,c⟩ t
  unfold vn
  by_cases h:k<X l;rw[yg,zm h,F,Y<|o _,JH]
  cases d:b (C l k)with
  |true=>
   grind
  |false=>
   rw[S rx,zb]
   refine t _ ⟨k+1,W,W,λj x=> ?_⟩ W
   by_cases e:j=k;rw[e];exact d;exact c j W
  rw[zG]
  exact⟨_,O,.inl ⟨O,λj y=>c j W⟩⟩)
 have⟨r,n,hc⟩:=s fu 0 ⟨0,O,xaf _,λj c=>by lia⟩ (by show X l-0<fu;lia);rcases hc with⟨rfl,hd⟩|⟨i,hi,rfl,d,c⟩
 exact .inl ⟨by rw[Y n],hd⟩;exact .inr ⟨i,hi,by rw[Y n],d,c⟩
def dt(w:K)(f:Pz)(e:K->J):J:=yv w λk=>f k*e k
def zie(h:∀k,k<w->f k%p=g k%p):dt w f e%p=dt w g e%p:=mJ λk b=>by rw[xcd,h k b,<-xcd]
theorem zfQ(c d:J):dt w (λk=>c*f k+d*g k) e=c*dt w f e+d*dt w g e:=by unfold dt;rw[<-ZA,<-ZA,<-XH];grind
def Kr(p:J)(N w:K)(A:K->Pz)(e:K->J):Prop:=∀i,i<N->p∣dt w (A i) e
structure DN(p:J)(N w:K)(M A:K->Pz)(n c:K)(pv:K->K):Prop where
 hn:n<=N
 hc:c<=w
 rg:∀i,i<N->∀k,0<=A i k/\A i k<p
 lt:∀i,i<n->pv i<c
 on:∀i,i<n->A i (pv i)=1
 no:∀i,i<n->∀j,j<N->j≠i->A j (pv i)=0
 ld:∀i,i<n->∀k,k<pv i->A i k=0
 zr:∀i,n<=i->i<N->∀k,k<c->A i k=0
 kr:∀e,Kr p N w A e↔Kr p N w M e
def DN.skip{n c:K}{pv:K->K}(h:DN p N w M A n c pv)(hc:c<w)(d:∀i,n<=i->i<N->A i c=0):DN p N w M A n (c+1) pv:=
 ⟨h.hn,hc,h.rg,λi hi=>by have:=h.lt i hi;lia,h.on,h.no,h.ld,λi h1 b k j=>by
  by_cases e:k=c;simp_all;exact h.zr i h1 b k W,h.kr⟩
theorem DN.swap{n c:K}{pv:K->K}(h:DN p N w M A n c pv)(y:n<=a)(z:a<N)(C:∀i,i<N->B i=if i=n then A a else if i=a then A n else A i):DN p N w M B n c pv:=by
 have o:∀i,i<n->B i=A i:=λi hi=>by grind
 have hc:∀i,i<N->∃j,j<N/\B i=A j/\(n<=i->n<=j)/\(∀x,x<n->(i≠x->j≠x)):=λi hi=>by
  by_cases e1:i=n
  ·grind
  ·grind
 have hd:∀i,i<N->∃j,j<N/\A i=B j:=λi hi=>by
  by_cases e1:i=n
  ·grind
  ·grind
 refine⟨h.hn,h.hc,λi hi=> ?_,h.lt,λi hi=> ?_,λi hi j b s=> ?_,λi hi k d=> ?_,λi h1 t k d=> ?_,λe=> ?_⟩
 ·have⟨j,b,e,_⟩:=hc i hi;rw[e];exact h.rg j b
 ·rw[o i hi];exact h.on i hi
 ·have⟨x,u,e,_,v⟩:=hc j b;rw[e];exact h.no i hi x u<|v i hi s
 ·rw[o i hi];exact h.ld i hi k d
 ·have⟨j,b,e,hl,_⟩:=hc i t;rw[e];exact h.zr j (hl h1) b k d
 ·refine Iff.trans ⟨λd i hi=> ?_,λd i hi=> ?_⟩<|h.kr e
  ·have⟨j,b,e⟩:=hd i hi;rw[e];exact d j b
  ·have⟨j,b,e,_⟩:=hc i hi;rw[e];exact d j b
theorem DN.step{n c:K}{pv:K->K}(hp:2<=p)(h:DN p N w M A n c pv)(hc:n<N)(ht:c<w)(C:(q*A n c)%p=1)(t:B n=λk=>(A n k*q)%p)(P:∀j,j<N->j≠n->B j=stk p c (B n) (A j)):
 DN p N w M B (n+1) (c+1) (λi=>if i=n then c else pv i):=by
 have hl:∀k,k<c->B n k=0:=λk d=>by rw[t];show A n k*q%p=0;rw[h.zr n (Nm _) hc k d,xbc,xaq]
 have hn:B n c=1:=by rw[t];show A n c*q%p=1;rw[xbI,C]
 have hd:∀j,j<N->j≠n->∀k,B j k=(A j k+(p-A j c)*B n k)%p:=λj b s k=>by rw[P j b s];rfl
 have u:∀j,j<N->j≠n->∀k,B n k=0->B j k=A j k:=λj b s k d=>by
  rw[hd j b s,d,xaA,xbY];exact xaJ (h.rg j b k).1 (h.rg j b k).2
 have z:∀i,i<n->B n (pv i)=0:=λi hi=>hl _<|h.lt i hi;refine⟨hc,ht,λi hi k=> ?_,λi hi=> ?_,λi hi=> ?_,λi hi j b T=> ?_,λi hi k d=> ?_,λi h1 o k d=> ?_,λe=> ?_⟩;by_cases e:i=n;rw[e,t];exact xf;rw[hd i hi e];exact xf;show(if i=n then c else pv i)<c+1;by_cases e:i=n;rw[Q e];lia;rw[S e];have:=h.lt i W;lia;show B i (if i=n then c else pv i)=1;by_cases e:i=n;rw[Q e,e,hn];rw[S e,u i W e _<|z i W];exact h.on i W
 show B j (if i=n then c else pv i)=0;by_cases e:i=n;rw[Q e,hd j b W,hn,xcO,(W:A j c+(p-A j c)=p),Int.emod_self];rw[S e];by_cases D:j=n;rw[D];exact z i W
 rw[u j b D _<|z i W];exact h.no i W j b T;have v:k<(if i=n then c else pv i):=d;by_cases e:i=n;rw[Q e]at v;rw[e];exact hl k v;rw[S e]at v;have E:=h.lt i W;rw[u i W e k<|hl k W];exact h.ld i W k v;by_cases e:k=c;rw[e,hd i o W,hn,xcO,(W:A i c+(p-A i c)=p),Int.emod_self];rw[u i o W k<|hl k W];exact h.zr i W o k W
 refine Iff.trans ?_<|h.kr e;have F:dt w (B n) e%p=(q*dt w (A n) e)%p:=by
  have:=zie (p:=p) (w:=w) (f:=B n) (g:=λk=>q*A n k+0*A n k) (e:=e) λk _=>by rw[t];show A n k*q%p%p=_;rw[xaR];congr 1;grind
  rw[this,zfQ];congr 1;grind
 have G:∀j,j<N->j≠n->dt w (B j) e%p=(dt w (A j) e+(p-A j c)*dt w (B n) e)%p:=λj b s=>by
  have:=zie (p:=p) (w:=w) (f:=B j) (g:=λk=>1*A j k+(p-A j c)*B n k) (e:=e) λk _=>by rw[hd j b s,xaR];congr 1;grind
  rw[this,zfQ];congr 1;grind
 have dv:∀{x y:J},x%p=y%p->(p∣x↔p∣y):=λ{x y} H=>⟨λU=>xaH (by rw[<-H];exact xax U),λV=>xaH<|by rw[H];exact xax V⟩;have hv:p∣dt w (B n) e->p∣dt w (A n) e:=λY=>by
  have h1:=(dv F).1 Y;have o:p∣A n c*(q*dt w (A n) e):=xbw h1<|xcK _ _;refine(dv ?_).1 o;rw[<-xcY,xcd,xbI (A n c) q,C,xdd,xaR]
 constructor;intro d j b;by_cases e1:j=n;rw[e1];exact hv<|d n hc;have h1:=(dv<|G j b e1).1<|d j b;have o:p∣(p-A j c)*dt w (B n) e:=xbw (d n hc)<|xcK _ _;have E:=xdt h1 o;rwa[Int.add_sub_cancel]at E;intro d j b;have L:p∣dt w (B n) e:=(dv F).2<|xbw (d n hc)<|xcK _ _;by_cases e1:j=n;rw[e1];exact L;exact(dv<|G j b e1).2<|Int.dvd_add (d j b)<|xbw L<|xcK _ _
theorem zat(N w:K)(R:K->Pz):ZS N w R++[zl w<|R N]=ZS (N+1) w R:=by grind [ZS,xcT]
theorem zj3(N:K)(σ:K->K):cX N σ++[σ N]=cX (N+1) σ:=by grind [cX,xcT]
theorem Dc{v:K}:(cX N σ).set i v=cX N λs=>if s=i then v else σ s:=by refine xcv λj=> ?_;unfold cX;by_cases h:i=j;grind;grind
def zim(b:∀i,i<N->σ i<N):((cX N σ).map λr=>(ZS N w R).getD r [])=ZS N w λi=>R (σ i):=by show((xaC N).map σ).map _=(xaC N).map _;rw[xcE];exact xcc λi hi=>qK<|b i<|xbd.1 hi
def zhE{n:K}(h:n<=N):(ZS N w R).take n=ZS n w R:=by unfold ZS;rw[<-xeU,List.take_range,xcl h]
theorem zgx{n:K}(h:n<=N):(ZS N w R).drop n=ZS (N-n) w λi=>R (n+i):=by refine xcv λi=> ?_;unfold ZS;by_cases hi:n+i<N;grind;grind
def ziG{n:K}(h1:2<=p)(E:p<=65521)(v:∀s,s<N->∀k,0<=R s k/\R s k<p)(d:r<N)(x:σ n=r)(hn:n<N)(hc:0<=q)(G:q<p)(H:w<=64)(b:ww (ww J))(h0:b=ZS N w R)(t:J)(C:t=(n:J))(P:3000000<=fu):
 zg (λL (z:(ww (ww J)×ww K)×K×J)=>
  if z.2.2<(X (b.getD r []):J)then
   zD z.2.2 (X (z.1.1.getD z.2.1 [])) λj=>
   nm ((z.1.1.getD z.2.1 []).getD j 0) λy=>
   zD t (X z.1.2) λj=>
   nm (z.1.2.getD j 0) λr=>
   zf (y*q) λe=>
   ck (p≠0)<|
   nm (xcB e p) λe=>
   zD z.2.2 (X (z.1.1.getD r [])) λj=>
   nm (z.1.1.set r<|(z.1.1.getD r []).set j e) λh=>
   zf (z.2.2+1) λi=>L ((h,z.1.2),z.2.1,i)
  else Z z.1) fu ((b,cX N σ),r,0)=Z (ZS N w λs=>if s=r then λk=>(R r k*q)%p else R s,cX N σ):=by
 subst h0 C;refine zB (λz:(ww (ww J)×ww K)×K×J=>∃i:K,i<=w/\z=((ZS N w λs=>if s=r then λk=>if k<i then(R r k*q)%p else R r k else R s,cX N σ),r,(i:J))) (λz=>w-z.2.2.toNat) _ ?_ _ _ ⟨0,xaf _,by
  rw[ZT (R:=R) (S:=λs=>if s=r then λk=>if k<0 then(R r k*q)%p else R r k else R s) λs _ k _=>by
   by_cases e:s=r;simp_all;rw[ir e]]
  rfl⟩ (by show w-0<fu;lia)
 rintro z L ⟨i,hi,rfl⟩ D;simp only;rw[qK d,ye];by_cases o:i<w;have u:(ZS N w λs=>if s=r then λk=>if k<i then(R r k*q)%p else R r k else R s).getD r []=zl w (λk=>if k<i then(R r k*q)%p else R r k):=by rw[qK d,Q O]
 have⟨v1,T⟩:=v r d i;have U:0<=R r i*q:=xcx v1 hc;have V:R r i*q<=65521*65521:=Int.mul_le_mul W W hc W;rw[yg,u,ye,zm o,F,uc o,zG,VR,zm hn,F,Zn hn,x,zb,y9,F,nj,u,ye,zm o,F,Yh,Pg,zb];refine D _ ⟨i+1,W,?_⟩ (by show w-((i:J)+1).toNat<w-(i:J).toNat;lia);rw[ZT (S:=λs=>if s=r then λk=>if k<i+1 then(R r k*q)%p else R r k else R s) λs _ k _=>by
  by_cases e:s=r;rw[Q e,Q e];unfold XV;show _=if k<i+1 then(R r k*q)%p else R r k;by_cases c:k=i;rw[Q c,yg,c];rw[ir c];show(if k<i then(R r k*q)%p else R r k)=_;by_cases hd:k<i;rw[Q hd,yg];rw[ir hd,zG];rw[ir e,ir e,ir e]]
 rfl;rw[zG];obtain rfl:i=w:=W
 rw[ZT (S:=λs=>if s=r then λk=>(R r k*q)%p else R s) λs _ k c=>by
  by_cases e:s=r;rw[Q e,Q e];show(if k<i then _ else _)=_;rw[Q c];rw[ir e,ir e]]
def zrr(hp:0<p):DN p N w M (λi k=>M i k%p) 0 0 (λ_=>0):=
 ⟨xaf _,xaf _,λi _ k=>xf hp,λi hi=>by lia,λi hi=>by lia,λi hi=>by lia,λi hi=>by lia,λi _ _ k j=>by lia,λe=>by
  have dv:∀{x y:J},x%p=y%p->(p∣x↔p∣y):=λ{x y} b=>⟨λc=>xaH (by rw[<-b];exact xax c),λd=>xaH<|by rw[b];exact xax d⟩;have:∀i,p∣dt w (λk=>M i k%p) e↔p∣dt w (M i) e:=λi=>dv<|zie λk _=>xaR _ _;exact⟨λh i hi=>(this i).1<|h i hi,λh i hi=>(this i).2<|h i hi⟩⟩
def zgj(fu:K)(p:J):rX ((ww (ww J)×ww K)×J×J) ((ww (ww J)×ww K)×J):=λL (x:(ww (ww J)×ww K)×J×J)=>if x.2.1<(X x.1.2:J)then zD 0 (X x.1.2) λj=>nm (x.1.2.getD j 0) λr=>if x.2.2<(X (x.1.1.getD r []):J)then jt x.2.1 λj=>ck (j<=X x.1.2)<|G (yR fu (xdB (X x.1.2-j)<|xdN j<|x.1.2.map λr=>x.1.1.getD r []) λz=>jZ fu z x.2.2) λi=>if i<0 then zf (x.2.2+1) λc=>L (x.1,x.2.1,c)else zf (x.2.1+i) λa=>zf (x.2.1+i) λb=>zD b (X x.1.2) λj=>nm (x.1.2.getD j 0) λr1=>zD x.2.1 (X x.1.2) λj=>nm (x.1.2.getD j 0) λr2=>zD x.2.1 (X x.1.2) λj=>nm (x.1.2.set j r1) λix=>zD a (X ix) λj=>nm (ix.set j r2) λix=>zD x.2.1 (X ix) λj=>nm (ix.getD j 0) λr=>zD x.2.2 (X (x.1.1.getD r [])) λj=>nm ((x.1.1.getD r []).getD j 0) λy=>G (Qu fu y p) λq=>zD x.2.1 (X ix) λj=>nm (ix.getD j 0) λr=>G (zg (λL (z:(ww (ww J)×ww K)×K×J)=>if z.2.2<(X (x.1.1.getD r []):J)then zD z.2.2 (X (z.1.1.getD z.2.1 [])) λj=>nm ((z.1.1.getD z.2.1 []).getD j 0) λy=>zD x.2.1 (X z.1.2) λj=>nm (z.1.2.getD j 0) λr=>zf (y*q.1) λe=>ck (p≠0)<|nm (xcB e p) λe=>zD z.2.2 (X (z.1.1.getD r [])) λj=>nm (z.1.1.set r<|(z.1.1.getD r []).set j e) λd=>zf (z.2.2+1) λi=>L ((d,z.1.2),z.2.1,i)else Z z.1) fu ((x.1.1,ix),r,0)) λm=>zD x.2.1 (X m.2) λj=>nm (m.2.getD j 0) λr=>jt x.2.1 λj=>ck (j<=X m.2)<|G (qe fu m.1 m.2 r x.2.2 p 0 j) λd=>zD x.2.1 (X m.2) λj=>nm (m.2.getD j 0) λr=>zf (x.2.1+1) λe=>jt e λj=>ck (j<=X m.2)<|G (qe fu d m.2 r x.2.2 p j<|X m.2-j) λd=>zf (x.2.1+1) λk=>zf (x.2.2+1) λc=>L ((d,m.2),k,c)else Z (x.1,x.2.1)else Z (x.1,x.2.1)
def EI(p:J)(N w:K)(M:K->Pz)(x:(ww (ww J)×ww K)×J×J):Prop:=
 ∃(R:K->Pz) (σ:K->K) (n c:K) (pv:K->K),x=((ZS N w R,cX N σ),(n:J),(c:J))/\(∀s,s<N->∀k,0<=R s k/\R s k<p)/\Ps N σ/\DN p N w M (λi=>R<|σ i) n c pv
def EQ(p:J)(N w:K)(M:K->Pz)(y:(ww (ww J)×ww K)×J):Prop:=
 ∃(R:K->Pz) (σ:K->K) (n c:K) (pv:K->K),y=((ZS N w R,cX N σ),(n:J))/\Ps N σ/\DN p N w M (λi=>R<|σ i) n c pv/\(n=N\/c=w)
def znn{α:Type}{n:K}{k:K->V α}(h:0<n):zD (0:J) n k=k 0:=by rw[show 0=((0:K):J)from O,zm h]
def zj4(hp:qt p=wT)(hN:N<=64)(hw:w<=64)(G:3000000<=fu){x:(ww (ww J)×ww K)×J×J}(hx:EI p N w M x):∃y,zg (zgj fu p) fu x=Z y/\EQ p N w M y:=by
 have⟨U,p2⟩:=zA hp;refine zM (EI p N w M) (λx=>w-x.2.2.toNat) _ ?_ _ _ hx (by obtain⟨R,σ,n,c,pv,rfl,_⟩:=hx;show w-(c:J).toNat<fu;lia);rintro x L ⟨R,σ,n,c,pv,rfl,V,d,E⟩ ih;unfold zgj;simp only;have hq:=E.hn;have hr:=E.hc;rw[VR];by_cases h1:n<N
 ·have hl:=d.lt 0 W;rw[yg,znn W,F,Zn,qK hl,ye];by_cases u:c<w
  ·rw[yg,yF,y9,zim d.lt,zgx W,xaW<|by rw[Z6];exact Nm _];have hg:∀z∈ZS (N-n) w (λi=>R<|σ<|n+i),jZ fu z (c:J)=Z (!decide (C z c=0)):=λz hz=>by
    obtain⟨j,o,rfl⟩:=xat.1 hz;unfold jZ;rw[zm (by rw[ye];exact u),F,JH];by_cases e:C (zl w<|R<|σ<|n+j) c=0
    ·rw[Q e,Ws e];rfl
    ·rw[S e,Ww e];rfl
   rcases Re (fu:=fu) (b:=λz=> !decide (C z c=0)) hg (by rw[Z6];lia) G with⟨g1,g2⟩|⟨i,hi,g1,g2,g3⟩
   ·rw[Y g1,Q rx,zb];refine ih _ ⟨R,σ,n,c+1,pv,O,V,d,E.skip u λi h3 h4=> ?_⟩ (by show w-((c:J)+1).toNat<w-(c:J).toNat;lia);have g4:=g2 ((ZS (N-n) w<|λi=>R<|σ<|n+i).getD (i-n) [])<|Xd (by rw[Z6];lia) [];rw[qK W,ZI u,(W:n+(i-n)=i)]at g4;show R (σ i) c=0;simpa using g4
   ·rw[Z6]at hi;rw[qK hi,ZI u]at g2;have H:R (σ<|n+i) c≠0:=by simpa using g2
    have⟨τ,v⟩:∃τ:K->K,τ=λs=>if s=n+i then σ n else if s=n then σ (n+i)else σ s:=⟨_,O⟩;have hm:τ n=σ (n+i):=by
     rw[v];show(if n=n+i then σ n else if n=n then σ (n+i)else σ n)=_;by_cases e:n=n+i
     ·rw[Q e];exact Z2 σ e
     ·rw[S e,Q O]
    have hc:Ps N τ:=by
     have hd:∀s,τ s=σ (if s=n+i then n else if s=n then n+i else s):=λs=>by
      rw[v];show(if s=n+i then σ n else if s=n then σ (n+i)else σ s)=_;by_cases e1:s=n+i
      ·rw[Q e1,Q e1]
      ·rw[S e1,S e1];by_cases h:s=n
       ·rw[Q h,Q h]
       ·rw[S h,S h]
     refine⟨λs hs=> ?_,λs t hs ht e=> ?_⟩
     ·rw[hd];refine d.lt _ ?_;split<;>(try split)<;>lia
     ·rw[hd,hd]at e;have:=d.ij _ _ (by split<;>(try split)<;>lia) (by split<;>(try split)<;>lia) e;split at this<;>(try split at this)<;>(try split at this)<;>(try split at this)<;>lia
    have hn:DN p N w M (λj=>R<|τ j) n c pv:=E.swap (a:=n+i) W W λj o=>by
     rw[v];show R (if j=n+i then σ n else if j=n then σ (n+i)else σ j)=if j=n then R (σ<|n+i)else if j=n+i then R (σ n)else R (σ j);by_cases h:j=n+i
     ·rw[Q h];by_cases e1:j=n
      ·rw[Q e1];have e3:n+i=n:=W
       rw[e3]
      ·rw[S e1,Q h]
     ·rw[S h];by_cases e1:j=n
      ·rw[Q e1,Q e1]
      ·rw[S e1,S e1,S h]
    have hk:=hc.lt n h1;have⟨y1,y2⟩:=V (τ n) hk c;have⟨q,q1,q2,q3,q4⟩:=UA (fu:=fu) (a:=R (τ n) c) hp (by rw[hm]at y1 y2⊢;lia) y2 G;have e1:(n:J)+(i:J)=((n+i:K):J):=W
    have ho:(cX N σ).set n (σ<|n+i)=cX N λs=>if s=n then σ (n+i)else σ s:=Dc;rw[Y g1,zG,e1,zb,zb,yn,F,Zn,zm h1,F,Zn h1,zm h1,F,Dc,VR,yn,F,Dc,VR];rw[show(λs=>if s=n+i then σ n else if s=n then σ (n+i)else σ s)=τ from v.symm];rw[zm h1,F,Zn h1,qK hk,ye,zm u,F,uc u,Y q1];simp only;rw[zm h1,F,Zn h1,Y<|ziG (fu:=fu) (n:=n) (r:=τ n) (q:=q) U p2 V hk O h1 q2 q3 hw _ O _ O G];simp only;have⟨S1,he⟩:∃S1:K->Pz,S1=λs=>if s=τ n then λk=>(R (τ n) k*q)%p else R s:=⟨_,O⟩;rw[<-he];have r1:∀s,s<N->∀k,0<=S1 s k/\S1 s k<p:=λs hs k=>by
     rw[he];show 0<=(if s=τ n then λk=>(R (τ n) k*q)%p else R s) k/\(if s=τ n then λk=>(R (τ n) k*q)%p else R s) k<p;by_cases e:s=τ n
     ·rw[Q e];exact xf (W:0<p)
     ·rw[S e];exact V s hs k
    have a0:S1 (τ n)=λk=>(R (τ n) k*q)%p:=by rw[he];exact Q O
    have P:∀j,j<N->j≠n->S1 (τ j)=R (τ j):=λj o H=>by rw[he];exact S λe=>H<|hc.ij _ _ o h1 e
    have⟨S2,t1,r2,t2⟩:=Ln (fu:=fu) (a:=c) (lo:=0) (n:=n) (t:=n) U p2 r1 hc h1 (.inr W) W hN hw u G;have⟨S3,t3,r3,t4⟩:=Ln (fu:=fu) (a:=c) (lo:=n+1) (n:=N-(n+1)) (t:=n) U p2 r2 hc h1 (.inl W) W hN hw u G;have T:S2 (τ n)=S1 (τ n):=by rw[t2 n h1,zG]
    have D:S3 (τ n)=S1 (τ n):=by rw[t4 n h1,zG,T]
    have h:(n:J)+1=((n+1:K):J):=W
    rw[VR,zm h1,F,Zn h1,yF,y9,Y t1,zm h1,F,Zn h1,h,zb,yF,y9,Y t3,zb,zb];refine ih _ ⟨S3,τ,n+1,c+1,λi=>if i=n then c else pv i,O,r3,hc,?_⟩ (by show w-((c:J)+1).toNat<w-(c:J).toNat;lia);refine hn.step (q:=q) U h1 u q4 (D.trans a0) λj o H=> ?_;show S3 (τ j)=stk p c (S3<|τ n) (R<|τ j);by_cases hu:j<n
    ·rw[t4 j o,zG,t2 j o,ce ⟨W,W⟩,D,P j o H]
    ·rw[t4 j o,ce ⟨W,W⟩,T,t2 j o,zG,D,P j o H]
  ·rw[zG];exact⟨_,O,R,σ,n,c,pv,O,d,E,.inr W⟩
 ·rw[zG];exact⟨_,O,R,σ,n,c,pv,O,d,E,.inl W⟩
def td(hp:qt p=wT)(hd:X m=N)(D:N<=64)(o:∀r∈m,X r=w/\Rl r)(t:w<=64)(b:3000000<=fu):
 ∃(A:K->Pz) (n c:K) (pv:K->K),Zi fu m p=Z (ZS n w A,0)/\DN p N w (λi=>C<|m.getD i []) A n c pv/\(n=N\/c=w):=by
 have⟨p1,E⟩:=zA hp;unfold Zi;rw[Y<|fi hp W (λr H=>(o r H).1) t b,Q O];have⟨M,u⟩:∃M:K->Pz,M=λi=>C (m.getD i []):=⟨_,O⟩;rw[<-u];rw[Y (v:=(ZS N w<|λi k=>M i k%p,cX N λi=>i))];show∃A n c pv,G (zg (zgj fu p) fu ((ZS N w<|λi k=>M i k%p,cX N λi=>i),0,0)) _=_/\_;obtain⟨y,P,R,σ,n,c,pv,rfl,d,z,S⟩:=zj4 (fu:=fu) (M:=M) hp D t b (x:=((ZS N w<|λi k=>M i k%p,cX N λi=>i),0,0)) ⟨_,_,0,0,λ_=>0,O,λs _ k=>xf,⟨λi hi=>hi,λi j _ _ h=>h⟩,zrr W⟩;have hn:=z.hn;refine⟨λi=>R<|σ i,n,c,pv,?_,z,S⟩;rw[Y P];simp only;rw[yF,zim d.lt,Z6,xN hn,F,zhE hn];refine zB (λx:(ww (ww J)×ww K)×J=>∃i:K,i<=N/\x=((ZS i w<|λi k=>M i k%p,cX i λi=>i),(i:J))) (λx=>N-x.2.toNat) _ ?_ _ _ ⟨0,xaf _,O⟩ (by show N-0<fu;lia);rintro x L ⟨i,hi,rfl⟩ T;simp only;by_cases h:i<N;have hc:=Xd (l:=m) (i:=i) W [];have⟨e1,U⟩:=o _ hc;have V:Wb fu (m.getD i []) p=Z (zl w<|λk=>M i k%p):=by rw[CY W E U W b,e1,u]
 rw[yg,yn,F,Y V,VR,y9,F,Z6,F,zb];refine T _ ⟨i+1,W,?_⟩ (by show N-((i:J)+1).toNat<N-(i:J).toNat;lia);rw[<-zat,<-zj3];rfl;rw[zG];obtain rfl:i=N:=W
 rfl
end
section
variable{fu w i N c0:wL}{p:wF}{M A:wL->Pz}
def im{n c:K}{pv:K->K}(h:DN p N w M A n c pv)(hi:i<n)(q:w<=64)(k:3000000<=fu):QI fu (zl w<|A i)=Z (pv i:J):=by
 have hc:=h.lt i hi;have hd:=h.hc;unfold QI;have m:∀z,(λd=>Yl fu d) z=Z (!decide (z=0)):=λz=>by
  show Yl fu z=_;unfold Yl;by_cases e:z=0
  simp_all;simp_all
 have f:=h.on i hi;rcases zeZ (fu:=fu) (l:=zl w<|A i) (b:=λz=> !decide (z=0)) m (by rw[ye];lia) k with⟨g1,a⟩|⟨j,g,g1,a,o⟩
 exfalso;have:=a (pv i) (by rw[ye];lia);rw[ZI W,f]at this;simp_all;rw[ye]at g;rw[ZI g]at a;have e:j=pv i:=by
  rcases xfy j (pv i)with h1|h1|h1
  rw[h.ld i hi j h1]at a;exact jp a rx
  exact h1;have:=o (pv i) h1;rw[ZI W,f]at this;simp_all
 rw[Y g1,e]
def Az(n:K)(pv:K->K)(c:K):ut:=(xaC n).all λi=> !R (pv i) c
theorem oT{n c:K}{pv:K->K}:Az n pv c=wT↔∀i,i<n->pv i≠c:=by grind [Az,Nat.beq_refl,xdy]
theorem Sm{n c:K}{pv:K->K}(h:DN p N w M A n c0 pv)(m:N<=64)(f:w<=64)(d:3000000<=fu):xZ fu (ZS n w A) (λz=>jv fu z (c:J))=Z (!Az n pv c):=by
 have hn:=h.hn;unfold xZ;have g:∀i,i<n->jv fu (zl w<|A i) (c:J)=Z (decide<|pv i=c):=λi hi=>by
  unfold jv;rw[Y<|im h hi f d];by_cases e:pv i=c;simp_all;grind
 have⟨b,j⟩:∃b:ww J->ut,b=λz=>match jv fu z (c:J)with
  |some x=>x
  |none=>I:=⟨_,O⟩
 have hc:∀i,i<n->b (zl w<|A i)=decide (pv i=c):=λi hi=>by rw[j];simp only[g i hi]
 have k:∀z∈ZS n w A,(λz=>jv fu z (c:J)) z=Z (b z):=λz l=>by
  obtain⟨i,hi,rfl⟩:=xat.1 l;simp_all
 rcases Re (fu:=fu) k (by rw[Z6];lia) d with⟨g1,a⟩|⟨i,hi,g1,a,o⟩
 rw[Y g1,S rx];have:Az n pv c=wT:=oT.2 λi hi e=>by
  have:=a _ (xbE (xbd.2 hi):zl w (A i)∈ZS n w A);grind
 rw[this];rfl;rw[Z6]at hi;rw[qK hi,hc i hi]at a;rw[Y g1,yg];have:Az n pv c=I:=by
  cases hd:Az n pv c with
  |false=>rfl
  |true=>exact jp (WL a)<|oT.1 hd i hi
 rw[this];rfl
def C5(p:J)(A:K->Pz)(pv:K->K)(c:K):K->Pz
 |0=>λk=>if k=c then 1 else 0
 |i+1=>XV (C5 p A pv c i) (pv i) (-A i c%p)
theorem zoT{n c:K}{pv:K->K}{t2:ww (ww J)}{i4:J}(h1:2<=p)(b:p<=65521)(h:DN p N w M A n c0 pv)(g:N<=64)(d:w<=64)(hc:c<w)(e:3000000<=fu):
 zg (bf fu (c:J) (w:J) p (ZS n w A) i4) fu (0,t2,zl w<|C5 p A pv c 0)=Z (t2,zl w<|C5 p A pv c n):=by
 have hn:=h.hn;have j:=h.hc;refine zB (λs:J×ww (ww J)×ww J=>∃i:K,i<=n/\s=((i:J),t2,zl w<|C5 p A pv c i)) (λs=>n-s.1.toNat) _ ?_ _ _ ⟨0,xaf _,O⟩ (by show n-0<fu;lia);rintro s L ⟨i,hi,rfl⟩ f;unfold bf;simp only;have hd:∀{β:Type} (x:β) (k:β->V (ww (ww J)×ww J)),G (Z x) k=k x:=λ_ _=>O;by_cases a:i<n;have l:=h.lt i a;have⟨m,o⟩:=h.rg i W c;rw[Q (by rw[Z6];lia),hd];simp only[Z4];rw[zm (by rw[Z6];exact a),F,qK a,Y<|im h a d e,zm (by rw[ye];exact hc),F,uc hc,zb,Y<|Y0 W b ⟨W,W⟩,zm (by rw[ye];lia),F,Yh,zb];refine f _ ⟨i+1,W,?_⟩ (by show n-((i:J)+1).toNat<n-(i:J).toNat;lia);rw[Int.zero_sub];rfl;rw[S (by rw[Z6];lia),hd];grind
def tM(n:K)(pv:K->K)(w:K):ww K:=(xaC w).filter<|Az n pv
theorem GQ(n:K)(pv:K->K)(w:K):tM n pv (w+1)=if Az n pv w=wT then tM n pv w++[w]else tM n pv w:=by grind [tM,xcT]
def zix(n:K)(pv:K->K)(w:K):X (tM n pv w)<=w:=by have:=xfG (Az n pv)<|xaC w;rw[xex]at this;exact this
def FK{m:ww (ww J)}(hp:qt p=wT)(l:X m=N)(e:N<=64)(f:∀r∈m,X r=w/\Rl r)(a:w<=64)(b:3000000<=fu):
 ∃(A:K->Pz) (n c:K) (pv:K->K),VS fu m (w:J) p=Z ((tM n pv w).map λc=>zl w<|C5 p A pv c n,0)/\DN p N w (λi=>C<|m.getD i []) A n c pv/\(n=N\/c=w):=by
 have⟨o,q⟩:=zA hp;have⟨A,n,c,pv,e1,d,t⟩:=td (fu:=fu) hp l e f a b;refine⟨A,n,c,pv,?_,d,t⟩;have hn:=d.hn;unfold VS;rw[Y (v:=Sum.inl ())];simp only;rw[Y e1];simp only;rw[Y (v:=(tM n pv w).map λc=>zl w<|C5 p A pv c n)];refine zB (λs:ww (ww J)×J=>∃k:K,k<=w/\s=((tM n pv k).map λc=>zl w<|C5 p A pv c n,(k:J))) (λs=>w-s.2.toNat) _ ?_ _ _ ⟨0,xaf _,O⟩ (by show w-0<fu;lia);rintro s L ⟨k,z,rfl⟩ g;unfold oQ;simp only;have h:∀{β:Type} (x:β) (k:β->V (ww<|ww J)),G (Z x) k=k x:=λ_ _=>O;by_cases hc:k<w;rw[yg,h];simp only[Z4];rw[Y<|Sm (c:=k) d e a b]
 cases hd:Az n pv k with
 |false=>
  rw[show(!I)=wT from O,Q O,zb];refine g _ ⟨k+1,W,?_⟩ (by show w-((k:J)+1).toNat<w-(k:J).toNat;lia);rw[GQ,S<|by rw[hd];decide];rfl
 |true=>
  have B:=zix n pv k;have u:zl w (XV (λ_=>0) k 1)=zl w (C5 p A pv k 0):=y6 λj _=>by unfold XV;rfl
  rw[show(!wT)=I from O,S rx,yF,y9,F,gJ,zm (by rw[ye];exact hc),F,Yh,u,Y<|zoT (i4:=(w:J)) o q d e a hc b];simp only;rw[xN (by rw[xan];simp;lia),F,zb];refine g _ ⟨k+1,W,?_⟩ (by show w-((k:J)+1).toNat<w-(k:J).toNat;lia);rw[GQ,Q hd,xaO];rfl
 rw[zG,h];simp only[xaj,Z5];obtain rfl:k=w:=W
 rfl;rw[Y<|fi hp W (λr y=>(f r y).1) a b,Q O,zG,zG];by_cases h0:0<X m;have D:=(f _<|Xd h0 []).1;rw[yg,znn h0,F,yg];rw[zG]
def tZ{p:J}{A:K->Pz}{pv:K->K}{c k:K}:∀{n:K},(∀i,i<n->pv i≠k)->C5 p A pv c n k=if k=c then 1 else 0
 |0,_=>rfl
 |n+1,h=>by
  show XV (C5 p A pv c n) (pv n) _ k=_;unfold XV;rw[S<|λe=>h n W e.symm];exact tZ λi hi=>h i W
def Du{p:J}{A:K->Pz}{pv:K->K}{c i:K}:∀{n:K},i<n->(∀j,j<n->j≠i->pv j≠pv i)->C5 p A pv c n (pv i)= -A i c%p
 |0,h,_=>by lia
 |n+1,h,hd=>by
  show XV (C5 p A pv c n) (pv n) _ (pv i)=_;unfold XV;by_cases e:i=n;simp_all;rw[S<|λa=>hd n W (λb=>e b.symm) a.symm];exact Du W λj f d=>hd j W d
def DN.pv_ne{n c:K}{pv:K->K}(h:DN p N w M A n c pv){j:K}(hi:i<n)(a:j<n)(b:j≠i):pv j≠pv i:=λe=>by
 have h1:=h.on i hi;have hn:=h.hn;have f:=h.no j a i W λd=>b d.symm;simp_all
def zed{p:J}(hp:2<=p){A:K->Pz}{pv:K->K}{c:K}:∀(n k:K),0<=C5 p A pv c n k/\C5 p A pv c n k<p
 |0,k=>by
  show 0<=(if k=c then 1 else 0)/\(if k=c then 1 else 0)<p;lia
 |n+1,k=>by
  show 0<=XV (C5 p A pv c n) (pv n) (-A n c%p) k/\XV (C5 p A pv c n) (pv n) (-A n c%p) k<p;unfold XV;split;exact xf;exact zed hp n k
theorem zdS(n:K)(pv:K->K)(F:K->J):∀w,yv (X (tM n pv w)) (λj=>F<|(tM n pv w).getD j 0)=yv w λc=>if Az n pv c=wT then F c else 0
 |0=>rfl
 |w+1=>by
  have a:=zdS n pv F w;show _=yv w _+(if Az n pv w=wT then F w else 0);rw[GQ];by_cases h:Az n pv w=wT;rw[Q h,xau,<-a];show yv (X (tM n pv w)) _+F ((tM n pv w++[w]).getD (X (tM n pv w)) 0)=_;congr 1;exact yA λj b=>by grind
  simp_all;simp_all
def zgO{n c:K}{pv:K->K}(h:DN p N w M A n c pv)(hi:i<n)(e:K->J):dt w (A i) e=e (pv i)+yv w λk=>if Az n pv k=wT then A i k*e k else 0:=by
 have l:=h.lt i hi;have m:=h.hc;have hn:=h.hn;have h1:dt w (A i) e=yv w (λk=>(if k=pv i then e k else 0)+if Az n pv k=wT then A i k*e k else 0):=by
  refine yA λk f=> ?_;by_cases e1:k=pv i;have a:=λa=>oT.1 a i hi e1.symm;rw[Q e1,S a,e1,h.on i hi,xdd,xbY];rw[S e1];by_cases a:Az n pv k=wT;simp_all;rw[S a,xbY];have⟨j,d,b⟩:∃j,j<n/\pv j=k:=by apply xak;intro hc;exact a<|oT.2 λj d b=>hc ⟨j,d,b⟩
  have hd:i≠j:=λg=>by rw[<-g]at b;exact e1 b.symm
  rw[<-b,h.no j d i W hd,xbc]
 rw[h1,XH,w5<|λk f=>S f,yg,Q O]
def zpY(hp:2<=p){n:K}{pv:K->K}(h:DN p N w M A n c0 pv)(hd:n=N\/c0=w){c:K}(hc:c<w)(hl:Az n pv c=wT):Kr p N w M (C5 p A pv c n):=(h.kr _).1 λi hi=>by
 by_cases a:i<n;rw[zgO h a,Du a λj f l=>h.pv_ne (i:=i) (j:=j) a f l];have m:yv w (λk=>if Az n pv k=wT then A i k*C5 p A pv c n k else 0)=A i c:=by
  rw[yA (g:=λk=>if k=c then A i k else 0) λk b=>by
   by_cases d:Az n pv k=wT;rw[Q d,tZ<|oT.1 d];by_cases e:k=c;simp_all;simp_all;rw[S d];by_cases e:k=c;simp_all;rw[S e],w5 (i:=c)<|λk b=>S b,Q hc,Q O]
 rw[m];refine xaH ?_;rw[Int.emod_add_emod,(W:-A i c+A i c=0),xaq];obtain he|he:=hd
 lia;have:dt w (A i) (C5 p A pv c n)=0:=by unfold dt;rw[xb λk b=>by rw[h.zr i W hi k W,xbc]]
 simp_all
theorem zl0(hp:2<=p){n:K}{pv:K->K}(h:DN p N w M A n c0 pv){e:K->J}(f:Kr p N w M e){k:K}(l:k<w):
 e k%p=yv (X (tM n pv w)) (λj=>e ((tM n pv w).getD j 0)*C5 p A pv ((tM n pv w).getD j 0) n k)%p:=by
 rw[zdS n pv (λc=>e c*C5 p A pv c n k) w];by_cases d:Az n pv k=wT
 congr 1;rw[yA (g:=λc=>if c=k then e c else 0) λc hc=>by
  rw[tZ<|oT.1 d];by_cases e1:c=k;simp_all;rw[S e1,S (λh:k=c=>e1 h.symm),xaA,ite_self],w5 (i:=k)<|λc hc=>S hc,Q l,Q O]
 obtain⟨i,hi,rfl⟩:∃i,i<n/\pv i=k:=by apply xak;intro hd;exact d<|oT.2 λj b m=>hd ⟨j,b,m⟩
 have hn:=h.hn;have h1:=(h.kr e).2 f i W;rw[zgO h hi]at h1;have o:yv w (λc=>if Az n pv c=wT then e c*C5 p A pv c n (pv i)else 0)%p=(-(yv w λk=>if Az n pv k=wT then A i k*e k else 0))%p:=by
  have q: -(yv w λk=>if Az n pv k=wT then A i k*e k else 0)=yv w λk=> -1*(if Az n pv k=wT then A i k*e k else 0):=by rw[ZA];lia
  rw[q];refine mJ λc hc=> ?_;by_cases a:Az n pv c=wT;rw[Q a,Q a,Du hi λj b hl=>h.pv_ne (i:=i) (j:=j) hi b hl,xcd,xaR,<-xcd];grind;rw[S a,S a,xaA]
 rw[o];refine xaM.2<|xax ?_;rw[Int.sub_neg];exact h1
end
section
variable{N w r fu P:wL}{R:wL->Pz}{m:ww wF}
def MC(h:r<N):(([]:ww J)::ZS N w R).getD (r+1) []=zl w (R r):=qK h
theorem zgz{g:Pz}:(([]:ww J)::ZS N w R).set (r+1) (zl w g)=[]::ZS N w λs=>if s=r then g else R s:=by grind [Pg]
theorem zoJ{c:K}{h:ww J}(f:w<=64)(hc:c<w)(hl:X h<=w)(b:J)(d:b=(c:J))(g:3000000<=fu):
 zg (λL (y:(ww (ww J)×ww K)×J)=>
 if y.2<(X h:J)then
  zD y.2 (X h) λj=>
  B (h.getD j 0) λv=>
  zD y.2 (X y.1.2) λj=>
  B (y.1.2.getD j 0) λr=>
  zD b (X (y.1.1.getD r [])) λj=>
  B (y.1.1.set r<|(y.1.1.getD r []).set j v) λa=>
  A (y.2+1) λi=>L ((a,y.1.2),i)
 else Z y.1) fu (([]::ZS w w R,cX w λi=>i+1),0)=Z ([]::ZS w w λs=>if s<X h then XV (R s) c (C h s)else R s,cX w λi=>i+1):=by
 subst d;refine zB (λy:(ww (ww J)×ww K)×J=>∃i:K,i<=X h/\y=(([]::ZS w w λs=>if s<i then XV (R s) c (C h s)else R s,cX w λi=>i+1),(i:J))) (λy=>X h-y.2.toNat) _ ?_ _ _ ⟨0,xaf _,by rw[ZT (R:=R) (S:=λs=>if s<0 then XV (R s) c (C h s)else R s) λs _ k _=>by rw[zG]];rfl⟩ (by show X h-0<fu;lia);rintro y L ⟨i,hi,rfl⟩ e;simp only;by_cases h1:i<X h;rw[yg,zm h1,F,JH,VR,yn,F,Zn,MC W,ye,zm hc,F,Yh,zgz,zG,zb];refine e _ ⟨i+1,W,?_⟩ (by show X h-((i:J)+1).toNat<X h-(i:J).toNat;lia);grind;grind
def KJ(a:K->ww J)(c:K):K->Pz:=λi k=>if k<c then C (a k) i-(if i=k then 1 else 0)else 0
def EC{a b:ww J}{p:J}(hp:qt p=wT)(e:Fp p a)(c:vu p b)(hc:X a<=90000)(hd:X b<=90000)(f:3000000<=fu):
 ∃q r,kD fu a b p=Z (q,r,0)/\Fp p r/\Cg p (C a) (C q*C b+C r)/\X r<X b:=by
 have⟨j,d⟩:=zA hp;have⟨q,r,e1,k,g,h,i,l⟩:=xJ hp e c.fm c.ln hc hd f;refine⟨q,r,?_,g,h,i⟩;unfold kD;rw[Y<|Za hp,Q O,Y<|zN W d (c.fm.rl d) W f,c.fm.pm,zG,Y<|zN W d (e.rl d) W f,e.pm,Y e1]
def zgd(fu:K)(f:ww J)(p n:J):rX ((ww (ww J)×ww K)×ww J×ww J×J) (ww (ww J)×ww K):=λL (x:(ww (ww J)×ww K)×ww J×ww J×J)=>if x.2.2.2<n then G (zg (λL (y:(ww (ww J)×ww K)×J)=>if y.2<(X x.2.1:J)then zD y.2 (X x.2.1) λj=>B (x.2.1.getD j 0) λv=>zD y.2 (X y.1.2) λj=>B (y.1.2.getD j 0) λr=>zD x.2.2.2 (X (y.1.1.getD r [])) λj=>B (y.1.1.set r<|(y.1.1.getD r []).set j v) λa=>A (y.2+1) λi=>L ((a,y.1.2),i)else Z y.1) fu (x.1,0)) λy=>zD x.2.2.2 (X y.2) λj=>B (y.2.getD j 0) λr=>zD x.2.2.2 (X (y.1.getD r [])) λj=>B ((y.1.getD r []).getD j 0) λv=>A (v-1) λe=>zD x.2.2.2 (X (y.1.getD r [])) λj=>B (y.1.set r<|(y.1.getD r []).set j e) λa=>G (ku fu x.2.1 x.2.2.1 p) λu=>G (kD fu u.1 f p) λw=>A (x.2.2.2+1) λi=>L ((a,y.2),w.2.1,x.2.2.1,i)else Z x.1
def zqe:((cX N λi=>i+1).map λr=>(([]:ww J)::ZS N w R).getD r [])=ZS N w R:=by show((xaC N).map λi=>i+1).map _=(xaC N).map _;rw[xcE];exact xcc λi hi=>MC<|xbd.1 hi
def FxI(P:K)(m x:ww J)(w:K)(y:(ww (ww J)×ww K)×ww J×ww J×J):Prop:=
 ∃(a:K->ww J) (c:K),y=(([]::ZS w w (KJ a c),cX w λi=>i+1),a c,x,(c:J))/\c<=w/\∀k,k<=c->Fp (P:J) (a k)/\X (a k)<=w/\Em (P:J) m (pp (pp vx P) k) (C<|a k)
def zhT{x:ww J}(hp:qt (P:J)=wT)(o:vu (P:J) m)(hi:X m=w+1)(A:1<=w)(q:w<=64)(t:Fp (P:J) x)(hl:X x<=w)(hd:Em (P:J) m (pp vx P) (C x))(h:3000000<=fu){y:(ww (ww J)×ww K)×ww J×ww J×J}(j:FxI P m x w y):
 ∃r,zg (zgd fu m P (w:J)) fu y=Z r/\∃a:K->ww J,r=([]::ZS w w (KJ a w),cX w λi=>i+1)/\∀k,k<=w->Fp (P:J) (a k)/\X (a k)<=w/\Em (P:J) m (pp (pp vx P) k) (C<|a k):=by
 have⟨B,D⟩:=zA hp;refine zM (FxI P m x w) (λy=>w-y.2.2.2.toNat) _ ?_ _ _ j (by obtain⟨a,c,rfl,_⟩:=j;show w-(c:J).toNat<fu;lia);rintro y L ⟨a,c,rfl,hc,d⟩ u;unfold zgd;simp only;by_cases h1:c<w
 have⟨k1,k2,k3⟩:=d c<|Nm _;have E:=k1.nn c;have hn:=k1.lt c;have⟨R,f⟩:∃R:K->Pz,R=λs=>if s<X (a c) then XV (KJ a c s) c (C (a c) s)else KJ a c s:=⟨_,O⟩;have l:∀s,R s c=C (a c) s:=λs=>by
  rw[f];show(if s<X (a c) then XV (KJ a c s) c (C (a c) s)else KJ a c s) c=_;by_cases e:s<X (a c);rw[Q e];exact Q O;rw[ir e,yz W];exact zG
 have v:∀s k,k≠c->R s k=KJ a c s k:=λs k g=>by
  rw[f];show(if s<X (a c) then XV (KJ a c s) c (C (a c) s)else KJ a c s) k=_;by_cases e:s<X (a c);rw[Q e];exact ir g;rw[ir e]
 have G:=jK (P:J) (a c) x;have⟨q2,r2,d1,d2,d3,d4⟩:=EC (fu:=fu) hp (jj (p:=(P:J)) W (a c) x) o W W h;rw[yg,Y<|zoJ (fu:=fu) (R:=KJ a c) q h1 k2 _ O h,<-f];simp only;rw[VR,zm h1,F,Zn h1,MC h1,ye,zm h1,F,uc h1,l,zb,zm h1,F,Yh,zgz,Y<|ZE hp k1 t,Y d1];simp only;rw[zb];refine u _ ⟨λk=>if k=c+1 then r2 else a k,c+1,?_,W,λk g=> ?_⟩ (by show w-((c:J)+1).toNat<w-(c:J).toNat;lia)
 show _=((_,_),(if c+1=c+1 then r2 else a (c+1)),x,_);rw[Q O,ZT (S:=KJ (λk=>if k=c+1 then r2 else a k)<|c+1) λs H k g=>by
  show(if s=c then XV (R c) c (C (a c) c-1)else R s) k=if k<c+1 then C (if k=c+1 then r2 else a k) s-(if s=k then 1 else 0)else 0;by_cases e1:k=c;rw[e1,show(if c<c+1 then C (if c=c+1 then r2 else a c) s-(if s=c then(1:J)else 0)else 0)=C (a c) s-(if s=c then(1:J)else 0)by rw[yg,zG]];by_cases b:s=c;rw[Q b,Q b,b];exact Q O;rw[ir b,ir b,l,xdf];have z:(if s=c then XV (R c) c (C (a c) c-1)else R s) k=R s k:=by by_cases b:s=c;rw[Q b,b];exact ir e1;rw[ir b]
  rw[z,v s k e1];unfold KJ;by_cases n:k<c;rw[Q n,show(if k<c+1 then C (if k=c+1 then r2 else a k) s-(if s=k then(1:J)else 0)else 0)=C (a k) s-(if s=k then(1:J)else 0)by rw[yg,zG]];rw[ir n,ir (W:¬k<c+1)]]
 rfl;show Fp (P:J) (if k=c+1 then r2 else a k)/\X (if k=c+1 then r2 else a k)<=w/\Em (P:J) m (pp (pp vx P) k) (C (if k=c+1 then r2 else a k));by_cases e:k=c+1
 rw[Q e,e];refine⟨d2,W,?_⟩;show Em (P:J) m (pp (pp vx P) c*pp vx P) (C r2);exact(Em.mul ((Fs.vx.pp P).pp c) (Fs.ci x) k3 hd).trans<|(Em.cg (ZU (P:J) (a c) x).symm).trans<|Em.rest d3;rw[ir e];exact d k W
 rw[zG];obtain rfl:c=w:=W
 exact⟨_,O,a,O,d⟩
def tD(hp:qt (P:J)=wT)(d:vu (P:J) m)(j:X m=w+1)(hc:1<=w)(l:w<=64)(c:3000000<=fu):
 ∃b:K->ww J,X3 fu m P=G (VS fu (ZS w w<|KJ b w) (w:J) P) (λr=>Z r.1)/\∀k,k<=w->Fp (P:J) (b k)/\X (b k)<=w/\Em (P:J) m (pp (pp vx P) k) (C<|b k):=by
 have⟨z,A⟩:=zA hp;have cx:C [0,1]=vx:=by
  funext k
  match k with
  |0=>rfl
  |1=>rfl
  |k+2=>rw[yz rC];exact(show(if k+2=1 then(1:J)else 0)=0 from zG).symm
 have fx:Fp (P:J) [0,1]:=⟨λk=>by rw[cx];show 0<=(if k=1 then(1:J)else 0);split<;>lia,λk=>by rw[cx];show(if k=1 then(1:J)else 0)<P;split<;>lia,.inr rx⟩;have n:Fp (P:J) [1]:=Q3;have⟨x,o,p,B,f⟩:=UQ (fu:=fu) (w:=[0,1]) (a:=m) (E:=P) hp fx d rx W W W c;rw[cx]at f;have hd:ZS w w (KJ (λ_=>[1]) 0)=ZS w w (λ_ _=>0):=ZT λs _ k _=>zG;obtain⟨r,g,b,rfl,q⟩:=zhT (fu:=fu) hp d j hc l p W f c (y:=(([]::ZS w w (KJ (λ_=>[1]) 0),cX w λi=>i+1),[1],x,0)) ⟨λ_=>[1],0,O,xaf _,λk D=>⟨n,by simp;lia,by
  obtain rfl:k=0:=W
  show Em (P:J) m (pc 1) (C [1]);rw[j8];exact Em.rfl⟩⟩
 rw[hd]at g;refine⟨b,?_,q⟩;unfold X3;rw[zb,(W:(X m:J)-1=(w:J)),yF,y9,F,Y (v:=([]::ZS w w (λ_ _=>0),cX w λi=>i+1))];rw[Y<|yr ⟨W,W⟩ c,Y o];show G (zg (zgd fu m P (w:J)) fu (([]::ZS w w (λ_ _=>0),cX w λi=>i+1),[1],x,0)) _=_;rw[Y g];simp only;rw[zqe];have t:So w 0=cX w λs=>if s<0 then s+1 else 0:=by unfold cX;rw[show(λs=>if s<0 then s+1 else 0)=λ_=>0 from uT λs=>zG,List.map_const',xex]
 rw[t];refine zB (λx:(ww (ww J)×ww K)×J=>∃i:K,i<=w/\x=(([]::ZS i w (λ_ _=>0),cX w λs=>if s<i then s+1 else 0),(i:J))) (λx=>w-x.2.toNat) _ ?_ _ _ ⟨0,xaf _,O⟩ (by show w-0<fu;lia);rintro x L ⟨i,hi,rfl⟩ u;simp only;rw[VR];by_cases h1:i<w
 rw[yg,yF,y9,F,gJ,VR,zm h1,F,xbL,zat i w<|λ_ _=>0,F,Dc,xaw,Z6,zb];refine u _ ⟨i+1,W,?_⟩ (by show w-((i:J)+1).toNat<w-(i:J).toNat;lia);have:(λs=>if s=i then i+1 else if s<i then s+1 else 0)=λs=>if s<i+1 then s+1 else 0:=uT λs=>by
  by_cases e:s=i;rw[Q e,yg,e];rw[S e];by_cases h:s<i;rw[Q h,yg];rw[S h,zG]
 rw[this];rfl;rw[zG];obtain rfl:i=w:=W
 congr 2;unfold cX;exact xcc λs b=>Q<|xbd.1 b
end
section
variable{m:ww wF}{P w:wL}
def Di.short{p:J}(hp:2<=p)(a:vu p m){f:Pz}(b:∀k,X m-1<=k->f k=0)(h:Di p (C m) f):Cg p f (E 0):=by
 have⟨q,fq,hc⟩:=h;have:=a.mn.zero hp fq λk c=>by rw[<-hc k,b k c,xaq]
 exact hc.trans<|this.mul_zero_r _
def O6(F:K->Pz)(k:K):∀n,smP n F k=yv n λi=>F i k
 |0=>by show E 0 k=0;unfold E;split<;>rfl
 |n+1=>by
  show(smP n F+F n) k=yv n (λi=>F i k)+F n k;rw[zX,O6 F k n]
def Em.smP{p:J}{a:N J}{F G:K->Pz}:∀n,(∀i,i<n->Em p a (F i) (G i))->Em p a (smP n F) (smP n G)
 |0,_=>Em.rfl
 |n+1,h=>(Di.add (Em.smP n λi hi=>h i W)<|h n W).cg (Cg.of (uT λk=>by
  show(Go.Proofs.YtoegnnjcmlghhaaGreat.smP n F k-Go.Proofs.YtoegnnjcmlghhaaGreat.smP n G k)+(F n k-G n k)=(Go.Proofs.YtoegnnjcmlghhaaGreat.smP n F k+F n k)-(Go.Proofs.YtoegnnjcmlghhaaGreat.smP n G k+G n k);lia))
theorem zcI{a:K->N J}(hp:qt (P:J)=wT)(o:vu (P:J) m)(hc:X m=w+1)(d:∀k,k<=w->Fp (P:J) (a k)/\X (a k)<=w/\Em (P:J) m (pp (pp vx P) k) (C<|a k)){e:Pz}(f:∀k,w<=k->e k=0):
 Di (P:J) (C m) (pp e P-e)↔∀s,s<w->(P:J)∣dt w (KJ a w s) e:=by
 have⟨q,r⟩:=zA hp;have hn:=WB hp;rw[xba]at hn;let S:Pz:=smP w λi=>E (e i)*C (a i)
 have h1:Em (P:J) m (pp e P) S:=(Em.cg<|zsC W hn f).trans<|Em.smP w λi hi=>Em.mul (Fs.pc _) (Fs.ci _) Em.rfl (d i W).2.2;have j:∀k,w<=k->(S-e) k=0:=λk b=>by
  show S k-e k=0;rw[f k b,show S k=yv w λi=>(E (e i)*C (a i)) k from O6 _ k w,xb λi hi=>by rw[zY,yz (by have:=(d i W).2.1;lia),xaA]];rfl
 have l:∀s,s<w->dt w (KJ a w s) e=(S-e) s:=λs c=>by
  show yv w (λk=>(if k<w then C (a k) s-(if s=k then 1 else 0)else 0)*e k)=S s-e s;rw[show S s=yv w λi=>(E (e i)*C (a i)) s from O6 _ s w,yA (g:=λk=>(E (e k)*C (a k)) s+(if k=s then-e k else 0)) λk b=>by
   rw[Q b,zY];by_cases h:k=s;grind;rw[ir<|λg=>h g.symm,ir h,xdf,xbY,xbI],XH,w5 (i:=s)<|λk b=>ir b,Q c,Q O]
  lia
 have p:Di (P:J) (C m) (pp e P-e)↔Di (P:J) (C m) (S-e):=⟨λh=>(h1.symm.trans (show Em _ _ _ e from h):Em _ _ _ e),λh=>(h1.trans (show Em _ _ _ e from h):Em _ _ _ e)⟩;rw[p];constructor;intro h s c;have:=Di.short W o (λk b=>j k W) h;rw[l s c];have n:=this s;rw[zS,xaq]at n;exact xaH n;intro h;refine(Di.zero _ _).cg λs=> ?_;rw[zS,xaq];symm;by_cases c:s<w;rw[<-l s c];exact xax<|h s c;rw[j s W,xaq]
def zkV(hp:qt (P:J)=wT):P=2\/P%2=1:=by
 have⟨a,b⟩:=zA hp;have hn:=WB hp;by_cases h:P=2
 lia;have:=hn 2 W;by_cases c:4<=P;lia;lia
def CQ{fu:K}(hp:qt (P:J)=wT)(x:vu (P:J) m)(hn:X m=w+1)(V:1<=w)(z:w<=64)(D:3000000<=fu):
 ∃bs,X3 fu m P=Z bs/\1<=X bs/\X bs<=w/\(∀v∈bs,Rl v/\X v=w)/\Bs P m (λi=>C<|bs.getD i []) (X bs)/\∃c:J,Cg (P:J) (C<|bs.getD 0 []) (E c):=by
 have⟨p1,p2⟩:=zA hp;have⟨b,h1,t⟩:=tD (fu:=fu) hp x hn V z D;have hR:∀s k,WQ (KJ b w s k):=λs k=>by
  show WQ (if k<w then C (b k) s-(if s=k then 1 else 0)else 0);by_cases h:k<w;rw[Q h];have f:=(t k W).1;have f1:=f.nn s;have f2:=f.lt s;split;exact⟨W,W⟩;exact⟨W,W⟩;rw[S h];exact⟨W,W⟩
 have⟨A,n,c,pv,e1,o,e3⟩:=FK (fu:=fu) (N:=w) (w:=w) (m:=ZS w w<|KJ b w) hp (Z6 _ _ _) z (λr G=>by
  unfold ZS at G;obtain⟨s,_,rfl⟩:=xat.1 G;refine⟨ye _ _,λk=> ?_⟩;by_cases a:k<w;rw[ZI a];exact hR s k;rw[yz<|by rw[ye];lia];exact⟨W,W⟩) z D
 have B:∀e:Pz,Kr (P:J) w w (λi=>C<|(ZS w w<|KJ b w).getD i []) e↔∀s,s<w->(P:J)∣dt w (KJ b w s) e:=λe=>forall_congr' λs=>imp_congr_right λhc=>by rw[show dt w (C<|(ZS w w<|KJ b w).getD s []) e=dt w (KJ b w s) e from yA λk a=>by rw[qK hc,ZI a]]
 let F:K->ww J:=λc=>zl w<|C5 (P:J) A pv c n
 have H:∀i,i<X (tM n pv w)->(tM n pv w).getD i 0<w/\Az n pv ((tM n pv w).getD i 0)=wT:=λi hi=>by
  rw[UV,xaa hi,xdn];have:=xby hi;have d:=xbW.1 this;exact⟨xbd.1 d.1,d.2⟩
 have q:∀i,i<X (tM n pv w)->((tM n pv w).map F).getD i []=F ((tM n pv w).getD i 0):=λi hi=>by rw[UV,UV,xci,xaa hi];rfl
 have L:∀i,i<w->(P:J)∣A i 0:=by
  have h0:Kr (P:J) w w A λk=>if k=0 then 1 else 0:=(o.kr _).2 ((B _).2 λs hc=>by
   show(P:J)∣yv w λk=>KJ b w s k*(if k=0 then 1 else 0);rw[w5 (i:=0) (λk a=>by rw[S a,xaA]),yg,Q O,xcO];show(P:J)∣(if 0<w then C (b 0) s-(if s=0 then 1 else 0)else 0);rw[yg];have g:=(t 0<|xaf _).2.2;have g1:Cg (P:J) (E 1-C (b 0)) (E 0):=Di.short W x (λk a=>by
    rw[y8,yz (by have:=(t 0<|xaf _).2.1;lia)];show E 1 k-0=0;unfold E;rw[zG];rfl) g
   have M:=g1 s;rw[y8,zS,xaq]at M;have R:=xaH M;have g4:(E 1 s:J)=if s=0 then 1 else 0:=O;rw[g4]at R;have:=Int.dvd_neg.2 R;rw[Int.neg_sub]at this;exact this)
  intro i hi;have:(P:J)∣yv w λk=>A i k*(if k=0 then 1 else 0):=h0 i hi;rw[w5 (i:=0) (λk a=>by rw[S a,xaA]),yg,Q O,xcO]at this;exact this
 have ht:Az n pv 0=wT:=oT.2 λi hi h=>by
  have d:=o.on i hi;rw[h]at d;have T:=L i (by have:=o.hn;lia);rw[d]at T;have:=Int.le_of_dvd W T;lia
 have hA:∃l,tM n pv w=0::l:=by obtain⟨u,rfl⟩:∃u,w=u+1:=⟨w-1,W⟩;unfold tM;rw[List.range_succ_eq_map,xfI,Q ht];exact⟨_,O⟩
 have⟨l,hl⟩:=hA;refine⟨(tM n pv w).map F,by rw[h1,Y e1],by rw[hl];simp,by rw[xan];exact zix n pv w,λv hv=> ?_,⟨zkV hp,W,λe he hd=> ?_,λi hi k a=> ?_,λi hi=> ?_⟩,1,?_⟩;obtain⟨c,_,rfl⟩:=xat.1 hv;refine⟨λk=> ?_,ye _ _⟩;by_cases a:k<w;show WQ (C (zl w _) k);rw[ZI a];have:=zed (p:=(P:J)) W (A:=A) (pv:=pv) (c:=c) n k;exact⟨W,W⟩;rw[yz (by show(zl w _).length<=k;rw[ye];lia)];exact⟨W,W⟩;have U:∀k,w<=k->e k=0:=λk a=>he k W;refine⟨λi=>e<|(tM n pv w).getD i 0,λk=> ?_⟩;rw[O6,xan];by_cases a:k<w;rw[zl0 W o ((B e).2<|(zcI hp x hn t U).1 hd) a];congr 1;refine yA λi hi=> ?_;rw[zY,q i hi];show _=_*C (zl w _) k;rw[ZI a]
 rw[U k W,xb λi hi=>by
  rw[zY,q i hi];show _*C (zl w _) k=0;rw[yz (by rw[ye];lia),xaA]]
 rw[xan]at hi;rw[q i hi];exact yz (by show(zl w _).length<=k;rw[ye];lia)
 rw[xan]at hi;have hz:∀k,w<=k->C (((tM n pv w).map F).getD i []) k=0:=λk a=>by
  rw[q i hi];exact yz (by show(zl w _).length<=k;rw[ye];lia)
 refine(zcI hp x hn t hz).2<|(B _).1 ?_;have:=zpY W o e3 (H i hi).1 (H i hi).2;intro s hc;have d:=this s hc;rw[show dt w _ (C<|((tM n pv w).map F).getD i [])=dt w _ (C5 (P:J) A pv ((tM n pv w).getD i 0) n)from yA λk a=>by
  rw[q i hi];show _*C (zl w _) k=_;rw[ZI a]]
 exact d;intro k;rw[q 0 (by rw[hl];simp),hl];show C (zl w<|C5 (P:J) A pv 0 n) k%P=(if k=0 then(1:J)else 0)%P;by_cases a:k<w;rw[ZI a];by_cases y:Az n pv k=wT;rw[tZ<|oT.1 y];have:∃i,i<n/\pv i=k:=xak λh=>y<|oT.2 λi hi d=>h ⟨i,hi,d⟩;obtain⟨i,hi,rfl⟩:=this;rw[Du hi λj hj hB=>o.pv_ne (i:=i) (j:=j) hi hj hB];have h0:pv i≠0:=λh=>by rw[h]at y;exact y ht
 rw[S h0,xaq];have h5:=L i (by have:=o.hn;lia);exact xax<|xaH<|by rw[xcA _<|xei _];exact xax<|Int.dvd_neg.2 h5
 rw[yz (by rw[ye];lia),zG]
end
section
section
variable{α:Type}
def iB1(d:α)(cmp:α->α->V J):rX (J×J×J×N α) (J×J×N α):=λL (i2,a,i4,t2)=>
 if i2<i4 then
 zD i4 (X t2) λb=>
 B (t2.getD b d) λt3=>
 A (i4-1) λc=>
 zD c (X t2) λe=>
 B (t2.getD e d) λt4=>
 G (cmp t3 t4) λf=>
 if f<0then
 A (i4-1) λg=>
 A (i4-1) λh=>
 zD h (X t2) λi=>
 B (t2.getD i d) λt5=>
 zD i4 (X t2) λj=>
 B (t2.getD j d) λt6=>
 zD i4 (X t2) λk=>
 B (t2.set k t5) λt7=>
 zD g (X t7) λl=>
 B (t7.set l t6) λt8=>
 A (i4-1) λm=>
 L (i2,a,m,t8)
 else
 Z (i2,a,t2)
 else
 Z (i2,a,t2)
def iB0(fu:K)(d:α)(b a:J)(cmp:α->α->V J):rX (J×N α) (N α):=λL (i1,t1)=>
 if i1<a then
 G (zg (iB1 d cmp) fu (b,a,i1,t1)) λ(e,f,t9)=>
 A (i1+1) λc=>
 L (c,t9)
 else
 Z t1
structure Od3(c:α->α->J)(S:α->Prop):Prop where
 tr:∀x y z,S x->S y->S z->¬c y x<0->¬c z y<0->¬c z x<0
 an:∀x y,S x->S y->c x y<0->¬c y x<0
def zaZ(d x:α):∀(a b:N α),(a++x::b).getD (X a) d=x
 |[],_=>rfl
 |_::a,b=>zaZ d x a b
def MQ(d y x:α):∀(a b:N α),(a++y::x::b).getD (X a+1) d=x
 |[],_=>rfl
 |_::a,b=>MQ d y x a b
def zjd(x z:α):∀(a b:N α),(a++x::b).set (X a) z=a++z::b
 |[],_=>rfl
 |h::a,b=>Z2 (h:: ·)<|zjd x z a b
def zc2(y x z:α):∀(a b:N α),(a++y::x::b).set (X a+1) z=a++y::z::b
 |[],_=>rfl
 |h::a,b=>Z2 (h:: ·)<|zc2 y x z a b
def zdg{l:N α}(h:0<X l):∃a y,l=a++[y]:=⟨l.dropLast,l.getLast (λe=>by rw[e]at h;exact jp h<|xfQ _),(List.dropLast_concat_getLast _).symm⟩
def zrg{fu:K}{d:α}{cmp:α->α->V J}{c:α->α->J}{S:α->Prop}(hc:∀x y,S x->S y->cmp x y=Z (c x y)){s rest:ww α}{x:α}(j:∀y∈s,S y)(k:S x)(hn:X (s++x::rest)<=1000)(o:3000000<=fu){N:J}:
 ∃r,zg (iB1 d cmp) fu (0,N,(X s:J),s++x::rest)=Z r/\∃r1 r2,s=r1++r2/\r=(0,N,r1++x::(r2++rest))/\(∀y∈r2,c x y<0)/\∀a y,r1=a++[y]->¬c x y<0:=by
 rw[xau,xaw]at hn;refine zM (λt:J×J×J×ww α=>∃r1 r2,s=r1++r2/\t=(0,N,(X r1:J),r1++x::(r2++rest))/\∀y∈r2,c x y<0) (λt=>t.2.2.1.toNat) _ ?_ fu _ ⟨s,[],(xbo s).symm,O,λy g=>by simp at g⟩ (by show(X s:J).toNat<fu;lia);rintro t L ⟨r1,r2,e,rfl,i⟩ l;unfold iB1;simp only;have hl:X s=X r1+X r2:=by rw[e,xau]
 by_cases h:0<X r1;obtain⟨a,y,rfl⟩:=zdg h;have m:X (a++[y])=X a+1:=rC
 have h1:a++[y]++x::(r2++rest)=a++y::x::(r2++rest):=rC
 have n:X (a++y::x::(r2++rest))=X a+2+X r2+X rest:=by simp;lia
 have g:S y:=j y (by rw[e];simp);rw[h1,m,yg,n,yn,F,MQ,zb,(W:((X a+1:K):J)-1=(X a:J)),yn,F,zaZ,Y<|hc x y k g];by_cases f:c x y<0;rw[Q f,zb,zb,yn,F,zaZ,yn,F,MQ,yn,F,zc2,xau,zm rC,F,zjd,zb];refine l _ ⟨a,y::r2,by rw[e];simp,O,λz hz=> ?_⟩ (by show(X a:J).toNat<(X (a++[y]):J).toNat;lia);obtain rfl|hz:=xai.1 hz
 exact f;exact i z hz;rw[ir f];refine⟨_,O,a++[y],r2,e,by rw[h1],i,λb z hz=> ?_⟩;have:=List.append_inj' hz O;rw[List.singleton_inj.1 this.2]at f;exact f
 rw[zG];obtain rfl:r1=[]:=xbt.1 W;exact⟨_,O,[],r2,e,O,i,λb z hz=>by
  have:=Z2 xaK hz;simp at this⟩
def zfX{fu:K}{d:α}{cmp:α->α->V J}{c:α->α->J}{S:α->Prop}(hc:∀x y,S x->S y->cmp x y=Z (c x y)){t:ww α}(p:∀y∈t,S y)(hn:X t<=1000:=by lia)(q:3000000<=fu:=by lia):
 ∃r,zg (iB0 fu d 0 (X t:J) cmp) fu (1,t)=Z r/\r.Perm t/\(Od3 c S->r.Pairwise λa b=>¬c b a<0):=by
 cases t with
 |nil=>
  refine zM (λx:J×ww α=>x=(1,[])) (λ_=>0) _ ?_ fu _ O W;rintro x L rfl k;exact⟨[],O,xdw _,λ_=>List.Pairwise.nil⟩
 |cons z t=>
  refine zM (λx:J×ww α=>∃s rest,x=((X s:J),s++rest)/\(s++rest).Perm (z::t)/\(Od3 c S->s.Pairwise λa b=>¬c b a<0)) (λx=>X (z::t)-x.1.toNat) _ ?_ fu _ ⟨[z],t,O,xdw _,λ_=>List.pairwise_singleton _ _⟩ (by show(z::t).length-1<fu;lia);rintro x L ⟨s,rest,rfl,f,l⟩ k;unfold iB0;simp only;have hl:=f.length_eq;rw[xau]at hl;have m:∀y∈s++rest,S y:=λy e=>p y<|f.mem_iff.1 e
  cases rest with
  |nil=>
   rw[ir<|by simp at hl;simp;lia];rw[xbo]at f;exact⟨s,by rw[xbo],f,l⟩
  |cons x rest=>
   rw[xaw]at hl;rw[yg];have g:∀y∈s,S y:=λy e=>m y<|xdO _ e;have i:S x:=m x rC;obtain⟨r,e1,r1,r2,rfl,rfl,u,v⟩:=zrg (fu:=fu) (d:=d) (N:=(X (z::t):J)) (rest:=rest) hc g i (by rw[xau,xaw];lia) q;rw[Y e1];simp only;rw[zb];have A:(r1++x::(r2++rest)).Perm (r1++r2++x::rest):=by rw[xar];refine xbp r1 ?_;rw[<-xbL];have:(x::r2++rest).Perm (r2++x::rest):=xca.symm;exact this
   refine k _ ⟨r1++x::r2,rest,?_,?_,λj=> ?_⟩ ?_;rw[show((X (r1++x::r2):K):J)=(X (r1++r2):J)+1 by simp;lia,xar,xbL];rw[xar,xbL];exact A.trans f
   have hp:=xdm.1<|l j;have hd:∀y∈r1,¬c x y<0:=λy e=>by
    obtain⟨a,w,rfl⟩:=zdg<|xfs e;have n:=v a w O;obtain h|h:=xab.1 e
    have B:=xdm.1 hp.1;exact j.tr y w x (g y<|by simp[h]) (g w rC) i (B.2.2 y h w rC) n;rw[xad.1 h];exact n
   refine xdm.2 ⟨hp.1,xdi.2 ⟨λy e=>j.an x y i (g y<|by simp[e])<|u y e,hp.2.1⟩,λa o b hb=> ?_⟩;obtain rfl|hb:=xai.1 hb
   exact hd a o;exact hp.2.2 a o b hb;show(z::t).length-((X (r1++r2):J)+1).toNat<X (z::t)-(X (r1++r2):J).toNat;lia
end
def Hz{fu:K}{cmp:N J->N J->V J}{c:N J->N J->J}{S:N J->Prop}(hc:∀x y,S x->S y->cmp x y=Z (c x y)){t:N (N J)}(d:∀y∈t,S y)(hn:X t<=12)(h:3000001<=fu):
 ∃r,wi fu t cmp=Z r/\r.Perm t/\(Od3 c S->r.Pairwise λa b=>¬c b a<0):=by
 obtain⟨g,rfl⟩:∃g,fu=g+2:=⟨fu-2,W⟩;obtain⟨r,h1,e,f⟩:=zfX (fu:=g+1) hc d;refine⟨r,?_,e,f⟩;unfold wi uo;rw[F,Y<|Y<|q9<|by unfold Ec;lia];refine Y<|Y ?_;rw[kQ];unfold q7;simp only;rw[zb,yg];refine Y ?_;exact Y h1
def OE{fu:K}{cmp:N U->N U->V J}{c:N U->N U->J}{S:N U->Prop}(hc:∀x y,S x->S y->cmp x y=Z (c x y)){t:N (N U)}(d:∀y∈t,S y)(hn:X t<=12)(h:3000001<=fu):
 ∃r,yL fu t cmp=Z r/\r.Perm t/\(Od3 c S->r.Pairwise λa b=>¬c b a<0):=by
 obtain⟨g,rfl⟩:∃g,fu=g+2:=⟨fu-2,W⟩;obtain⟨r,h1,e,f⟩:=zfX (fu:=g+1) hc d;refine⟨r,?_,e,f⟩;unfold yL uo;rw[F,Y<|Y<|q9<|by unfold Ec;lia];refine Y<|Y ?_;rw[kQ];unfold vV;simp only;rw[zb,yg];refine Y ?_;exact Y h1
end
section
variable{p:wF}{m a:ww wF}{fu:wL}
def rI{p:J}:∀{l1 c:N Pz},List.Sublist l1 c->(∀w∈c,Fs w)->Di p (prZ l1) (prZ c)
 |_,_,.slnil,_=>Di.refl _ _
 |_,_,.cons a h,b=>Di.mul a (b a<|IR)<|rI h λw d=>b w<|FS _ d
 |_,_,.cons_cons a h,b=>by
  obtain⟨q,fq,hc⟩:=rI h λw d=>b w<|FS _ d;refine⟨q,fq,((Cg.rfl).mul hc).trans<|Cg.of ?_⟩;exact zF _ _ _
def Fs.dvp{f:Pz}(h:Fs f):Fs (dvp f):=by have⟨n,hn⟩:=h;exact⟨n,λk b=>by show _*f (k+1)=0;rw[hn _ W,xaA]⟩
def km.sq(hp:2<=p){u:N J}(c:Jj p u)(hc:km p (C m) (dvp<|C m))(h:Di p (C u*C u) (C m)):UP:=by have⟨q,fq,b⟩:=h;have h1:Di p (C u) (C m):=⟨q*C u,fq.mul<|Fs.ci u,b.trans<|Cg.of (zd _ _ _).symm⟩;have d:Di p (C u) (dvp<|C m):=⟨dvp q*C u+(q*dvp (C u)+q*dvp (C u)),(fq.dvp.mul<|Fs.ci u).add<|(fq.mul (Fs.ci u).dvp).add<|fq.mul (Fs.ci u).dvp,(zio b).trans<|Cg.of<|by rw[ab,ab,yV,yV,zd,zd,wI,zo (C u)<|dvp<|C u]⟩;have⟨s,t,fs,e,f⟩:=hc;exact c.ne hp<|(Di.add (Di.mul s fs h1)<|Di.mul t e d).cg f
def zsa(hp:qt p=wT)(e:vu p m)(hl:X m<=290)(hc:km p (C m) (dvp<|C m)):∃us,Sf p m us:=by have⟨i,j⟩:=zA hp;have⟨us,h1,f⟩:=zqP hp (X m) O hl e;refine⟨us,hp,e,hl,λu g=>⟨(h1 u g).1,by have:=(h1 u g).2;lia⟩,?_,f⟩;refine xdq.2 λ{a b} c=> ?_;have d:a∈us:=c.subset rC;have h:b∈us:=c.subset rC;refine(h1 a d).1.cop hp (h1 b h).1 (by have:=(h1 a d).2;lia) (by have:=(h1 b h).2;lia) λhd=> ?_;subst hd;have:=rI (p:=p) (c.map C) dP;refine km.sq i (h1 a d).1 hc<|(Di.cg ?_ f.symm);refine Di.trans ?_ this;refine⟨E 1,Fs.pc 1,Cg.of ?_⟩;show C a*(C a*E 1)=_;rw[yp,zE]
def Ag(hp:qt p=wT)(c:vu p m)(hl:X m<=290)(d:3000000<=fu):∃b,jy fu m p=Z (m,0)/\Y8 fu m p=Z (b,0)/\(b=wT↔km p (C m) (dvp<|C m)):=by
 have⟨f,n⟩:=zA hp;have hd:=c.ln;have⟨x,x0,i,e,e1⟩:=WX (fu:=fu) hp c.fm c.ln W d;rw[c.top,xcO,xaJ W i]at e;subst e;rw[zjg W c.fm]at e1;have⟨g,s,t,g1,j,k⟩:=K8 (fu:=fu) hp c.fm (zgL (p:=p) W m) W (by have:=zoH p m;lia) d;have l:km p (C m) (dvp<|C m)↔X g=1:=by rw[zda f j k];exact⟨λh=>h.congr Cg.rfl (zju p m).symm,λh=>h.congr Cg.rfl<|zju p m⟩
 refine⟨decide<|X g=1,e1,?_,by rw[l];exact decide_eq_true_iff⟩;unfold Y8 JT;rw[Y e1];simp only[Z4];rw[zG,Y O];simp only[Z4];rw[Y<|BF hp c.fm W d];simp only;rw[Y g1];simp only;by_cases hc:X g=1
 simp_all;rw[zG,Ww hc]
theorem Bm(hp:qt p=wT)(e:Fp p a)(h0:0<X a)(hl:X a<=65)(f:3000000<=fu):
 ∃m b,zgt p a m/\vu p m/\Y8 fu m p=Z (b,0)/\(b=wT↔km p (C m) (dvp<|C m))/\uC fu a p=if b=wT then Z (m,0)else Z ([],1):=by
 have⟨g,k⟩:=zA hp;have⟨x,x0,d,h,e1⟩:=WX hp e h0 W f;have c:=Tk g e h0 h;have⟨m,hc⟩:∃m,m=xH p a [x]:=⟨_,O⟩;rw[<-hc]at c e1;have hd:=c.ln;have i:vu p m:=⟨c.fm,W,c.top⟩;have⟨b,_,b1,b2⟩:=Ag hp i W f;unfold uC dM;have j:(G (jy fu a p) λ(t1,d)=>if d=(0:J)then if(X t1:J)=(0:J)then Z (([],(8:J)))else if(65:J)<(X t1:J)then Z (([],6))else Z ((t1,0))else Z ([],d))=Z (m,0):=by rw[Y e1];grind
 rw[Y j];simp only;rw[Y b1];grind
def nP{b:N J}(j:X a<=1000)(l:X b<=1000)(n:3000000<=fu):∃c,vD fu a b=Z c:=by
 unfold vD;by_cases h:X a=X b;rw[yg,zb];have⟨r,e,_⟩:=zM (f:=WC fu a b) (λi:J=> -1<=i/\i<X a) (λi=>(i+1).toNat) (λ_=>Wr) (by
  rintro i L ⟨h1,o⟩ g;unfold WC;by_cases d:0<=i;obtain⟨k,rfl⟩:=xaE d;rw[Q d,yn,F,yn,F];split;simp_all;rw[yn,F,yn,F];split;simp_all;rw[zb];exact g _ ⟨W,W⟩ W
  rw[S d];exact⟨_,O,jP⟩) fu ((X a:J)-1) ⟨W,W⟩ W
 rw[Y e]
 cases r with
 |inl _=>exact⟨_,O⟩
 |inr i=>exact⟨i,O⟩
 rw[zG,zb];exact⟨_,O⟩
def zav{l1 b:N Pz}(h:l1.Perm b):prZ l1=prZ b:=by
 induction h with
 |nil=>rfl
 |cons x _ c=>show x*prZ _=x*prZ _;rw[c]
 |swap x y l=>show y*(x*prZ l)=x*(y*prZ l);rw[zF]
 |trans _ _ h1 d=>rw[h1,d]
def Rl.take{l:N J}(h:Rl l)(n:K):Rl (l.take n):=λk=>by
 by_cases b:k<n;have:C (l.take n) k=C l k:=by show(l.take n).getD k 0=l.getD k 0;simp_all
 rw[this];exact h k;rw[yz<|by rw[xas];lia];exact⟨W,W⟩
def CK{P:K}{ds:N J}(hp:qt (P:J)=wT)(H:Fp (P:J) a)(h0:1<X a)(hl:X a<=13)(hd:Rl ds)(hn:X ds<=1000)(o:3000001<=fu){b:ut}(q:zgt (P:J) a m)(k:vu (P:J) m)(s:uC fu a P=Z (m,0))(hc:km (P:J) (C m) (dvp<|C m)):
 ∃l us,X4 fu a P ds=Z (l,0)/\Sf (P:J) m us/\Pl (P:J) m l/\∀g∈l,Jj (P:J) g:=by
 have⟨L,M⟩:=zA hp;have R:=q.ln;have⟨us,e⟩:=zsa hp k W hc;have⟨bs,e1,b1,b2,b3,n,c,u⟩:=CQ (fu:=fu) (w:=X m-1) hp k W W W W;have T:=n.le e;have hi:Rl (ds.take<|min (X ds) 64):=hd.take _;have⟨l,z,d,A⟩:=Bl (fu:=fu) (bs:=bs) (ds:=ds.take<|min (X ds) 64) e W W O b1 W hi (by rw[xas];lia) (λv hv=>⟨(b3 v hv).1,by have:=(b3 v hv).2;lia⟩) W;have B:=Pl.done e n d ⟨c,u⟩ A;have⟨vs,v1,D,v3⟩:=e.pick d.mn<|(Di.refl _ _).cg d.pr.symm;have ht:=iL D λv hv=>(v3 v hv).1;have E:∀g∈l,X g<=290:=λg f=>e.len (d.mn g f).1<|d.dv f;have⟨r,G,h,_⟩:=Hz (fu:=fu) (cmp:=λi j=>vD fu i j) (c:=λx y=>(vD fu x y).getD 0) (S:=λx=>X x<=290) (λx y U V=>by
  have⟨c,hc⟩:=nP (fu:=fu) (a:=x) (b:=y) W W W;show vD fu x y=Z ((vD fu x y).getD 0);rw[hc];rfl) (t:=l) E W o
 refine⟨r,us,?_,e,⟨λg f=>d.mn g<|h.mem_iff.1 f,d.pr.trans ?_⟩,λg f=>B g<|h.mem_iff.1 f⟩;unfold X4;rw[Y s];simp only;rw[Q jP,zG,Y e1,F,(W:min (X ds:J) 64=((min (X ds) 64:K):J)),yF,y9,F,Y z,Y G];exact Cg.of<|zav<|h.symm.map C
end
section
variable{K fu:wL}{a:ww Zr}
def Wz(f:wL->J):wL->wL
 |0=>0
 |n+1=>xdk (Wz f n) (f n).natAbs
def Eb(f:wL->J):∀n k,k<n->Wz f n∣(f k).natAbs
 |0,k,h=>jp h<|xbb _
 |n+1,k,h=>by
  by_cases e:k=n;rw[e];exact xdg _ _;exact Nat.dvd_trans (xeY _ _)<|Eb f n k W
theorem Dm(f:wL->J){K:wL}(h:∀k,Bz K<|f k):∀n,Wz f n<18446744073709551616^K
 |0=>xaY rx
 |n+1=>by
  show xdk (Wz f n) (f n).natAbs<_;by_cases e:Wz f n=0
  rw[e,Nat.gcd_zero_left];exact h n;exact xaI (Nat.gcd_le_left _ W)<|Dm f h n
def yD(a:N U):J:=if M (yu a) (X (yu a)-1)<0 then-((Wz (M a) (X (yu a)):wL):J)else((Wz (M a) (X (yu a)):wL):J)
def de(a:N U):yu a=wO (X (yu a)) (M<|yu a):=JK _ _
def zlo(a:N U):yu (yu a)=yu a:=(de a).symm
theorem Fy(h:xa K a):Bz K (yD a):=by grind [yD,Dm,xa.bz,Bz.nat,Bz.neg]
theorem WI(a:N U)(k:wL):yD a∣M a k:=by
 have h:((Wz (M a) (X (yu a)):wL):J)∣M a k:=by
  by_cases b:k<X (yu a);exact xcm.1<|by skip;exact Eb (M a) _ k b
  rw[<-Ye,ym W];exact xdE _
 unfold yD;split;simp_all;exact h
def sZ(h:X (yu a)≠0):yD a≠0:=by intro e;have h1:=XC (de a) h;rw[Ye]at h1;have b:=WI a<|X (yu a)-1;simp_all
def kY(c:xa K a)(g:K<=9999:=by lia)(hl:X a<=1000000:=by lia)(b:3000000<=fu:=by lia):vN fu a=Z (yC<|yD a):=by
 unfold vN;have hn:=fZ c;have hd:=ZP a;have hc:=Dm (M a) c.bz;rw[Y<|zK c W hl b,show wO (X a) (M a)=yu a from O,Y<|yr rx b,Y (v:=(yu a,(I,[]),yC ((Wz (M a) (X (yu a)):wL):J)))];simp only;by_cases h0:X (yu a)=0
 rw[zG];unfold yD;rw[h0];show Z (yC ((0:wL):J))=Z (yC (if M (yu a) 0<0 then-(((0:wL):J))else((0:wL):J)));simp_all;rw[yg,(W:((X (yu a):wL):J)-1=((X (yu a)-1:wL):J)),zb,yn,F,Ee<|de a];unfold yD;by_cases h1:M (yu a) (X (yu a)-1)<0;rw[Q<|(J0 _).2 h1,Q h1,Y<|Vy ((Bz.nat<|hc _).ok W) b,zn];rw[S<|λe=>h1<|(J0 _).1 e,S h1];refine zB (λs:J×N U×U×U=>∃i:wL,i<=X (yu a)/\s=((i:J),yu a,(I,[]),yC ((Wz (M a) i:wL):J))) (λs=>X (yu a)-s.1.toNat) _ ?_ _ _ ⟨0,xaf _,O⟩ (by show(yu a).length-0<fu;lia);rintro s L ⟨i,hi,rfl⟩ f;unfold UB;simp only;by_cases h:i<X (yu a);have d:=hn.get i;rw[yg,Y O];simp only[Z4];rw[zm h,F,Y<|Vr (yx _) d.1 (Bz.nat<|hc i).len d.2 W b,zn,xaL,Qw,Ye,zb];exact f _ ⟨i+1,W,O⟩ (by show(yu a).length-((i:J)+1).toNat<X (yu a)-(i:J).toNat;lia);rw[zG,Y O];simp only[xaj,Z5];obtain rfl:i=X (yu a):=W
 rfl
def zei(a:N U):yD (yu a)=yD a:=by unfold yD;rw[zlo,show M (yu a)=M a from uT (Ye a)]
def oW(b:xa K a)(g:K<=9999)(hl:X a<=1000000)(c:3000000<=fu):Yz fu a=Z (yC<|yD a):=by
 unfold Yz;have hn:=fZ b;have hd:=ZP a;have hc:=Dm (M a) b.bz;rw[Y<|w7 b W hl c,show wO (X a) (M a)=yu a from O,Y (a8 rx),Y (v:=yC ((Wz (M a) (X (yu a)):wL):J))];by_cases h0:X (yu a)=0
 rw[zG];unfold yD;rw[h0];show Z (yC ((0:wL):J))=Z (yC (if M (yu a) 0<0 then-(((0:wL):J))else((0:wL):J)));simp_all;rw[yg,(W:((X (yu a):wL):J)-1=((X (yu a)-1:wL):J)),zb,yn,F,Ee<|de a];unfold yD;by_cases h1:M (yu a) (X (yu a)-1)<0;rw[Q<|(J0 _).2 h1,Q h1,Y<|Kh ((Bz.nat<|hc _).ok W) c,zn];rw[S<|λe=>h1<|(J0 _).1 e,S h1];refine zB (λs:J×U=>∃i:wL,i<=X (yu a)/\s=((i:J),yC ((Wz (M a) i:wL):J))) (λs=>X (yu a)-s.1.toNat) _ ?_ _ _ ⟨0,xaf _,O⟩ (by show(yu a).length-0<fu;lia);rintro s L ⟨i,hi,rfl⟩ f;unfold Uy;simp only;by_cases h:i<X (yu a);have d:=hn.get i;rw[yg,zm h,F,Y<|lk (yx _) d.1 (Bz.nat<|hc i).len d.2 W c,zn,xaL,Qw,Ye,zb];exact f _ ⟨i+1,W,O⟩ (by show(yu a).length-((i:J)+1).toNat<X (yu a)-(i:J).toNat;lia);rw[zG];obtain rfl:i=X (yu a):=W
 rfl
def zH(a:N U):N U:=wO (X a)<|λk=>M a k/yD a
theorem ZH(a:N U)(k:wL):M (zH a) k=M a k/yD a:=j7 (λk b=>by rw[ym b,xek]) k
def Aw(h:xa K a):xa K (zH a):=xh λk=>(h.bz k).le<|xbr _ _
theorem zp9{x c:J}(hd:c∣x)(b:x≠0):x/c≠0:=λe=>by
 have:=Int.ediv_mul_cancel hd;simp_all
theorem ZN(a:N U):X (zH a)=X (yu a):=by grind [yu,zH,xE,aq,qS,QX,zp9,WI,Q2,xek]
theorem zgN(a:N U):zH a=zi (X (yu a)) (λk=>M a k/yD a):=by grind [wO,zH,ZN,xE]
def vR(b:xa K a)(d:K<=9999:=by lia)(hl:X a<=1000000:=by lia)(c:3000000<=fu:=by lia):wh fu a=Z (zH a):=by unfold wh;have hn:=fZ b;have hd:=ZP a;have hc:=Fy b;rw[Y<|kY b d hl,Y<|zK b W hl c,show wO (X a) (M a)=yu a from O,Y<|DG W W λj e=> ?_,zgN];unfold K6;rw[Y<|vO (hn.okS W j) (hc.okS W) c,zn,Qw,Ye];unfold exI;rw[S (sZ W),Q<|xax<|WI a j]
def SW(c:xa K a)(R:K<=9985)(hl:X a<=1000)(h0:X (yu a)≠0)(f:3000000<=fu):Uz fu (yu a) [yC<|yD a]=Z (zH a,0):=by
 unfold Uz;have hn:=fZ c;have T:=ZP a;have hc:=Fy c;have i:=sZ h0;have w:=hc.len;have l:xa K [yC<|yD a]:=λz o=>by
  obtain rfl:=xad.1 o;exact⟨yx _,w⟩
 have x:wO [yC<|yD a].length (M [yC<|yD a])=[yC<|yD a]:=by show wO 1 _=_;unfold wO;rw[show dg (M [yC<|yD a]) 1=1 from ig (m:=0) (by show zv (yC<|yD a)≠0;rw[zn];exact i)];show[yC<|zv<|yC<|yD a]=_;rw[zn]
 have r:∀k,M [yC<|yD a] k=if k=0 then yD a else 0:=λk=>by
  by_cases b:k=0
  rw[Q b,b];exact zn _;rw[S b];exact ym<|by simp;lia
 rw[Y<|w7 l W rC f,x,S (rC:¬((X ([yC<|yD a]:N U):wL):J)=0),Y<|w7 hn W W f,show wO (X (yu a)) (M<|yu a)=yu a from(de a).symm];have⟨n,ht⟩:∃n,n=X a:=⟨_,O⟩;rw[Y (v:=.inl<|zH a)];refine zB (λs:N U×N U×N U=>∃m:wL,m<=n/\s=([yC<|yD a],wO m<|M a,wO n (λk=>if m<=k then M a k/yD a else 0))) (λs=>X s.2.1) _ ?_ _ _ ⟨n,Nm _,?_⟩ (by show(yu a).length<fu;lia)
 rintro s L ⟨m,V,rfl⟩ y;unfold ov;simp only;have hJ:=qS (M a) m;have h:X (wO m<|M a)=dg (M a) m:=xE _ _;have A:∀k,M (wO m<|M a) k=if k<m then M a k else 0:=λk=>by
  have e:wO m (M a)=wO m (λk=>if k<m then M a k else 0):=WZ λk b=>by rw[Q b]
  rw[e,j7 λk b=>zG]
 by_cases h1:0<dg (M a) m;have⟨d,hd⟩:∃d,dg (M a) m=d+1:=⟨dg (M a) m-1,W⟩;have hH:M a d≠0:=by have:=Q2 (M a) m W;rw[hd]at this;exact this
 have B:(wO m<|M a).getD d (I,[])=yC (M a d):=by unfold wO;rw[hd];exact YJ W
 have hv:exI (M a d) (yD a)=M a d/yD a:=by unfold exI;rw[S i,Q<|xax<|WI a d]
 have C:exE (M a d) (yD a)=0:=by unfold exE;rw[S i,Q<|xax<|WI a d]
 have D:Bz K (M a d/yD a):=(c.bz d).le<|xbr _ _;have hp:So d (I,[])++[yC<|M a d/yD a]=zi (d+1) (mono d<|M a d/yD a):=by
  rw[db,<-Dd];congr 1;exact xc λk b=>by unfold mono;rw[zG]
  unfold mono;rw[Q O]
 have q:xa K (zi (d+1)<|mono d<|M a d/yD a):=Xq λj=>by
  unfold mono;split;exact D;exact Bz.zero _
 have E:xa K (wO n (λk=>if m<=k then M a k/yD a else 0)):=xh λj=>by
  split;exact(c.bz j).le<|xbr _ _;exact Bz.zero _
 have hL:X (wO n (λk=>if m<=k then M a k/yD a else 0))<=n:=by rw[xE];exact qS _ _
 have G:xa K (wO m<|M a):=xh c.bz;have t:=XW q l;have u:=uu (zi (d+1)<|mono d<|M a d/yD a) [yC<|yD a];rw[yw]at u t;rw[Q (by rw[h];lia),h,hd,show(X ([yC<|yD a]:N U):wL)=1 from O,(W:((d+1:wL):J)-((1:wL):J)=(d:J)),zb,(W:((d+1:wL):J)-1=(d:J)),zb,yn,F,B,show((1:wL):J)-1=((0:wL):J)by rfl,zb,yn,F,show([yC<|yD a]:N U).getD 0 (I,[])=yC (yD a)from O,Y<|Bn ((c.bz d).okS W) (hc.okS W) f,zn,zn,hv,C];simp only[Z4];rw[zG,yF,y9,F,xN (by simp;lia),F,hp,Y<|gK E q W W (by rw[yw];lia) f,Y<|Ez q l (by rw[yw];lia) rC f,Y<|EO (k:=K+K+(d+1)) (G.mono W) t W W (by simp at u;lia) f];have e1:ef (wO m<|M a) (xd (zi (d+1)<|mono d<|M a d/yD a) [yC<|yD a])=wO d (M a):=by
  unfold ef;have H:wO d (M a)=wO d (λk=>if k<d then M a k else 0):=WZ λk b=>by rw[Q b]
  rw[H];refine Xz (λk b=>by rw[ym W,ym W];rfl) (λk b=>zG) λk=> ?_;rw[zfA,A];unfold Ru;by_cases b:k<d;rw[yg,Q b,zG,xaA,xdf];rw[S b];by_cases hi:k=d;subst hi;rw[yg,Q<|Nm _,r,yg,Int.ediv_mul_cancel<|WI a k];lia;have o:(if k<m then M a k else 0)=0:=by
   split;exact QX (M a) m k W W
   rfl
  rw[o,yg,r,zG,xaA];rfl
 have P:wO (max (X (wO n (λk=>if m<=k then M a k/yD a else 0))) (X (zi (d+1)<|mono d<|M a d/yD a))) (λj=>M (wO n (λk=>if m<=k then M a k/yD a else 0)) j+M (zi (d+1)<|mono d<|M a d/yD a) j)=wO n (λk=>if d<=k then M a k/yD a else 0):=by refine Xz (λk b=>by rw[ym W,ym W];rfl) (λk b=>by rw[ym (p:=a) W,xek,ite_self]) λk=> ?_;rw[j7 (λk b=>by rw[ym (p:=a) W,xek,ite_self]),Uj<|λk b=>by unfold mono;rw[zG]];unfold mono;by_cases b:k<d;rw[S (W:¬m<=k),S (W:¬k=d),S (W:¬d<=k)];rfl;by_cases hi:k=d;subst hi;rw[S (W:¬m<=k),Q O,Q<|Nm _,xcI];rw[S hi,Q (W:d<=k),xbY];by_cases g:m<=k;rw[Q g];rw[S g,QX (M a) m k W W,xek]
 show L ([yC<|yD a],_,_)=_;rw[e1,P];exact y _ ⟨d,W,O⟩ (by show(wO d<|M a).length<X (wO m<|M a);rw[h,xE];have:=qS (M a) d;lia);rw[S<|by rw[h];lia];congr 2;unfold zH;rw[<-ht];refine WZ λk b=> ?_;by_cases g:m<=k;rw[Q g];rw[S g,QX (M a) m k W W,xek];rw[ht];congr 2;have e:wO (X a) (λk=>if X a<=k then M a k/yD a else 0)=wO (X a) (λ_=>0):=WZ λk b=>zG;rw[e];have:dg (λ_=>(0:J)) (X a)=0:=aq (xaf _) (λ_ _ _=>O) (.inl O);unfold wO;rw[this];rfl
def Cx(b:xa K a)(d:K<=9985)(hl:X a<=1000)(c:3000000<=fu):J5 fu a=Z (zH a):=by
 unfold J5;have hc:=ZP a;rw[Y<|w7 b W W c,show wO (X a) (M a)=yu a from O];by_cases h0:X (yu a)=0
 skip;have:=ZN a;simp_all;rw[zG,Y<|oW (fZ b) W W c,zei,Y<|SW b d hl h0 c]
end
section
variable{a:ww Zr}{fu K:wL}{s:wF}
def zlV{x:wL}:x/2^1=x/2:=by rw[Nat.pow_one]
def zmA{n:wL}(h:0<n):bl (n/2)<bl n:=by rw[lD h];omega
def zcA{a b:wL}(h:a<=b):bl a<=bl b:=bU<|xaI h<|E5 b
def zle{y:J}(b:Bz K y)(d:K<=10000)(c:3000000<=fu):zg (VA fu 2<|yC y) fu (2,yC s,0,yC 1)=Z (2,yC s,yC<|y*y):=by
 have⟨n,hn⟩:∃n,fu=n+3:=⟨fu-3,pU⟩;have h:zg (VA fu 2<|yC y) (n+3) (2,yC s,0,yC 1)=Z (2,yC s,yC<|y*y):=by have b1:=Bz.one'<|Nm _;rw[kQ];unfold VA;simp only;rw[Y<|yi (b1.ok rx) (b.ok pU) c,zn,zn,xdd,yj rx,kQ];simp only;rw[Y<|yi (b.ok pU) (b.ok pU) c,zn];rfl
 simp_all
def EH(v:0<=s)(k:Bz K s)(G:K<=1000)(j:3000000<=fu):∃r:wL,Uu fu (yC s) 2=Z (yC (r:J),0)/\Bz (K+1) (r:J)/\r*r<=s.toNat/\s.toNat<(r+1)*(r+1):=by
 unfold Uu;obtain⟨S,rfl⟩:=xaE v;have H:=k.len;have hv:bl S<=64*K:=zfo (by unfold Bz at k;rwa[xaL]at k);have hn:P (yC (S:J)).2=S:=by show P (yI<|(S:J).natAbs)=S;rw[zV,xaL]
 have w:xdv ((bl S:wL):J) 2=((bl S/2:wL):J):=by rw[xeW pU];omega
 have o:bl S/2<=32*K:=pU
 have x:min (((bl S/2:wL):J)+1) (262144:J)=((bl S/2+1:wL):J):=pU
 rw[ir rx,ir rx,Y<|y5 (k.ok pU) j,zn,ir (λe=>by
  unfold jE at e;rw[zG]at e;split at e<;>exact jp e rx),Y (yr rx j),Y (Vj (yx _) pU pU),hn,xN rx,w,zb,zb,F,x,Y (Ju (a:=[1]) (zp.cons rx zp.nil) rx pU pU)]
 simp only;have⟨g,m⟩:∃g,g=1*2^(bl S/2+1):=⟨_,O⟩;have n:g<18446744073709551616^(K+1):=by rw[m,xcN,(rx:(18446744073709551616:wL)=2^64),<-xcg];exact xfL rx pU
 have M:1<=g:=by rw[m,xcN];exact xaY rx
 have ht:=zfo n;have y:S<g*g:=by refine xag (E5 S) ?_;rw[m,xcN,<-xbg];exact xam rx pU
 rw[show P [1]=1 from O,<-m,Y<|yM (zt _) (by have:=(zL (K+1) g).2 n;omega) (by have:=(zL (K+1) g).2 n;omega),zV,ir rx];obtain⟨r,l1,R,rfl,N,hp,A⟩:=zM (f:=aH fu (yC (S:J)) 2) (λz:U×U×U=>∃lo hi:wL,z=((I,[]),yC (lo:J),yC (hi:J))/\lo<hi/\hi<=g/\lo*lo<=S/\S<hi*hi) (λz=>bl<|(zv z.2.2).natAbs-(zv z.2.1).natAbs-1) (λr=>∃R:wL,r=yC (R:J)/\R<=g/\R*R<=S/\S<(R+1)*(R+1)) (by
  rintro z L ⟨lo,hi,rfl,h1,o,i1,i2⟩ p;unfold aH;simp only;have i:Bz (K+1) (lo:J):=Bz.nat pU;have l:Bz (K+1) (hi:J):=Bz.nat pU;have B:P (yC<|(lo:J)+(hi:J)).2=lo+hi:=by show P (yI<|((lo:J)+(hi:J)).natAbs)=lo+hi;rw[zV];omega
  have q:=(i.add l).len;have c:Bz (K+1) (((lo+hi)/2:wL):J):=Bz.nat pU;have T:X (yI<|(lo+hi)/2)<=K+1:=(zL _ _).2 pU;rw[Y<|qq (i.ok pU) (l.ok pU) j,zn,zn,show(1:J)=((1:wL):J)from O,Y (sM (yx _) pU rx pU),B,zlV,Y (yM (zt _) pU pU),zV,ir rx,Y<|Yk (c.ok pU) (i.ok pU) j (by have:=c.len;omega) (by have:=i.len;omega),zn,zn];by_cases t:(lo+hi)/2=lo;rw[Q<|xm.2 pU];obtain rfl:hi=lo+1:=pU
  exact⟨_,O,lo,O,pU,i1,i2⟩;rw[ir<|λe=>t (by have:=xm.1 e;omega),show(((1:wL):J))=1 from O,Y<|yr rx j,Y<|zle c pU j];simp only;have C:=(c.mul c).len;rw[Y<|Yk ((c.mul c).ok pU) (k.ok pU) j pU pU];have hd:0<hi-lo-1:=pU
  have u:∀d,d<=(hi-lo-1)/2->bl d<bl (hi-lo-1):=λd D=>xaI (zcA D)<|zmA hd;have⟨b,E⟩:∃b,b=(lo+hi)/2:=⟨_,O⟩;rw[<-E]at t⊢;have hl:jE ((b:J)*(b:wL)) (S:J)<=0↔b*b<=S:=by rw[(rC:(b:J)*(b:wL)=((b*b:wL):J))];unfold jE;split;exact⟨λ_=>by omega,λ_=>by decide⟩;split;exact⟨λh=>jp h rx,λh=>by omega⟩;exact⟨λ_=>by omega,λ_=>by decide⟩
  by_cases hc:b*b<=S;rw[zn,zn,Q<|hl.2 hc];exact p _ ⟨_,hi,O,pU,o,hc,i2⟩<|by simp only[zn,xaL];exact u _ pU
  rw[zn,zn,ir λh=>hc<|hl.1 h];exact p _ ⟨lo,_,O,pU,pU,i1,pU⟩<|by simp only[zn,xaL];exact u _ pU) fu ((I,[]),yC 0,yC (g:J)) ⟨0,g,O,pU,Nm _,xaf _,y⟩ (by
  simp only[zn,xaL];have:=zcA (pU:g-Int.natAbs 0-1<=g);omega)
 rw[Y l1];exact⟨R,O,Bz.nat pU,by rw[xba];exact hp,by rw[xba];exact A⟩
def HR(a:N U):J:=if(yu a).length=0 then 8 else if 65<X (yu a) then 6 else 0
theorem eY(b:xa K a)(c:K<=40000)(hl:X a<=1000000)(d:3000000<=fu):X8 fu a=Z (HR a):=by grind [X8,HR,yu,Y,zK]
def AB(f:wL->J)(n:wL):J:=yv n<|λk=>f k*f k
def Y5(x:J):0<=x*x:=by
 obtain h|h:=Int.le_total 0 x
 exact xcx h h;exact Int.mul_nonneg_of_nonpos_of_nonpos h h
def px(f:wL->J):∀n,0<=AB f n
 |0=>xfV _
 |n+1=>Int.add_nonneg (px f n)<|Y5 _
theorem zjp{f:wL->J}(h:∀k,Bz K<|f k):∀n,n<=18446744073709551615->Bz (K+K+1) (AB f n):=by
 have h1:∀n:wL,(AB f n).natAbs<=n*18446744073709551616^(K+K):=by
  intro n
  induction n with
  |zero=>exact xaf _
  |succ n d=>
   have c:(AB f<|n+1).natAbs<=(AB f n).natAbs+(f n*f n).natAbs:=Int.natAbs_add_le _ _;have b:=(h n).mul<|h n;unfold Bz at b;grind
 intro n hn;unfold Bz;have c:=h1 n;have hp:0<18446744073709551616^(K+K):=xaY rx;have b:n*18446744073709551616^(K+K)<=18446744073709551615*18446744073709551616^(K+K):=xac _ hn;omega
def OY{f:wL->J}:∀{n},(∃k,k<n/\f k≠0)->1<=AB f n
 |0,⟨k,h,_⟩=>jp h<|xbb _
 |n+1,⟨k,h,b⟩=>by
  show 1<=AB f n+f n*f n;have h1:=px f n;have d:=Y5<|f n;by_cases e:k=n
  have g:f n*f n≠0:=λc=>by
   obtain h4|h4:=xeQ.1 c<;>exact b<|by rw[e];exact h4
  omega;have:=OY (n:=n) ⟨k,pU,b⟩;omega
def eF(c:xa K a)(p:K<=300)(hl:X a<=1000000)(b:3000000<=fu):∃y,vz fu a=Z (y,HR a)/\(HR a=0->∃r:wL,y=yC (((r+1)*2^(X (yu a)-1):wL):J)/\r*r<=(-1+AB (M a) (X (yu a))).toNat/\(-1+AB (M a) (X (yu a))).toNat<(r+1)*(r+1)):=by
 unfold vz;rw[Y<|eY c pU hl b];by_cases h0:HR a=0
 have hc:X (yu a)≠0/\X (yu a)<=65:=by
  unfold HR at h0;split at h0;cases h0
  omega
 have hn:=fZ c;have e:=λn hn=>zjp (K:=K) (f:=M a) c.bz n hn;have q:=OY (f:=M a) (n:=X (yu a)) ⟨X (yu a)-1,pU,by have:=XC (de a) hc.1;rwa[Ye]at this⟩;have hd:∀n,n<=18446744073709551615->Bz (K+K+1+1) (-1+AB (M a) n):=λn hn=>by
  have:=(e n hn).add (Bz.one (k:=K+K+1) pU);rwa[Int.add_comm]at this
 rw[Q h0,Y<|zK c pU hl b,show wO (X a) (M a)=yu a from O,Y<|yr rx b,Y (v:=(yu a,(I,[]),yC (-1+AB (M a) (X (yu a)))))];simp only;have⟨r,r1,r2,g,l⟩:=EH (fu:=fu) (s:= -1+AB (M a) (X (yu a))) pU (hd _ pU) pU b;have b1:Bz 1 1:=Bz.one'<|Nm _;have b2:=(r2.add<|b1.mono (by omega:1<=K+K+1+1+1)).len;rw[Y r1];simp only;rw[Y<|yr rx b,Y<|qq (r2.ok pU) (b1.ok rx) b,zn,zn,(pU:((X (yu a):wL):J)-1=((X (yu a)-1:wL):J)),zb,Y<|Ju (yx _) pU pU pU];simp only;have t:X (yI<|P (yC<|(r:J)+1).2*2^(X (yu a)-1))<=K+K+1+1+1+1+2:=by refine YY (j:=K+K+1+1+1+1) (k:=2) ?_ ?_;rw[show P (yC<|(r:J)+1).2=((r:J)+1).natAbs from zV _];exact b2;refine(zL _ _).2 ?_;exact xaI (xam rx (pU:X (yu a)-1<=64)) rx
 rw[Y<|uj ⟨zt _,by show(yI _).length<=100000;omega⟩ b];refine⟨_,by rw[h0],λ_=>⟨r,?_,g,l⟩⟩;congr 1;show(if I=wT then _ else((P (yI _):wL):J))=_;rw[zV,show P (yC<|(r:J)+1).2=((r:J)+1).natAbs from zV _,(pU:((r:J)+1).natAbs=r+1)];rfl;refine zB (λs:J×N U×U×U=>∃i:wL,i<=X (yu a)/\s=((i:J),yu a,(I,[]),yC (-1+AB (M a) i))) (λs=>X (yu a)-s.1.toNat) _ ?_ _ _ ⟨0,xaf _,O⟩ (by show(yu a).length-0<fu;omega);rintro s L ⟨i,hi,rfl⟩ m;unfold lU;simp only;by_cases h:i<X (yu a);have d:=hn.okZ pU i;have o:=(c.bz i).mul<|c.bz i;rw[yg,Y O];simp only[Z4];rw[zm h,F,Y<|yi d d b,Qw,Ye,Y<|qq ((hd i pU).ok pU) (o.ok pU) b,zn,zn,zb,show-1+AB (M a) i+M a i*M a i= -1+AB (M a) (i+1)by show _= -1+(AB (M a) i+M a i*M a i);omega];exact m _ ⟨i+1,pU,O⟩ (by show(yu a).length-((i:J)+1).toNat<X (yu a)-(i:J).toNat;omega);rw[zG,Y O];simp only[xaj,Z5];obtain rfl:i=X (yu a):=pU
 rfl;rw[S h0];exact⟨_,O,λh=>jp h h0⟩
end
section
variable{f g q u v w a b:Pz}{m:wL}
def EZ{m:J}{f:K->J}:∀{n j:K},j<n->(∀k,k<n->k≠j->m∣f k)->m∣yv n f-f j
 |0,j,h,_=>jp h<|xbb _
 |n+1,j,h,hd=>by
  show m∣yv n f+f n-f j;by_cases e:j=n;subst e;rw[(W:yv j f+f j-f j=yv j f)];exact gk λk c=>hd k W W
  have h1:=EZ (n:=n) W λk c d=>hd k W d;have i:=hd n W W;rw[(W:yv n f+f n-f j=(yv n f-f j)+f n)];exact Int.dvd_add h1 i
theorem aU{n:K}(c:∀k,n<k->f k=0)(d:∀k,m<k->g k=0):(f*g) (n+m)=f n*g m:=by
 have h:=Int.zero_dvd.1 (EZ (f:=λi=>f i*g (n+m-i)) (n:=n+m+1) (j:=n) W λk e l=>by
  by_cases hc:k<n;grind;rw[c k W,xbc];exact xei 0)
 rw[(W:n+m-n=m)]at h;rw[vt];lia
def Tp(f:Pz)(n:K):Prop:=f n≠0/\∀k,n<k->f k=0
def Nz(f:Pz):Prop:=∃k,f k≠0
def Nz.not(h:¬Nz f)(k:K):f k=0:=xak λe=>h ⟨k,e⟩
def Tp.ex(c:Fs f)(h0:Nz f):∃n,Tp f n:=by
 have⟨N,i⟩:=c;have⟨j,d⟩:=h0;have h1:dg f N≠0:=λe=>by
  by_cases h:j<N;exact d<|QX f N j W h;simp_all
 refine⟨dg f N-1,Q2 f N h1,λk l=> ?_⟩;by_cases hc:k<N;exact QX f N k W hc;simp_all
def Tp.mul{n:K}(c:Tp f n)(d:Tp g m):Tp (f*g) (n+m):=
 ⟨by rw[aU c.2 d.2];exact xdH c.1 d.1,λk h=>uE (n:=n+1) (m:=m+1) (λj e=>c.2 j W)<|λj e=>d.2 j W⟩
def Tp.uniq{n:K}(h:Tp f n)(g:Tp f m):n=m:=by by_cases h1:n<m;exact jp (h.2 m h1) g.1;by_cases c:m<n;exact jp (g.2 n c) h.1;lia
def Tp.nz{n:K}(h:Tp f n):Nz f:=⟨n,h.1⟩
def Tp.fs{n:K}(h:Tp f n):Fs f:=⟨n+1,λk c=>h.2 k W⟩
def Nz.mul{f g:Pz}(c:Fs f)(d:Fs g)(e:Nz f)(h:Nz g):Nz (f*g):=by have⟨n,hn⟩:=Tp.ex c e;have⟨m,i⟩:=Tp.ex d h;exact(hn.mul i).nz
def FT(d:Fs f)(e:Fs g)(fq:Fs q)(i:Nz q)(h:f*q=g*q):f=g:=by by_cases c:Nz (f-g);have h1:=Nz.mul (d.subt e) fq c i;have⟨k,j⟩:=h1;rw[ki,h,y8]at j;lia;funext k;have:=Nz.not c k;rw[y8]at this;lia
def zen{c:J}(hc:c≠0)(h:E c*f=E c*g):f=g:=uT λk=>by
 have:=WP h k;rw[zY,zY]at this;exact Int.eq_of_mul_eq_mul_left hc this
def Zd(u v:Pz):Prop:=∃q:Pz,Fs q/\v=q*u
def Zd.refl(u:Pz):Zd u u:=⟨E 1,Fs.pc 1,(zE u).symm⟩
def Zd.trans(h:Zd u v)(g:Zd v w):Zd u w:=by obtain⟨q,fq,rfl⟩:=h;obtain⟨r,fr,rfl⟩:=g;exact⟨r*q,fr.mul fq,(zd r q u).symm⟩
def Zd.add{u v w:Pz}(h:Zd u v)(g:Zd u w):Zd u (v+w):=by obtain⟨q,fq,rfl⟩:=h;obtain⟨r,fr,rfl⟩:=g;exact⟨q+r,fq.add fr,(yV q r u).symm⟩
def Zd.sub(h:Zd u v)(g:Zd u w):Zd u (v-w):=by obtain⟨q,fq,rfl⟩:=h;obtain⟨r,fr,rfl⟩:=g;exact⟨q-r,fq.subt fr,(ki q r u).symm⟩
def Zd.mul{u v:Pz}(w:Pz)(c:Fs w)(h:Zd u v):Zd u (w*v):=by obtain⟨q,fq,rfl⟩:=h;exact⟨w*q,c.mul fq,(zd w q u).symm⟩
def Zd.left(c:Fs v):Zd u (u*v):=⟨v,c,zo u v⟩
def Pm(f:Pz):Prop:=∀d:K,(∀k,(d:J)∣f k)->d=1
def Pm.nz(h:Pm f):Nz f:=xak λhn=>jp (h 0 λk=>by rw[Nz.not hn k];exact xdE _) rx
def zrR:∀(n d:K),d<=n->2<=d->∃P,2<=P/\kF P/\P∣d
 |0,d,h,i=>by lia
 |n+1,d,h,i=>by
  by_cases hd:kF d;exact⟨d,i,hd,Nat.dvd_refl d⟩;have:∃e,2<=e/\e*e<=d/\d%e=0:=xak λhn=>hd λe e1 j c=>hn ⟨e,e1,j,c⟩;have⟨e,e1,j,c⟩:=this;have p:e<d:=by have:e*2<=e*e:=xaG e e1;lia
  have⟨P,k,l,o⟩:=zrR n e W e1;exact⟨P,k,l,Nat.dvd_trans o<|Nat.dvd_of_mod_eq_zero c⟩
theorem zm8{Q:K->Prop}(h:∃i,Q i):∃i,Q i/\∀k,k<i->¬Q k:=by
 have⟨i,hi⟩:=h
 induction i using xdz with
 |ind i c=>
  by_cases hc:∃k,k<i/\Q k;grind;grind
def IG{P:K}(hp:2<=P)(hn:kF P){f g:Pz}{i:K}(hi:¬(P:J)∣f i)(c:∀k,k<i->(P:J)∣f k)(h:∀k,(P:J)∣(f*g) k):∀n j,j<n->(P:J)∣g j
 |0,j,d=>jp d<|xbb _
 |n+1,j,d=>by
  have p:=IG hp hn hi c h n;by_cases hd:j<n;simp_all
  have e:(P:J)∣yv (i+j+1) (λa=>f a*g (i+j-a))-f i*g (i+j-i):=EZ (m:=(P:J)) (f:=λa=>f a*g (i+j-a)) (n:=i+j+1) (j:=i) W λk r s=>by
   show(P:J)∣f k*g (i+j-k);by_cases hc:k<i;exact xbw (c k hc)<|xbZ _ _;exact xbw (p _ W)<|xcK _ _
  have l:=h<|i+j;rw[vt]at l;rw[(W:i+j-i=j)]at e;have o:=xdt l e;rw[show∀x y:J,x-(x-y)=y by intro x y;lia]at o;obtain h5|h5:=Nf hp hn o
  lia;exact h5
def ztU{P:K}(hp:2<=P)(hn:kF P)(h:∀k,(P:J)∣(f*g) k):(∀k,(P:J)∣f k)\/∀k,(P:J)∣g k:=by by_cases c:∀k,(P:J)∣f k;simp_all;have⟨i,h1,d⟩:=zm8<|Classical.not_forall.1 c;exact .inr λk=>IG hp hn h1 (λk e=>Classical.not_not.1<|d k e) h (k+1) k<|xdL k
def Pm.mul(c:Pm f)(i:Pm g):Pm (f*g):=λd hd=>by
 by_cases h1:d=1
 exact h1;have:∃P,2<=P/\kF P/\P∣d:=by
  by_cases h0:d=0
  exact⟨2,rx,λe e1 o=>by have:2*2<=e*e:=xcf e1 e1;lia,by rw[h0];exact⟨0,O⟩⟩;exact zrR d d (Nm d) W
 have⟨P,j,l,n⟩:=this;rcases ztU j l λk=>xbw (xdl.2 n) (hd k)with h|h
 have:=c P h;lia;have:=i P h;lia
def Pm.left(h:Pm (u*v)):Pm u:=λd hd=>h d λk=>by
 exact gk λi _=>xbw (hd i)<|xbZ _ _
def NZ{f:K->J}{d:K}:∀n,(∀k,k<n->d∣(f k).natAbs)->d∣Wz f n
 |0,_=>⟨0,O⟩
 |n+1,h=>Nat.dvd_gcd (NZ n λk c=>h k W)<|h n W
def TT{f:K->J}{c g:K}:∀n,(∀k,k<n->c∣g*(f k).natAbs)->c∣g*Wz f n
 |0,_=>⟨0,O⟩
 |n+1,h=>by
  show c∣g*xdk (Wz f n) (f n).natAbs;rw[<-Nat.gcd_mul_left];exact Nat.dvd_gcd (TT n λk d=>h k W)<|h n W
def r9{n:K}(h:∀k,n<=k->f k=0)(k:K):((Wz f n:K):J)∣f k:=by
 by_cases c:k<n;exact xcm.1<|by skip;exact Eb f n k c
 simp_all
def Pm.ex(p:Fs f)(h0:Nz f):∃(c:K) (g:Pz),c≠0/\Fs g/\Pm g/\f=E c*g:=by
 have⟨n,hn⟩:=p;have h:=r9 hn;have⟨c,hc⟩:∃c,c=Wz f n:=⟨_,O⟩;rw[<-hc]at h;have r:c≠0:=λe=>by
  have⟨j,t⟩:=h0;have:=h j;rw[e]at this;lia
 have i:=Nu<|Cg.of_dvd h;refine⟨c,pdv c f,r,NA ⟨n,hn⟩,λd hd=> ?_,i.symm⟩;have h1:=NZ n λk _=>by
  have l:=WP i k;rw[zY]at l;have o:=xfU (xei c)<|hd k;rw[l]at o;have x:=xcm.2 o;assumption
 rw[<-hc]at h1;have s:c*d∣c*1:=by rw[xeF];exact h1
 exact Nat.dvd_one.1<|Nat.dvd_of_mul_dvd_mul_left W s
def zsy{c:J}(fq:Fs q)(e:Pm q)(i:Fs w)(h:∀k,c∣(w*q) k)(k:K):c∣w k:=by
 by_cases h0:Nz w
 obtain⟨g,v,g0,j,hv,rfl⟩:=Pm.ex i h0;have⟨n,hn⟩:=j.mul fq;have l:=(hv.mul e) _<|r9 hn;have d:=TT n λk _=>by
  have:=xcm.2<|h k;rw[zd,zY,xcw,xaL]at this;exact this
 rw[l,xeF]at d;rw[zY];have o:c∣g:=xcm.1 (by skip;exact d);exact xbw o<|xbZ _ _;rw[Nz.not h0 k];exact xdE c
def Zd.pm{c:J}(fq:Fs q)(i:Pm q)(hc:c≠0)(h:Zd q (E c*v)):Zd q v:=by
 have⟨w,d,e⟩:=h;have h1:=zsy fq i d λk=>by rw[<-e,zY];exact xbZ _ _
 have j:=Nu<|Cg.of_dvd h1;refine⟨pdv c w,NA d,zen hc ?_⟩;rw[e,<-zd,j]
theorem zg0{b:Pz}{m:K}(d:Tp b m):∀(n:K) (a:Pz),(∀k,n<=k->a k=0)->∃(c:J) (q r:Pz),c≠0/\Fs q/\(∀k,m<=k->r k=0)/\E c*a=q*b+r
 |0,a,h=>⟨1,E 0,E 0,rx,Fs.pc 0,λk _=>zS k,uT λk=>by rw[zX,yB,zS,zY,h k W];rfl⟩
 |n+1,a,h=>by
  by_cases hn:n+1<=m;exact⟨1,E 0,a,rx,Fs.pc 0,λk i=>h k W,uT λk=>by rw[zX,yB,zS,xcI,zE]⟩
  have⟨c,q,r,hc,fq,l,j⟩:=zg0 d n (E (b m)*a-mono (n-m) (a n)*b) λk i=>by
   rw[y8,VZ,zY];unfold sh;rw[yg];by_cases e:k=n;grind;rw[h k W,d.2 (k-(n-m)) W];lia
  refine⟨c*b m,q+E c*mono (n-m) (a n),r,xdH hc d.1,fq.add<|(Fs.pc c).mul ⟨n+1,λk i=>zG⟩,l,?_⟩;rw[yV,<-ky,zd (E c) (E<|b m) a,zd (E c) _ b];rw[qx]at j;funext k;have:=WP j k;simp only[zX,y8]at this⊢;lia
def znf(c:Nz a)(e:∀k,b k=0):∃(d s t:Pz) (α β:J),Nz d/\Fs s/\Fs t/\d=s*a+t*b/\α≠0/\β≠0/\Zd d (E α*a)/\Zd d (E β*b):=
 ⟨a,E 1,E 0,1,1,c,Fs.pc 1,Fs.pc 0,uT λk=>by rw[zX,zE,yB,zS,xbY],rx,rx,⟨E 1,Fs.pc 1,O⟩,⟨E 0,Fs.pc 0,uT λk=>by rw[zY,e k,yB,zS];rfl⟩⟩
def ztc:∀(n:K) (a b:Pz),Fs a->Nz a->(∀k,n<=k->b k=0)->∃(d s t:Pz) (α β:J),Nz d/\Fs s/\Fs t/\d=s*a+t*b/\α≠0/\β≠0/\Zd d (E α*a)/\Zd d (E β*b):=by
 intro n
 induction n with
 |zero=>intro a b p l j;exact znf l λk=>j k<|xaf k
 |succ n B=>
  intro a b p l j;by_cases nb:Nz b;have x:Fs b:=⟨n+1,j⟩;have⟨m,y⟩:=Tp.ex x nb;have L:m<=n:=by by_cases h:m<=n;exact h;exact jp (j m W) y.1
  have⟨N,C⟩:=p;have⟨c,q,r,hc,fq,D,z⟩:=zg0 y N a C;have⟨d,s,t,α,β,F,fs,A,hd,i,o,h1,G⟩:=B b r x nb λk M=>D k W;have H:r=E c*a-q*b:=uT λk=>by
   have:=WP z k;simp only[zX,y8]at this⊢;lia
  refine⟨d,t*E c,s-t*q,α*β*c,α,F,A.mul<|Fs.pc c,fs.subt<|A.mul fq,?_,xdH (xdH i o) hc,i,?_,h1⟩;rw[hd,H,qx,ki,<-zd,<-zd];funext k;simp only[zX,y8];lia;have e:E (α*β*c)*a=(E β*q)*(E α*b)+E α*(E β*r):=by rw[<-ky (α*β) c,zd (E<|α*β) (E c) a,z,wI,<-ky α β,zd (E β) q,zF q (E α) b,zF (E β)<|E α,zd (E α)<|E β,zd (E α)<|E β]
  rw[e];exact(h1.mul _<|(Fs.pc β).mul fq).add<|G.mul _<|Fs.pc α;exact znf l<|Nz.not nb
def zrK(k:Fs a)(r:Nz a)(x:Fs b):∃(g s t:Pz) (γ:J),Fs g/\Pm g/\Fs s/\Fs t/\γ≠0/\E γ*g=s*a+t*b/\Zd g a/\Zd g b:=by
 have⟨n,hn⟩:=x;have⟨d,s,t,α,β,y,fs,l,hd,e,h,h1,z⟩:=ztc n a b k r hn;have A:Fs d:=by rw[hd];exact(fs.mul k).add<|l.mul ⟨n,hn⟩
 have⟨c,g,hc,i,j,o⟩:=Pm.ex A y;have p:Zd g d:=⟨E c,Fs.pc c,o⟩;exact⟨g,s,t,c,i,j,fs,l,W,o.symm.trans hd,Zd.pm i j e<|p.trans h1,Zd.pm i j h<|p.trans z⟩
def rk(u:Pz):Prop:=∀k,1<=k->u k=0
def rk.ex(h:rk u):∃c,u=E c:=⟨u 0,uT λk=>by
 unfold E;by_cases e:k=0
 simp_all;rw[S e];exact h k W⟩
def L8{c:J}(h:Pm (E c)):c=1\/c= -1:=by
 have h1:=h c.natAbs λk=>by
  unfold E;split;exact Int.natAbs_dvd.2<|xei _;simp_all
 lia
structure Ir(q:Pz):Prop where
 fs:Fs q
 pm:Pm q
 dg:¬rk q
 ir:∀u v,Fs u->Fs v->q=u*v->rk u\/rk v
def Ir.prime(d:Ir q)(fu:Fs u)(k:Fs v)(h:Zd q (u*v)):Zd q u\/Zd q v:=by
 have⟨g,s,t,γ,l,n,fs,o,i,p,⟨w,r,j⟩,x,fx,y⟩:=zrK d.fs d.pm.nz fu;obtain hc|hc:=d.ir w g r l j
 left;obtain⟨c,rfl⟩:=hc.ex;have z:=(j▸d.pm:Pm (E c*g)).left;refine⟨x*E c,fx.mul<|Fs.pc c,?_⟩;have hd:c*c=1:=by obtain e|e:=L8 z<;>rw[e]<;>rfl
 rw[j,zd,<-zd (E c) (E c) g,ky,hd,zE,y]
 right;obtain⟨c,rfl⟩:=hc.ex;have A:c≠0:=λe=>by
  have:=L8 n;lia
 refine Zd.pm d.fs d.pm (xdH i A) ?_;rw[<-ky,p,yV];refine Zd.add ⟨s*v,fs.mul k,?_⟩ ?_;rw[zd,zd,zo q v];rw[zd];exact h.mul t o
def Po(q:Pz):Prop:=∃n,0<q n/\∀k,n<k->q k=0
def Po.tp(h:Po q):∃n,Tp q n/\0<q n:=by have⟨n,h1,c⟩:=h;exact⟨n,⟨W,c⟩,h1⟩
def Ir.eq{r:Pz}(i:Ir q)(j:Ir r)(o:Po q)(pr:Po r)(h:Zd q r):q=r:=by
 have⟨w,p,d⟩:=h;obtain hc|hc:=j.ir w q p i.fs d
 obtain⟨c,rfl⟩:=hc.ex;have s:=(d▸j.pm:Pm (E c*q)).left;obtain e|e:=L8 s
 rw[d,e,zE];have⟨n,h1,z⟩:=o.tp;have⟨m,t,x⟩:=pr.tp;have l:Tp (E c*q) n:=⟨by rw[zY,e];lia,λk y=>by rw[zY,h1.2 k y,xaA]⟩;rw[<-d]at l;obtain rfl:=l.uniq t;rw[d,zY,e]at x;lia;exact jp hc i.dg
def rk.tp{n:K}(h:Tp u n):rk u↔n=0:=⟨λhc=>xak λe=>h.1 (hc n W),λe k c=>h.2 k W⟩
def Po.or(fu:Fs u)(h:Nz u):Po u\/Po (E (-1)*u):=by have⟨n,hn⟩:=Tp.ex fu h;have:=hn.1;by_cases hp:0<u n;exact .inl ⟨n,hp,hn.2⟩;exact .inr ⟨n,by rw[zY];lia,λk c=>by rw[zY,hn.2 k c,xaA]⟩
def Pm.neg(h:Pm u):Pm (E (-1)*u):=λd hd=>h d λk=>by
 have:=hd k;rw[zY]at this;simp_all
def Ir.neg{u:Pz}(h:Ir u):Ir (E (-1)*u):=by
 refine⟨(Fs.pc _).mul h.fs,h.pm.neg,λhc=>h.dg λk c=> ?_,λa b d i e=> ?_⟩;have:=hc k c;rw[zY]at this;lia;have:u=(E (-1)*a)*b:=by rw[zd,<-e,<-zd,ky];exact(zE u).symm
 rcases h.ir _ b ((Fs.pc _).mul d) i this with hc|hc
 left;intro k c;have:=hc k c;rw[zY]at this;lia;simp_all
def Ir.ex:∀(n:K) {f:Pz}{m:K},m<=n->Tp f m->Pm f->1<=m->∃q,Ir q/\Po q/\Zd q f
 |0,f,m,h,_,_,h1=>by lia
 |n+1,f,m,h,ht,hp,h1=>by
  by_cases hi:Ir f;obtain h2|h2:=Po.or hi.fs hp.nz
  exact⟨f,hi,h2,Zd.refl f⟩;refine⟨_,hi.neg,h2,E (-1),Fs.pc _,?_⟩;rw[<-zd,ky];exact(zE f).symm;have:∃u v,Fs u/\Fs v/\f=u*v/\¬rk u/\¬rk v:=xak λhn=>hi ⟨ht.fs,hp,λhc=>by have:=(rk.tp ht).1 hc;lia,λu v fu c e=>xak λhc=>hn ⟨u,v,fu,c,e,λh=>hc (.inl h),λh=>hc (.inr h)⟩⟩;have⟨u,v,fu,c,e,l,cv⟩:=this;have j:=(e▸hp:Pm (u*v)).left;have hv:Pm v:=by rw[e,zo]at hp;exact hp.left
  have⟨a,d⟩:=Tp.ex fu j.nz;have⟨b,k⟩:=Tp.ex c hv.nz;have i:=(d.mul k);rw[<-e]at i;have i:=i.uniq ht;have hd:b≠0:=λh=>cv<|(rk.tp k).2 h;have p:a≠0:=λh=>l<|(rk.tp d).2 h;have⟨q,q1,q2,o⟩:=Ir.ex n W d j W;exact⟨q,q1,q2,o.trans<|by rw[e];exact Zd.left c⟩
end
section
variable{q f:Pz}{m:wL}{a b:ww Zr}
def Pm.one:Pm (E 1):=λd hd=>by
 have:=hd 0;exact Nat.dvd_one.1<|xdl.1 this
def Pm.pp{q:Pz}(h:Pm q):∀n,Pm (pp q n)
 |0=>Pm.one
 |n+1=>(Pm.pp h n).mul h
def Po.one:Po (E 1):=⟨0,rx,λk c=>by unfold E;rw[zG]⟩
def Ir.one(h:Ir q):¬Zd q (E 1):=λ⟨w,d,e⟩=>by
 have⟨a,c⟩:=Tp.ex h.fs h.pm.nz;have g:Nz w:=xak λhn=>by
  have:=WP e 0;rw[vt,xb λk _=>by rw[Nz.not hn k,xbc]]at this;exact jp this rx
 have⟨b,i⟩:=Tp.ex d g;have h1:=i.mul c;rw[<-e]at h1;have j:=h1.uniq (m:=0) ⟨rx,λk l=>by unfold E;rw[zG]⟩;exact h.dg<|(rk.tp c).2 W
def Mu(q f:Pz)(n:K):Prop:=∃u,Fs u/\f=u*pp q n/\¬Zd q u
def Mu.ex{q:Pz}(c:Ir q)(m:K):∀{f:Pz},Tp f m->∃n,n<=m/\Mu q f n:=by
 induction m using xdz with
 |ind m j=>
  intro f d;by_cases hd:Zd q f
  have⟨u,fu,e⟩:=hd;have l:Nz u:=xak λhn=>by
   refine d.1 ?_;rw[e,vt,xb λk _=>by rw[Nz.not hn k,xbc]]
  have⟨a,g⟩:=Tp.ex fu l;have⟨b,i⟩:=Tp.ex c.fs c.pm.nz;have h1:=g.mul i;rw[<-e]at h1;have h1:=h1.uniq d;have hc:b≠0:=λh=>c.dg<|(rk.tp i).2 h;have⟨n,hn,v,o,p,hv⟩:=j a W g;refine⟨n+1,W,v,o,?_,hv⟩;show f=v*(pp q n*q);rw[e,p,zd];exact⟨0,xaf m,f,d.fs,(yp f).symm,hd⟩
theorem Mu.mul{q f g:Pz}{n m:K}(d:Ir q)(e:Mu q f n)(i:Mu q g m):Mu q (f*g) (n+m):=by
 obtain⟨u,fu,rfl,j⟩:=e;obtain⟨v,c,rfl,hv⟩:=i;refine⟨u*v,fu.mul c,?_,λh=> ?_⟩;rw[Ek,zd,zd,zF<|pp q n];obtain h|h:=d.prime fu c h
 grind;grind
def Mu.lt{n:K}(c:Ir q)(h:Mu q f n)(g:Mu q f m):¬n<m:=λk=>by
 have⟨u,fu,e1,i⟩:=h;have⟨v,e,j,hv⟩:=g;obtain⟨d,rfl⟩:∃d,m=d+1+n:=⟨m-1-n,W⟩;refine i ⟨v*pp q d,e.mul<|c.fs.pp d,?_⟩;refine FT fu ((e.mul<|c.fs.pp d).mul c.fs) (c.fs.pp n) (c.pm.pp n).nz ?_;rw[<-e1,j,Ek,zd<|v*pp q d,zd v];show v*(pp q d*q*pp q n)=_;rw[zd<|pp q d]
def Mu.uniq{n:K}(c:Ir q)(h:Mu q f n)(g:Mu q f m):n=m:=by have:=h.lt c g;have:=g.lt c h;lia
def Mu.zero(c:Fs f)(h:¬Zd q f):Mu q f 0:=⟨f,c,(yp f).symm,h⟩
def Ir.pp{q r:Pz}(c:Ir q)(d:Fs r):∀n,Zd q (pp r n)->Zd q r
 |0,h=>jp h c.one
 |n+1,h=>by
  rcases c.prime (d.pp n) d h with h|h
  exact Ir.pp c d n h;exact h
theorem Ir.prz{q:Pz}(d:Ir q):∀{l:N Pz},(∀r∈l,Fs r)->Zd q (prZ l)->∃r,r∈l/\Zd q r
 |[],_,h=>jp h d.one
 |r::l,hl,h=>by
  rcases d.prime (hl r<|IR) (Fs.prZ λx c=>hl x<|FS _ c) h with h|h
  simp_all;have⟨x,c,h⟩:=Ir.prz d (λx c=>hl x<|FS _ c) h;grind
def prM:N (Pz×K)->Pz
 |[]=>E 1
 |x::r=>pp x.1 x.2*prM r
def MJ:∀{l:N (Pz×K)},(∀x∈l,Fs x.1)->Fs (prM l)
 |[],_=>Fs.pc 1
 |x::r,h=>((h x<|IR).pp _).mul<|MJ λy c=>h y<|FS _ c
def zf6{q:Pz}(c:Ir q)(e:Po q):∀{l:N (Pz×K)},(∀x∈l,Ir x.1/\Po x.1/\q≠x.1)->¬Zd q (prM l)
 |[],_,h=>c.one h
 |x::r,hl,h=>by
  have⟨h1,i,j⟩:=hl x<|IR;have g:=λy d=>hl y<|FS _ d;rcases c.prime (h1.fs.pp _) (MJ λy d=>(g y d).1.fs) h with h|h
  exact j<|c.eq h1 e i<|c.pp h1.fs _ h;exact zf6 c e g h
def mus{f:Pz}(d:Fs f)(g:Nz f):∀{l:N (Pz×K)},l.Pairwise (λx y=>x.1≠y.1)->(∀x∈l,Ir x.1/\Po x.1/\Mu x.1 f x.2)->∃u,Fs u/\f=u*prM l/\∀x∈l,¬Zd x.1 u
 |[],_,_=>⟨f,d,(yp f).symm,λ_ h=>jp h H1⟩
 |x::r,hp,h=>by
  have⟨h1,o,p⟩:=h x<|IR;rw[xdi]at hp;have c:=λy hy=>h y<|FS _ hy;have⟨u,fu,e,s⟩:=mus d g hp.2 c;have t:Nz u:=xak λhn=>by
   have⟨k,v⟩:=g;rw[e,vt,xb λk _=>by rw[Nz.not hn k,xbc]]at v;lia
  have⟨m,z⟩:=Tp.ex fu t;have⟨n,_,hn⟩:=Mu.ex h1 m z;have A:=Mu.zero (MJ λy hy=>(c y hy).1.fs)<|zf6 h1 o λy hy=>⟨(c y hy).1,(c y hy).2.1,hp.1 y hy⟩;have i:=hn.mul h1 A;rw[<-e]at i;obtain rfl:n=x.2:=(i.uniq h1 p);have⟨w,B,j,C⟩:=hn;refine⟨w,B,?_,λy hy=> ?_⟩;show f=w*(pp x.1 x.2*prM r);rw[<-zd,<-j,e];obtain rfl|hy:=xai.1 hy
  exact C;exact λD=>s y hy<|by rw[j,zo];exact D.mul _<|h1.fs.pp _
theorem zmy(o:Fs f)(j:Nz f){l:N (Pz×K)}(hp:l.Pairwise λx y=>x.1≠y.1)(h:∀x∈l,Ir x.1/\Po x.1/\Mu x.1 f x.2)(p:∀q,Ir q->Po q->Zd q f->∃x∈l,x.1=q):∃c,c≠0/\f=E c*prM l:=by
 have⟨u,fu,e,A⟩:=mus o j hp h;have r:Nz u:=xak λhn=>by
  have⟨k,s⟩:=j;rw[e,vt,xb λk _=>by rw[Nz.not hn k,xbc]]at s;lia
 obtain⟨c,g,hc,t,i,rfl⟩:=Pm.ex fu r;have⟨m,n⟩:=Tp.ex t i.nz;by_cases h1:1<=m;have⟨q,q1,q2,v⟩:=Ir.ex m (Nm m) n i h1;have w:Zd q (E c*g):=v.mul _<|Fs.pc _;obtain⟨x,B,rfl⟩:=p q q1 q2 (by rw[e,zo];exact w.mul _<|MJ λy z=>(h y z).1.fs);grind;obtain⟨d,rfl⟩:=((rk.tp n).2 W).ex;refine⟨c*d,xdH W ?_,by rw[e,ky]⟩;have:=L8 i;lia
def Ld(f g:K->J):K->J
 |0=>0
 |n+1=>if f n=g n then Ld f g n else if f n<g n then-1 else 1
theorem TQ(f g:K->J):∀n,Ld g f n= -Ld f g n
 |0=>rfl
 |n+1=>by
  unfold Ld;by_cases h:f n=g n;rw[Q h,Q h.symm];exact TQ f g n;lia
theorem Sv(f g:K->J):∀n,Ld f g n=0->∀k,k<n->f k=g k
 |0,_,k,h=>jp h<|xbb _
 |n+1,h,k,c=>by
  unfold Ld at h;by_cases h1:f n=g n;rw[Q h1]at h;by_cases e:k=n;grind;exact Sv f g n h k W
  lia
def IZ(f g h:K->J):∀n,Ld f g n<=0->Ld g h n<=0->Ld f h n<=0
 |0,_,_=>xfV 0
 |n+1,h1,c=>by
  unfold Ld at h1 c⊢;by_cases e1:f n=g n;rw[Q e1]at h1;by_cases d:g n=h n;rw[Q d]at c;rw[Q<|e1.trans d];exact IZ f g h n h1 c;lia;lia
def JF(a b:N U):J:=if X a=X b then Ld (M a) (M b) (X a) else if X a<X b then-1 else 1
theorem WG(a b:N U):JF b a= -JF a b:=by grind [JF,TQ]
def zcf{c:N U}(h1:JF a b<=0)(d:JF b c<=0):JF a c<=0:=by unfold JF at h1 d⊢;by_cases e1:X a=X b;rw[Q e1]at h1;by_cases e:X b=X c;rw[Q e,<-e1]at d;rw[Q<|e1.trans e];exact IZ _ _ _ _ h1 d;lia;lia
def Dz(d:yu a=a)(e:yu b=b)(h:∀k,M a k=M b k):a=b:=by rw[<-d,<-e];exact Xz (λk c=>ym c) (λk c=>ym c) h
def zeh(c:yu a=a)(d:yu b=b)(h:JF a b=0):a=b:=by unfold JF at h;by_cases e:X a=X b;rw[Q e]at h;have h1:=Sv _ _ _ h;refine Dz c d λk=> ?_;by_cases g:k<X a;simp_all;rw[ym W,ym W];lia
structure FL(f:Pz)(l:N (N U×J)):Prop where
 el:∀x∈l,yu x.1=x.1/\Ir (M x.1)/\Po (M x.1)/\1<=x.2/\Mu (M x.1) f x.2.toNat
 al:∀q,Ir q->Po q->Zd q f->∃x∈l,M x.1=q
 so:l.Pairwise λx y=>JF x.1 y.1<0
end
def ZZ{n:K}{f g:K->uL}{t:uL}(h:∀i,i<n->f i=g i):y7 n f t=y7 n g t:=qO λi hi=>by rw[h i hi]
end Go.Proofs.YtoegnnjcmlghhaaGreat
