/- What is refused of a polynomial, by the program and by the document, for every input. No condition. -/
import Derived.Test.YtmggkmchbdanfaaGreatZf6
set_option linter.all false
namespace Go.Proofs.YtmggkmchbdanfaaGreat
open Bool renaming true->I,false->wL
open Go renaming Value->wN,TypeId->wT,Func->QR,bits->ce
open Go.Proofs.YtmggkmchbdanfaaGreat renaming cf->H,Zr->M,bd->G,za->Y,ci->U,nm->C,cC->B,pc->D,ze->Q,zf->E,nv->A
open List renaming length->X
open Nat renaming beq->F
open Option renaming some->Z,none->wF
open _root_ renaming rfl->O,List->N,Int->J,Nat->K,Option->V,List->xS,Int->wl,Nat->wr,Option->ww,trivial->wR,absurd->wS,Bool->v6,funext->qR,congrArg->kW,if_true->uP,if_false->uS,decide_eq_false->uT,decide_eq_true->Z0,Unit->Z2,True->Z5,of_decide_eq_true->Wf,congrFun->Wr,if_pos->aM,decide_eq_decide->aP
open And renaming intro->xfy
open Bool renaming and_eq_true->xab,false_eq_true->xar
open Classical renaming byContradiction->xai
open DataW renaming TrodAll->xeM
open Int renaming add_zero->xbF,dvd_of_emod_eq_zero->xaF,ediv_mul_cancel->xeW,emod_emod->xaE,emod_eq_of_lt->xaD,emod_eq_zero_of_dvd->xav,eq_ofNat_of_zero_le->xaz,fdiv->xeP,le_of_lt->xdz,le_refl->xft,mul_add->xfs,mul_assoc->xct,mul_comm->xbg,mul_eq_zero->xeK,mul_le_mul_of_nonneg_left->xaU,mul_le_mul_of_nonneg_right->xbn,mul_ne_zero->xeq,mul_nonneg->xcz,mul_one->xck,mul_zero->xaC,natAbs_ediv_le_natAbs->xcc,natAbs_mul->xcK,natAbs_natCast->xbb,natCast_mul->xde,one_mul->xcv,pow_succ->xbr,pow_zero->xbI,sub_zero->xcB,tdiv->xcw,tdiv_eq_ediv_of_nonneg->xcO,tmod->xbE,toNat_natCast->xaN,zero_add->xco,zero_ediv->xef,zero_emod->xah,zero_mul->xaP
open List renaming append_of_mem->xeg,drop_eq_getElem_cons->xcb,drop_eq_nil_of_le->xbW,getD->xdS,getD_eq_getElem?_getD->xaa,getElem?_append_left->xbj,getElem?_append_right->xbz,getElem?_drop->xfa,getElem?_eq_getElem->xak,getElem?_eq_none->xbP,getElem?_replicate->xfb,getElem?_set_self->xdW,getElem?_take->xce,getElem_mem->xcd,length->xaH,length_append->xaq,length_cons->xaw,length_drop->xcf,length_eq_zero_iff->xbv,length_map->xaZ,length_nil->xbR,length_replicate->xaT,length_set->xbt,length_take->xas,map_append->xba,map_cons->xbU,map_map->xcP,mem_append->So,mem_cons->xag,mem_cons_of_mem->UV,mem_cons_self->FS,mem_iff_getElem->xdK,mem_map->xap,mem_map_of_mem->xbK,mem_or_eq_of_mem_set->xcS,mem_replicate->xei,mem_singleton->xad,nil_append->xbH,not_mem_nil->H1,pairwise_iff_forall_sublist->xdl,pairwise_iff_getElem->xcT,pairwise_map->xeN,replicate->Nm,take_add_one->xfq,take_length->xcJ
open Nat renaming add_assoc->xcM,add_comm->xdO,add_mul->xaX,add_sub_cancel->xec,add_zero->xbO,div_add_mod->xbp,eq_zero_or_pos->xbV,le_mul_of_pos_left->xdm,le_mul_of_pos_right->xcm,le_of_lt->xdw,le_of_not_lt->xbs,le_refl->IR,le_trans->xae,lt_of_le_of_lt->xaK,lt_of_lt_of_le->xaj,mod_eq_of_lt->xam,mod_lt->xaM,mul_add->xcj,mul_assoc->xbl,mul_le_mul->xbM,mul_le_mul_left->xaA,mul_le_mul_right->xan,mul_left_comm->xfp,mul_lt_mul''->xdF,mul_lt_mul_of_pos_right->xbT,mul_one->xdn,mul_zero->xcQ,not_lt_zero->xbC,one_mul->xbN,pow_add->xbu,pow_le_pow_right->xau,pow_lt_pow_right->xdJ,pow_mul->xbX,pow_pos->xaV,pow_succ->xbq,pow_zero->xeJ,sub_self->xdb,zero_add->xaJ,zero_le->xac,zero_mul->xcx
open Option renaming getD_some->xeA
open Option.some renaming inj->xdf,injEq->xat
open Prod.mk renaming injEq->xdd
open Value renaming okWide->xes
section
variable{a b K fu bx by_:wr}{x y:wl}
def Bb(b:wr)(x:J):Prop:=x.natAbs<2^b
def Bb.mono(h:Bb a x)(c:a<=b):Bb b x:=xaj h<|xau iI c
def Bb.mul(c:Bb a x)(d:Bb b y):Bb (a+b) (x*y):=by
 unfold Bb at*
 rw[xcK,xbu];by_cases h:y.natAbs=0
 ·rw[h,xcQ];exact Nat.mul_pos (xaV iI)<|xaV iI
 ·exact Nat.mul_lt_mul_of_lt_of_le c (xdw d) W
theorem Bb.sub(c:Bb b x)(d:Bb b y):Bb (b+1) (x-y):=by grind [Bb,xbq]
def Bb.zero(b:wr):Bb b 0:=xaV iI
def Bb.bz(h:Bb b x)(c:b<=64*K):Bz K x:=by
 unfold Bz;rw[(iI:(18446744073709551616:wr)=2^64),<-xbX];exact xaj h<|xau iI c
theorem Bz.bb(h:Bz K x):Bb (64*K) x:=by grind [Bb,Bz,xbX]
def Bb.le(c:Bb b y)(h:x.natAbs<=y.natAbs):Bb b x:=xaK h c
def Bb.pow{b:wr}{x:J}(h:Bb b x):∀n,Bb (n*b+1) (x^n)
 |0=>by rw[xbI];unfold Bb;rw[xcx];decide
 |n+1=>by
  rw[xbr,xaX,xbN,Nat.add_right_comm];exact(Bb.pow h n).mul h
def Bb.pow'{b:wr}{x y:J}{c:wr}(h:Bb b x)(d:Bb c y):∀n,Bb (n*b+c) (x^n*y)
 |0=>by rw[xbI,xcv,xcx,xaJ];exact d
 |n+1=>by
  rw[xbr,Int.mul_right_comm,xaX,xbN,Nat.add_right_comm];exact(Bb.pow' h d n).mul h
def AK{n:wr}{a:J}(hn:n<=65536)(c:∀d,d<=n->Bz K (a^d))(h1:Bz K a)(g:K<=40000)(e:3000000<=fu):Q6 fu (ya a) (n:J)=Z (ya<|a^n):=by
 unfold Q6;rw[Y (yq iI),Y (v:=ya<|a^n)];refine zw (λs:J×M=>∃i:wr,s=((i:J),ya<|a^i)/\i<=n) (λs=>n-s.1.toNat) _ ?_ _ _ ⟨0,by rw[xbI];rfl,xac _⟩ (by show n-0<fu;lia);rintro s L ⟨i,rfl,hi⟩ f;unfold gx;simp only;by_cases h:i<n
 ·rw[zP,Y<|yB ((c i hi).ok W) (h1.ok W) e,zn,zn,zb,<-xbr];exact f _ ⟨i+1,O,W⟩ (by show n-((i:J)+1).toNat<n-(i:J).toNat;lia)
 ·rw[zA];obtain rfl:i=n:=W
  rfl
structure PsI(x y:Pz)(l:J)(ly n bx by_ k:wr)(Q ρ:Pz):Prop where
 fq:Fs Q
 eq:D (l^(n-k))*x=Q*y+ρ
 z:∀j,k+(ly-1)<=j->ρ j=0
 b:∀j,Bb (bx+(n-k)*(by_+1))<|ρ j
def PsI.step{x y:Pz}{l:J}{c n k:wr}{Q d:Pz}(h:PsI x y l c n bx by_ (k+1) Q d)(o:k+1<=n)(g:Tp y (c-1))(hl:y (c-1)=l)(f:∀j,Bb by_<|y j):
 PsI x y l c n bx by_ k (D l*Q+mono k (d<|k+(c-1))) (λj=>l*d j-d (k+(c-1))*sh y k j):=by
 have e1:n-k=n-(k+1)+1:=W
 have i:bx+(n-k)*(by_+1)=by_+(bx+(n-(k+1))*(by_+1))+1:=by rw[e1,xaX];lia
 refine⟨((Fs.pc l).mul h.fq).add ⟨k+1,λj m=>zA⟩,?_,λj m=> ?_,λj=> ?_⟩
 ·rw[e1,xbr,xbg,<-kH,zd,h.eq,xg,ym,zd];funext j;rw[zI,zI,zI,qI,zS l d];show _=_+_+(l*d j-d (k+(c-1))*sh y k j);lia
 ·show l*d j-d (k+(c-1))*sh y k j=0;unfold sh;rw[zP];by_cases e:j=k+(c-1)
  ·rw[e,(W:k+(c-1)-k=c-1),hl,xbg];lia
  ·rw[h.z j W,g.2 _ W];lia
 ·rw[i];refine Bb.sub ((show Bb by_ l by rw[<-hl];exact f _).mul<|h.b j) ?_;rw[xdO by_];refine(h.b _).mul ?_;unfold sh;split
  ·exact f _
  ·exact Bb.zero _
def zeY{n:wr}{l:N M}(j:wr):H (Nm n (wL,[])++l) j=sh (H l) n j:=by
 unfold sh;by_cases h:n<=j
 ·rw[iq h];unfold H;rw[xaa,xbz (by rw[xaT];exact h),xaT,<-xaa]
 ·rw[ir h];unfold H;rw[xaa,xbj (by rw[xaT];lia),xfb];rw[zP];rfl
def tc{x y:N M}(hx:zZ x=x)(u:zZ y=y)(hl:X y<=X x)(hH:0<X y)(hJ:X x<=60)(bX:∀j,Bb bx<|H x j)(E:∀j,Bb by_<|H y j)(hT:bx+(X x-X y+1)*(by_+1)<=2400000)(o:3000000<=fu):
 ∃q r c Q,Yl fu x y=Z (q,r,0)/\zZ r=r/\X r<X y/\c≠0/\Fs Q/\(D c*H x:Pz)=Q*H y+H r/\∀j,Bb (bx+(X x-X y+1)*(by_+1)) (H r j):=by
 obtain⟨n,hn⟩:∃n,n=X x-X y+1:=⟨_,O⟩;rw[<-hn]at hT⊢;obtain⟨T,hK⟩:∃T,T=bx+n*(by_+1):=⟨_,O⟩;have ty:Tp (H y) (X y-1):=by
  have:=YD (a:=y) (by rw[u];lia);rwa[u]at this
 obtain⟨l,F⟩:∃l,l=H y (X y-1):=⟨_,O⟩;have v:l≠0:=by rw[F];exact ty.1
 have m:Bb by_ l:=by rw[F];exact E _
 have hi:∀d,d<=n->d*(by_+1)<=n*(by_+1):=λd hd=>xan _ hd;have hm:∀d:wr,d*(by_+1)=d*by_+d:=λd=>by rw[xcj,xdn]
 have hL:by_+1<=T:=by have:=hi 1 W;rw[xbN]at this;lia
 have oX:yI 37500 x:=by rw[<-hx];exact yE λj=>(bX j).bz W
 have oY:yI 37500 y:=by rw[<-u];exact yE λj=>(E j).bz W
 have A:∀d,d<=n->Bz 37501 (l^d):=λd hd=>(Bb.pow m d).bz (by have:=hi d hd;have:=hm d;lia);have B:∀d,d<=n->∀z,Bb (bx+(n-d)*(by_+1)) z->Bb T (l^d*z):=λd hd z hz=>(Bb.pow' m hz d).mono (by
  have h1:=hm d;have h2:n*(by_+1)=d*(by_+1)+(n-d)*(by_+1):=by rw[<-xaX];congr 1;lia
  lia)
 have hA:y.getD (X y-1) (wL,[])=ya l:=by rw[F];exact U5 (show y=xJ (X y) (H y)from u.symm)
 obtain⟨r0,G⟩:∃r0,r0=xJ (X x) (λj=>H x j*l^n):=⟨_,O⟩;have hq:∀j,H r0 j=l^n*H x j:=λj=>by rw[G,jz (λj P=>by rw[zX P,xaP]),xbg]
 obtain⟨s,hs,r,q,rfl,i,Q,r1,r2,R,r4⟩:=yr (f:=V7 fu<|ya l) (λs:N M×N M×J×N M=>∃(k:wr) (r q:N M),s=(y,r,(k:J)-1,q)/\k<=n/\zZ r=r/\X r<=X x+60*(n-k)/\X q=n/\yI 37500 q/\∃Q i,PsI (H x) (H y) l (X y) n bx by_ k Q i/\∀j,H r j=l^k*i j) (λs=>(s.2.2.1+1).toNat)
  (λt=>∃(r q:N M),t=(r,q)/\∃i Q,zZ r=r/\(X q=n/\yI 37500 q)/\PsI (H x) (H y) l (X y) n bx by_ 0 Q i/\∀j,H r j=i j) (by
  rintro s L ⟨k,r,q,rfl,hk,S,hM,ho,hp,Q,i,p,hc⟩ ih
  unfold V7
  simp only
  cases k with
  |zero=>
   rw[zA]
   exact⟨_,O,r,q,O,i,Q,S,⟨ho,hp⟩,p,λj=>by rw[hc j,xbI,xcv]⟩
  |succ k=>
   have hG:60*(n-(k+1))+60=60*(n-k):=W
   have hN:60*(n-k)<=60*60:=xaA _ W
   have ht:=p.step hk ty F.symm E
   have bR:∀j,Bb T (H r j):=λj=>by rw[hc j];exact B (k+1) hk _<|p.b j
   have oR:yI 37500 r:=by rw[<-S];exact yE λj=>(bR j).bz W
   rw[(W:((k+1:wr):J)-1=(k:J)),zP,zb]
   by_cases hO:X r<k+X y
   ·have hB:i (k+(X y-1))=0:=by
     have h1:=hc<|k+(X y-1);rw[zX W]at h1;obtain h2|h2:=xeK.1 h1.symm
     ·exact wS h2<|Int.pow_ne_zero v
     ·exact h2
    rw[zP,zb]
    refine ih _ ⟨k,r,q,O,W,S,W,ho,hp,_,_,ht,λj=> ?_⟩ (by show((k:J)-1+1).toNat<(((k+1:wr):J)-1+1).toNat;lia)
    show H r j=l^k*(l*i j-i (k+(X y-1))*sh (H y) k j)
    rw[hB,xaP,xcB,hc j,xbr,xct]
   ·have hC:X r=k+X y:=by
     by_cases e:X r=k+X y
     ·exact e
     ·exfalso;have h1:=YA (show r=xJ (X r) (H r)from S.symm) W;rw[hc,p.z _ W,xaC]at h1;exact h1 O
    obtain⟨w,U⟩:∃w,w=i (k+(X y-1)):=⟨_,O⟩
    have hD:H r (k+(X y-1))=l^k*w*l:=by rw[hc,<-U,xbr,Int.mul_right_comm]
    have bw:Bb T (l^k*w):=by
     refine B k W w ((p.b _).mono ?_|>λh=>by rw[U];exact h);have:=hi (n-(k+1)) W;have h3:(n-k)*(by_+1)=(n-(k+1))*(by_+1)+(by_+1):=by rw[(W:n-k=n-(k+1)+1),xaX,xbN]
     lia
    have a0:∀j,Bb T (H y j*(l^k*w)):=λj=>by
     have h1:Bb (by_+(k*by_+(bx+(n-(k+1))*(by_+1)))) (H y j*(l^k*w)):=(E j).mul<|Bb.pow' m (by rw[U];exact p.b _) k;refine h1.mono ?_;have h2:n*(by_+1)=(k+1)*(by_+1)+(n-(k+1))*(by_+1):=by rw[<-xaX];congr 1;lia
     have h3:=hm<|k+1;rw[xaX k 1 by_,xbN]at h3;lia
    have hE:exE (l^k*w*l) l=0:=by unfold exE;rw[ir v,iq<|Int.mul_emod_left _ _]
    have hX:exI (l^k*w*l) l=l^k*w:=by unfold exI;rw[ir v,iq<|Int.mul_emod_left _ _,Int.mul_ediv_cancel _ v]
    rw[zA,zb,(W:(k:J)+(X y:J)-1=((k+(X y-1):wr):J)),zb,yj,ze,Y<|VW (oR.okS iI _) ((m.bz (K:=37500) W).okS iI) o,YI,zn,hD,hX,hE]
    simp only
    have hu:(q.set k<|ya<|l^k*w).getD k (wL,[])=ya (l^k*w):=by rw[xaa,xdW W];rfl
    rw[yj,ze,yJ,yL,ze,zp (by rw[xbt];lia),ze,hu,Y<|ks (l:=37500) oY ⟨yo _,(bw.bz (K:=37500) W).len⟩ iI W o,zn]
    obtain⟨g,V⟩:∃g,g=xJ (X y) (λj=>H y j*(l^k*w)):=⟨_,O⟩
    have hF:∀j,H g j=H y j*(l^k*w):=λj=>by rw[V,jz<|λj P=>by rw[zX P,xaP]]
    have hP:X g<=X y:=by rw[V,xv];exact vT _ _
    have a1:yI 37500 g:=by rw[V];exact yE λj=>(a0 j).bz W
    have C:yI 37500 (Nm k (wL,[])++g):=λz hz=>by
     obtain hz|hz:=So.1 hz
     ·rw[(xei.1 hz).2];exact⟨zm.nil,xac _⟩
     ·exact a1 z hz
    rw[<-V,xr (by rw[xaT];lia),ze,Y<|Zb oR C iI W (by rw[xaq,xaT];lia) o,zb]
    refine ih _ ⟨k,_,_,O,W,(qc _ _).symm,?_,by rw[xbt];exact ho,?_,_,_,ht,λj=> ?_⟩ (by show((k:J)-1+1).toNat<(((k+1:wr):J)-1+1).toNat;lia)
    ·have:=U2 r<|Nm k (wL,[])++g
     rw[xaq,xaT]at this
     lia
    ·intro z hz
     obtain h1|h1:=xcS hz
     ·exact hp z h1
     ·rw[h1];exact⟨yo _,(bw.bz (K:=37500) W).len⟩
    ·rw[BK,zeY,hc j]
     show l^(k+1)*i j-sh (H g) k j=l^k*(l*i j-i (k+(X y-1))*sh (H y) k j)
     rw[<-U]
     have e2:sh (H g) k j=l^k*(w*sh (H y) k j):=by
      unfold sh;split
      ·rw[hF,xbg,xct]
      ·rw[xaC,xaC]
     rw[e2,xbr,Int.mul_sub,xct]) fu (y,r0,(n:J)-1,Nm n (wL,[])) ⟨n,r0,_,O,IR _,by rw[G];exact(qc _ _).symm,by rw[G,xv];have:=vT (λj=>H x j*l^n) (X x);lia,xaT,λz hz=>by rw[(xei.1 hz).2];exact⟨zm.nil,xac _⟩,D 0,H x,⟨Fs.pc 0,by
    rw[xdb,xbI,zC,zQ];exact qR λj=>by rw[zI,zH,xco],λj P=>zX W,λj=>by rw[xdb,xcx];exact bX j⟩,hq⟩ (by show((n:J)-1+1).toNat<fu;lia)
 refine⟨xJ (X q)<|H q,r,l^n,Q,?_,r1,?_,Int.pow_ne_zero v,R.fq,?_,λj=>by rw[r4 j];exact R.b j⟩
 ·unfold Yl;have hv:max ((X x:J)-X y+1) 0=(n:J):=W
  rw[Y<|zM oX iI W o,Y<|zM oY iI W o,show xJ (X x) (H x)=x from hx,show xJ (X y) (H y)=y from u,zA,zb,zb,ze,hv,(W:(X y:J)-1=((X y-1:wr):J)),zb,yj,ze,hA,Y<|AK W A ((m.bz (K:=37501) W)) iI o,Y<|ks (l:=37501) oX ⟨yo _,(A n<|IR _).len⟩ iI W o,zn,<-G,yJ,yL,ze,zb,Y hs];simp only;rw[Y<|zM r2.2 iI W o]
 ·by_cases e:X r=0
  ·lia
  ·have h1:=YA (show r=xJ (X r) (H r)from r1.symm) e;by_cases h2:X r<X y
   ·exact h2
   ·rw[r4,R.z _ W]at h1;exact wS O h1
 ·have:=R.eq;rw[Nat.sub_zero]at this;rw[this,show(H r:Pz)=i from qR r4]
end
section
def fac:K->J
 |0=>1
 |n+1=>((n+1:K):J)*fac n
def Ys:∀n,0<fac n
 |0=>by decide
 |n+1=>Int.mul_pos W<|Ys n
def ip(n:K)(f g:Pz):J:=yp (n+1) λs=>fac s*fac (n-s)*(f s*g s)
theorem QS(n:K)(f g:Pz):ip n f g=ip n g f:=yu λs _=>by rw[xbg<|f s]
theorem S7(n:K)(f g h:Pz):ip n (f+g) h=ip n f h+ip n g h:=by
 unfold ip;rw[<-Xt];exact yu λs _=>by rw[zI,Int.add_mul,xfs]
def BQ(n:K)(f g h:Pz):ip n h (f+g)=ip n h f+ip n h g:=by grind [QS,S7]
def OB(n:K)(c:J)(f h:Pz):ip n (D c*f) h=c*ip n f h:=by
 unfold ip;rw[<-uR];exact yu λs _=>by rw[zS,xct c<|f s,Int.mul_left_comm]
def tK(n:K)(c:J)(f h:Pz):ip n h (D c*f)=c*ip n h f:=by rw[QS,OB,QS]
def Mg{f:K->J}:∀{n},(∀k,k<n->0<=f k)->0<=yp n f
 |0,_=>xft 0
 |n+1,h=>Int.add_nonneg (Mg λk a=>h k W)<|h n W
def zlr(n:K)(f:Pz):0<=ip n f f:=Mg λs _=>xcz (xcz (xdz<|Ys _)<|xdz<|Ys _)<|YV _
def xP:Pz:=mono 1 1
def zpG(f:Pz):(xP*f) 0=0:=by
 unfold xP;rw[qI];rfl
def zoZ(f:Pz)(k:K):(xP*f) (k+1)=f k:=by simp_all [sh,xP,qI]
def adx(n:K)(f g:Pz):ip (n+1) (xP*f) g=ip n f (dvp g):=by
 unfold ip;rw[Zc,zpG,xaP,xaC,xco];refine yu λs a=> ?_;rw[zoZ,(W:n+1-(s+1)=n-s)];show((s+1:K):J)*fac s*fac (n-s)*(f s*g (s+1))=fac s*fac (n-s)*(f s*(((s+1:K):J)*g (s+1)));grind
def dy(n:K)(f:Pz):Pz:=D (n:J)*f-xP*dvp f
def RF(n:K)(f:Pz)(k:K):dy n f k=((n:J)-k)*f k:=by
 unfold dy;rw[yY,zS]
 cases k with
 |zero=>rw[zpG];grind
 |succ k=>
  rw[zoZ];show n*f (k+1)-((k+1:K):J)*f (k+1)=_;grind
def ady(n:K)(f g:Pz)(a:f (n+1)=0):ip (n+1) f g=ip n f (dy (n+1) g):=by
 show yp (n+1) _+fac (n+1)*fac (n+1-(n+1))*(f (n+1)*g (n+1))=_;rw[a,xaP,xaC,xbF];refine yu λs b=> ?_;rw[RF,(W:n+1-s=(n-s)+1)];show fac s*(((n-s+1:K):J)*fac (n-s))*(f s*g s)=_;grind
def eul(n:K)(f:Pz):D (n:J)*f=xP*dvp f+dy n f:=by
 unfold dy;funext k;rw[zI,yY];lia
def znR(n m:K)(f g:Pz):dy (n+m) (f*g)=dy n f*g+f*dy m g:=by
 have h1:D ((n+m:K):J)*(f*g)=D n*f*g+f*(D m*g):=by
  rw[zB f,zd];funext k;rw[zI,zS,zS,zS];grind
 have a:xP*(dvp f*g+f*dvp g)=xP*dvp f*g+f*(xP*dvp g):=by rw[xg,zd,zB f]
 unfold dy;rw[QV,h1,a,qw,vL];funext k;simp only[zI,yY];lia
def zgZ(n:K)(f:Pz):dvp (dy (n+1) f)=dy n (dvp f):=qR λk=>by
 rw[RF];show((k+1:K):J)*dy (n+1) f (k+1)=(n-k)*(((k+1:K):J)*f (k+1));rw[RF];grind
def Dg(n:K)(f:Pz):Prop:=∀k,n<k->f k=0
def Dg.dx{n:K}{f:Pz}(h:Dg (n+1) f):Dg n (dvp f):=λk a=>by
 show((k+1:K):J)*f (k+1)=0;rw[h _ W,xaC]
def Dg.dy{n:K}{f:Pz}(h:Dg (n+1) f):Dg n (dy (n+1) f):=λk a=>by
 rw[RF];by_cases e:k=n+1
 ·simp_all
 ·rw[h k W,xaC]
def Dg.mul{n m:K}{f g:Pz}(a:Dg n f)(b:Dg m g):Dg (n+m) (f*g):=λk d=>kf (n:=n+1) (m:=m+1) (λj c=>a j W)<|λj c=>b j W
def Dg.add{n:K}{f g:Pz}(b:Dg n f)(c:Dg n g):Dg n (f+g):=λk a=>by rw[zI,b k a,c k a];rfl
def Dg.num{f:Pz}(h:Dg 0 f):f=D (f 0):=qR λk=>by
 unfold D;by_cases e:k=0
 ·simp_all
 ·rw[ir e,h k W]
section
variable(a:wr)(u:Pz)
def zlk{m b q0:K}{v p q:Pz}(hp:Dg (m+1) p)(c:Dg a u)(e:b+q0=m+1+a):
 ((m+1:K):J)*ip (m+1+a) (p*u) (v*q)=ip (m+a) (dvp p*u) (dvp v*q)+ip (m+a) (dy (m+1) p*u) (dy b v*q)+(ip (m+a) (dvp p*u) (v*dvp q)+ip (m+a) (dy (m+1) p*u) (v*dy q0 q)):=by
 rw[<-OB,<-zd,eul,ym,S7,zd,(W:m+1+a=m+a+1),adx,ady _ _ _ (hp.dy.mul c _ W),QV,BQ,(W:m+a+1=b+q0),znR,BQ];lia
def Fk:K->K->K->Pz->Pz->Pz->J
 |0,b,_,v,p,q=>ip (b+a) (p*u)<|v*q
 |k+1,b,c,v,p,q=>Fk k (b-1) (c-1) v (dvp p) (dvp q)+Fk k (b-1) (c-1) v (dy b p) (dy c q)
def MU(c:Dg a u):∀(k:K) {m b q0:K}{v p q:Pz},k<=m->m<=q0->b+(q0+1)=m+1+a->Dg (m+1) p->
 ((m+1:K)-(k:J))*Fk a u k (m+1) (q0+1) v p q=Fk a u k m (q0+1) (dvp v) (dvp p) q+Fk a u k m (q0+1) (dy b v) (dy (m+1) p) q+Fk a u (k+1) (m+1) (q0+1) v p q
 |0,m,b,q0,v,p,q,_,_,e,hp=>by
  have:=zlk a u (v:=v) (q:=q) hp c e;assumption
 |k+1,0,_,_,_,_,_,h,_,_,_=>by lia
 |k+1,m+1,b,0,_,_,_,_,h,_,_=>by lia
 |k+1,m+1,b,q0+1,v,p,q,h1,d,e,hp=>by
  have i1:=MU c k (b:=b) (q0:=q0) (v:=v) (q:=dvp q) W W W hp.dx;have i2:=MU c k (b:=b) (q0:=q0) (v:=v) (q:=dy (q0+1+1) q) W W W hp.dy;rw[zgZ]at i2;show((m+1+1:K)-((k+1:K):J))*(Fk a u k (m+1) (q0+1) v (dvp p) (dvp q)+Fk a u k (m+1) (q0+1) v (dy (m+1+1) p) (dy (q0+1+1) q))=Fk a u k m (q0+1) (dvp v) (dvp<|dvp p) (dvp q)+Fk a u k m (q0+1) (dvp v) (dy (m+1)<|dvp p) (dy (q0+1+1) q)+(Fk a u k m (q0+1) (dy b v) (dvp<|dy (m+1+1) p) (dvp q)+Fk a u k m (q0+1) (dy b v) (dy (m+1)<|dy (m+1+1) p) (dy (q0+1+1) q))+(Fk a u (k+1) (m+1) (q0+1) v (dvp p) (dvp q)+Fk a u (k+1) (m+1) (q0+1) v (dy (m+1+1) p) (dy (q0+1+1) q));rw[zgZ,(W:((m+1+1:K)-((k+1:K):J))=((m+1:K)-(k:J))),xfs];lia
def pD:K->K->Pz->Pz->Pz
 |0,_,p,q=>p*q
 |k+1,b,p,q=>pD k (b-1) (dvp p) (dvp q)+pD k (b-1) (dy (k+1) p) (dy b q)
def zhh:∀(k:K) {b:K}{v p q:Pz},Dg k p->Fk a u k k b v p q=ip a u (v*pD k b p q)
 |0,b,v,p,q,h=>by
  show ip (0+a) (p*u) (v*q)=ip a u (v*(p*q));rw[h.num,xaJ,OB,zB,tK]
 |k+1,b,v,p,q,h=>by
  show Fk a u k k (b-1) v (dvp p) (dvp q)+Fk a u k k (b-1) v (dy (k+1) p) (dy b q)=ip a u (v*(pD k (b-1) (dvp p) (dvp q)+pD k (b-1) (dy (k+1) p) (dy b q)));rw[zhh k h.dx,zhh k h.dy,xg,BQ]
end
def zgh:∀(k:K) {d:K}{p q:Pz},Dg k p->Dg (k+d) q->Dg d (pD k (k+d) p q)
 |0,d,p,q,hp,a=>by
  have:=hp.mul a;rw[xaJ,xaJ]at this;exact this
 |k+1,d,p,q,hp,a=>by
  rw[(W:k+1+d=k+d+1)]at a⊢;exact(zgh k hp.dx a.dx).add<|zgh k hp.dy a.dy
def ziz:∀(k:K) {d:K}{p q g:Pz},Dg k p->Dg d g->fac k*ip (k+d) q (p*g)=ip d (pD k (k+d) p q) g
 |0,d,p,q,g,hp,a=>by
  show 1*ip (0+d) q (p*g)=ip d (p*q) g;rw[hp.num,xcv,xaJ,tK,OB]
 |k+1,d,p,q,g,hp,a=>by
  have i1:=ziz k (q:=dvp q) hp.dx a;have i2:=ziz k (q:=dy (k+d+1) q) hp.dy a;rw[(W:k+1+d=k+d+1)];show((k+1:K):J)*fac k*ip (k+d+1) q (p*g)=ip d (pD k (k+d+1-1) (dvp p) (dvp q)+pD k (k+d+1-1) (dy (k+1) p) (dy (k+d+1) q)) g;rw[xec,S7,<-i1,<-i2,xbg _<|fac k,xct,<-tK,<-zd,eul,ym,BQ,zd,QS _ q,adx,QS _ q,ady _ _ _ (hp.dy.mul a _ W),xfs,QS _<|dvp q,QS _<|dy _ q]
def Sz{a:K}{u:Pz}(e:Dg a u):∀(b:K) {v:Pz},Dg b v->b<=a->∀(j k:K),k+j=b->0<=Fk a u k b a v v u
 |b,v,hv,f,0,k,h=>by
  obtain rfl:k=b:=W
  obtain⟨d,rfl⟩:∃d,a=k+d:=⟨a-k,W⟩;have h1:=ziz k (d:=d) (q:=u) (g:=pD k (k+d) v u) hv<|zgh k hv e;rw[zhh _ _ k hv];have i:=zlr d<|pD k (k+d) v u;rw[<-h1]at i;exact Int.nonneg_of_mul_nonneg_right i<|Ys k
 |0,v,hv,f,j+1,k,h=>by lia
 |b+1,v,hv,f,j+1,k,h=>by
  obtain⟨c,rfl⟩:∃c,a=c+1:=⟨a-1,W⟩;have h1:=MU (c+1) u e k (m:=b) (b:=b+1) (q0:=c) (v:=v) (p:=v) (q:=u) W W W hv;have i:=Sz e b hv.dx W j k W;have n:=Sz e b hv.dy W j k W;have o:=Sz e (b+1) hv f j (k+1) W;have l:0<=((b+1:K)-(k:J))*Fk (c+1) u k (b+1) (c+1) v v u:=by rw[h1];lia
  exact Int.nonneg_of_mul_nonneg_right l W
def zqf{u:Pz}(h:Dg 0 u):dvp u=D 0:=qR λk=>by
 rw[zH];show((k+1:K):J)*u (k+1)=0;rw[h _ W,xaC]
def zrG{u:Pz}(h:Dg 0 u):dy 0 u=D 0:=qR λk=>by
 rw[zH,RF];by_cases e:k=0
 ·simp_all
 ·rw[h k W,xaC]
def zqu{a b:K}{u v:Pz}(c:Dg a u)(hv:Dg (b+1) v):0<=ip (b+a) (dvp v*u) (v*dvp u)+ip (b+a) (dy (b+1) v*u) (v*dy a u):=by
 by_cases h:b+1<=a
 ·exact Sz c (b+1) hv h b 1 W
 ·cases a with
  |zero=>
   rw[zqf c,zrG c,zk v,tK,tK];lia
  |succ a=>
   have:=Sz hv (a+1) c W a 1 W;have this:0<=ip (a+(b+1)) (dvp u*v) (u*dvp v)+ip (a+(b+1)) (dy (a+1) u*v) (u*dy (b+1) v):=this;rw[QS,QS _<|dy (a+1) u*v,zk u,zk<|dvp u,zk u,zk<|dy (a+1) u,(W:a+(b+1)=b+(a+1))]at this;lia
def zpD{a:K}{u:Pz}(c:Dg a u):∀(b:K) {v:Pz},Dg b v->fac b*(v b*v b)*ip a u u<=ip (b+a) (v*u) (v*u)
 |0,v,hv=>by
  rw[hv.num,OB,tK,xaJ];show 1*(D (v 0) 0*D (v 0) 0)*ip a u u<=v 0*(v 0*ip a u u);have e:D (v 0) 0=v 0:=O;rw[e,xcv,xct];lia
 |b+1,v,hv=>by
  have h1:=zlk a u (b:=b+1) (q0:=a) (v:=v) (q:=u) hv c O;have f:=zqu c hv;have g:=zlr (b+a)<|dy (b+1) v*u;have d:=zpD c b hv.dx;have e:dvp v b=((b+1:K):J)*v (b+1):=O;rw[e]at d;have h:((b+1:K):J)*(fac (b+1)*(v (b+1)*v (b+1))*ip a u u)=fac b*(((b+1:K):J)*v (b+1)*(((b+1:K):J)*v (b+1)))*ip a u u:=by
   show((b+1:K):J)*(((b+1:K):J)*fac b*(v (b+1)*v (b+1))*ip a u u)=_;grind
  refine Int.le_of_mul_le_mul_left (a:=((b+1:K):J)) ?_ W;lia
def Cv:∀(m n:K),fac (m+n)<=2^(m+n)*(fac m*fac n)
 |0,n=>by
  rw[xaJ];show fac n<=2^n*(1*fac n);rw[xcv];have:=xbn (show(1:J)<=2^n from Int.pow_pos iI)<|xdz<|Ys n;lia
 |m+1,0=>by
  show fac (m+1)<=2^(m+1)*(fac (m+1)*1);rw[xck];have:=xbn (show(1:J)<=2^(m+1)from Int.pow_pos iI)<|xdz<|Ys<|m+1;lia
 |m+1,n+1=>by
  have i1:=xaU (Cv m<|n+1) (W:(0:J)<=((m+1:K):J));have i2:=xaU (Cv (m+1) n) (W:(0:J)<=((n+1:K):J));rw[(W:m+(n+1)=m+n+1)]at i1;rw[(W:m+1+n=m+n+1)]at i2;rw[(W:m+1+(n+1)=m+n+1+1)];have e1:fac (m+n+1+1)=((m+1:K):J)*fac (m+n+1)+((n+1:K):J)*fac (m+n+1):=by
   show((m+n+1+1:K):J)*fac (m+n+1)=_;rw[<-Int.add_mul];congr 1;lia
  have a:(2:J)^(m+n+1+1)*(fac (m+1)*fac (n+1))=((m+1:K):J)*(2^(m+n+1)*(fac m*fac (n+1)))+((n+1:K):J)*(2^(m+n+1)*(fac (m+1)*fac n)):=by
   rw[xbr];have f1:fac (m+1)=((m+1:K):J)*fac m:=O;have f2:fac (n+1)=((n+1:K):J)*fac n:=O;rw[f1,f2];generalize((m+1:K):J)=x;generalize((n+1:K):J)=y;generalize(2:J)^(m+n+1)=z;grind
  rw[e1,a];lia
def zgB:∀(m n:K),fac m*fac n<=fac (m+n)
 |0,n=>by
  rw[xaJ];show 1*fac n<=fac n;lia
 |m+1,n=>by
  rw[(W:m+1+n=m+n+1)];show((m+1:K):J)*fac m*fac n<=((m+n+1:K):J)*fac (m+n);have h1:=zgB m n;have a:=xaU h1 (W:0<=((m+1:K):J));have b:=xbn (W:((m+1:K):J)<=((m+n+1:K):J))<|xdz<|Ys<|m+n;grind
def Ih{f g:K->J}:∀{n},(∀k,k<n->f k<=g k)->yp n f<=yp n g
 |0,_=>xft 0
 |n+1,h=>Int.add_le_add (Ih λk a=>h k W)<|h n W
def RY{f:K->J}{j:K}:∀{n},(∀k,k<n->0<=f k)->j<n->f j<=yp n f
 |0,_,h=>wS h<|xbC _
 |n+1,h,b=>by
  have h1:=Mg λk (a:k<n)=>h k W;have c:=h n W;show f j<=yp n f+f n;by_cases e:j=n
  ·grind
  ·have:=RY (λk a=>h k W) (W:j<n);lia
def mig{f u v:Pz}{a b:K}(g:Tp u a)(hv:Tp v b)(e:f=u*v)(k:K):(v b*u k)*(v b*u k)<=4^(a+b)*iJ f (a+b+1):=by
 have c:=mQ f<|a+b+1;by_cases x:k<=a
 ·have h1:=zpD (a:=a) (u:=u) g.2 b (v:=v) hv.2;have j:fac k*fac (a-k)*(u k*u k)<=ip a u u:=RY (f:=λs=>fac s*fac (a-s)*(u s*u s)) (λs _=>xcz (xcz (xdz<|Ys _)<|xdz<|Ys _)<|YV _) W;have y:ip (b+a) (v*u) (v*u)<=fac (b+a)*iJ f (a+b+1):=by
   rw[zk,<-e,xdO b a];unfold ip iJ;rw[<-uR];refine Ih λs z=>xbn ?_<|YV _;have:=zgB s<|a+b-s;rwa[(W:s+(a+b-s)=a+b)]at this
  have l:=Cv b a;have h:=Cv k<|a-k;rw[(W:k+(a-k)=a)]at h;have d:=Ys b;have pw:(0:J)<2^(b+a):=Int.pow_pos iI;have m:=Int.mul_pos (Ys k)<|Ys<|a-k;have o:=YV<|v b;generalize fac k*fac (a-k)=X at*
  have g1:=xaU j (show 0<=fac b*(v b*v b)from xcz (xdz d) o);have A:=xbn l c;have p:=xaU h (show 0<=2^(b+a)*fac b from xcz (xdz pw)<|xdz d);have B:=xbn p c;have q:fac b*X*((v b*u k)*(v b*u k))<=fac b*X*(2^(b+a)*2^a*iJ f (a+b+1)):=by
   have e1:fac b*X*((v b*u k)*(v b*u k))=fac b*(v b*v b)*(X*(u k*u k)):=by grind
   have r:fac b*X*(2^(b+a)*2^a*iJ f (a+b+1))=2^(b+a)*fac b*(2^a*X)*iJ f (a+b+1):=by grind
   have C:2^(b+a)*(fac b*fac a)*iJ f (a+b+1)=2^(b+a)*fac b*fac a*iJ f (a+b+1):=by grind
   rw[e1,r];lia
  have t:=Int.le_of_mul_le_mul_left q<|Int.mul_pos d m;refine Int.le_trans t<|xbn ?_ c;have w:(4:J)^(a+b)=2^(b+a)*2^(a+b):=by rw[(iI:(4:J)=2*2),Int.mul_pow,xdO b a]
  rw[w];refine xaU ?_<|xdz pw;have:=xau (n:=2) iI (W:a<=a+b);have i:∀n:K,((2^n:K):J)=(2:J)^n:=λn=>by simp
  rw[<-i,<-i];lia
 ·rw[g.2 k W,xaC,xaC];exact xcz (Int.pow_nonneg iI) c
end
section
variable{B:(xS Zr×xS Zr->ww (xS Zr))->xS Zr×xS Zr->ww (xS Zr)}{fu ca cb m:wr}{a b:xS Zr}{d p g R q:Pz}
theorem zho{f:Pz}{M:J}(h:∀k,f k*f k<=M):∀n:K,iJ f n<=n*M
 |0=>by show 0<=0*M;lia
 |n+1=>by
  show yp n (λk=>f k*f k)+f n*f n<=_;have h1:yp n (λk=>f k*f k)<=n*M:=zho h n;grind
def zmN{x y:K}(h:x*x<y*y):x<y:=by
 refine xai λhn=> ?_;have:=xbM (W:y<=x) (W:y<=x);lia
theorem NH{f u v:Pz}{n B:K}(c:Tp f n)(fu:Fs u)(j:Fs v)(e:f=u*v)(hn:n<=40)(l:∀k,Bb B<|f k)(k:K):Bb (B+n+4) (u k):=by
 have⟨o,A⟩:=VX c.nz e;have⟨a,h⟩:=Tp.ex fu o;have⟨b,hc⟩:=Tp.ex j A;have r:a+b=n:=by
  have:=h.mul hc;rw[<-e]at this;exact this.uniq c
 have h1:=mig h hc e k;have s:∀k,f k*f k<=(2^B:J)*2^B:=λk=>by
  have:=l k;unfold Bb at this;have i:(f k*f k)=(((f k).natAbs*(f k).natAbs:K):J):=by simp_all
  rw[i];have y:=xbM (xdw this)<|xdw this;grind
 have i:=zho s<|a+b+1;have t:(u k).natAbs<=(v b*u k).natAbs:=by
  rw[xcK];exact xdm _ (by have:=hc.1;lia)
 refine xaK t<|zmN ?_;have w:((v b*u k).natAbs*(v b*u k).natAbs:K)=(v b*u k*(v b*u k)).natAbs:=(xcK _ _).symm;rw[w];have x:(v b*u k*(v b*u k)).natAbs<=4^(a+b)*((a+b+1)*(2^B*2^B)):=by
  have z:(4:J)^(a+b)*iJ f (a+b+1)<=4^(a+b)*(((a+b+1:K):J)*(2^B*2^B)):=xaU W (Int.pow_nonneg iI);have C:(4:J)^(a+b)*(((a+b+1:K):J)*(2^B*2^B))=((4^(a+b)*((a+b+1)*(2^B*2^B)):K):J):=iP
  have:=YV<|v b*u k;lia
 refine xaK x ?_;have e1:(2:K)^(B+n+4)*2^(B+n+4)=4^n*(256*(2^B*2^B)):=by
  rw[(iI:(4:K)=2^2),<-xbX,(iI:(256:K)=2^8),<-xbu,<-xbu,<-xbu,<-xbu];congr 1;lia
 rw[e1];have hd:0<(2:K)^B*2^B:=Nat.mul_pos (xaV iI) (xaV iI);rw[r];exact Nat.mul_lt_mul_of_pos_left (xbT W hd)<|xaV iI
theorem UW{K:wr}(e:yI K a)(h:K+1<=100000)(hl:X a<=1000)(f:3000000<=fu):Yb fu a=Z (xJ (X a-1)<|dvp<|H a):=by
 unfold Yb;have hc:∀k:wr,k<=1000->Bz 1 (k:J):=λk n=>Bz.nat (by rw[Nat.pow_one];lia);rw[Y<|BU (g:=λk=>if k<1000 then H a k*(k:J)else 0) W W λj c=> ?_]
 ·have i:min (X a:J) 1=((min (X a) 1:wr):J):=W
  rw[yh,Q,i,yJ,yL,Q];have hd:(zi (X a) λk=>if k<1000 then H a k*(k:J)else 0).drop (min (X a) 1)=zi (X a-1) (dvp<|H a):=by
   refine Rs (by rw[xcf,yh,yh];lia) λj c=> ?_;rw[xcf,yh]at c;rw[YB W,xaa,xfa,<-xaa,YB W,(W:min (X a) 1+j=j+1),zP];show ya (H a (j+1)*((j+1:wr):J))=ya (((j+1:wr):J)*H a (j+1));grind
  rw[hd,Y<|zM (k:=K+1) (YM λj=> ?_) h (by rw[yh];lia) f,yh,sY];unfold dvp;by_cases c:j+1<=1000
  ·rw[xbg];exact(e.bz _).mul<|hc _ c
  ·rw[zX W,xaC];exact Bz.zero _
 ·unfold Qu;have l:=e.get j;rw[Y<|yq ⟨W,W⟩,Y<|yB (cX.of l W) ((hc j W).ok iI) f,zn,YI,zP]
def gG:K->K
 |0=>1
 |1=>1
 |n+2=>2*gG (n+1)+gG n
def zf4:∀n,gG n<=gG (n+1)
 |0=>IR _
 |n+1=>by show _<=2*gG (n+1)+gG n;lia
def eV{i:K}:∀d,gG i<=gG (i+d)
 |0=>IR _
 |d+1=>xae (eV d)<|zf4 _
theorem SG(j:K):∀t,gG j+(t+1+1)*gG (j+1)<=gG (j+1+(t+1))
 |0=>by show _<=2*gG (j+1)+gG j;lia
 |t+1=>by
  have c:=SG j t;have h1:gG (j+1+(t+1+1))=2*gG (j+1+(t+1))+gG (j+1+t):=O;grind
theorem B8(f:Fs d)(pd:Pm d):Zd d (H<|xc a)↔Zd d (H a):=by
 by_cases h:X (zZ a)=0
 ·have h1:(H a:Pz)=D 0:=qR λk=>by rw[W1 h k,zH]
  have i:(H (xc a):Pz)=D 0:=qR λk=>by rw[Ye,W1 h k,xef,zH]
  grind
 ·have e:=gV a;constructor
  ·intro c;rw[<-e];exact c.mul _<|Fs.pc _
  ·intro c;rw[<-e]at c;exact Zd.pm f pd (pT h) c
def zci{x y r Q:Pz}{c:J}(i:Fs d)(pd:Pm d)(hc:c≠0)(h:Fs Q)(e:D c*x=Q*y+r):(Zd d y/\Zd d r)↔(Zd d x/\Zd d y):=by
 constructor
 ·rintro⟨f,z2⟩;refine⟨Zd.pm i pd hc ?_,f⟩;rw[e];exact(f.mul _ h).add z2
 ·rintro⟨f,z2⟩;refine⟨z2,?_⟩;have:r=D c*x-Q*y:=qR λk=>by
   have:=Wr e k;rw[zI]at this;rw[yY];lia
  rw[this];exact(f.mul _<|Fs.pc c).sub<|z2.mul _ h
def O7{Ps:N M->N M->V (N M×N M×J)}{Pr:N M->V (N M)}(hB:∀R x y,B R (x,y)=if(0:J)<(X y:J)then G (Ps x y) λt=>G (Pr t.2.1) λy'=>R (y,y')else Z x)(hk:∀{K:wr}{a:N M},yI K a->K<=9985->X a<=1000->Pr a=Z (xc a))(hl:∀{bx e:wr}{x y:N M},zZ x=x->zZ y=y->X y<=X x->0<X y->X x<=60->(∀j,Bb bx<|H x j)->(∀j,Bb e<|H y j)->bx+(X x-X y+1)*(e+1)<=2400000->
 ∃q r c Q,Ps x y=Z (q,r,0)/\zZ r=r/\X r<X y/\c≠0/\Fs Q/\(D c*H x:Pz)=Q*H y+H r/\∀j,Bb (bx+(X x-X y+1)*(e+1))<|H r j) {C L n bx b_:wr} (ha:zZ a=a) (u:Pm (H a)) (v:Po (H a)) (hb:zZ b=b) (hm:X b<X a) (hL:X a<=L) (hu:L<=60) (hC:C*gG (L-1)<=639000) (ho:C*gG L<=2400000) (w:bx+1<=C*gG (L-X a)) (f:∀j,Bb bx (H a j)) (l:b_+1<=C*gG (L-X a+1)) (hc:∀j,Bb b_ (H b j)) (hd:X b≠0->Pm (H b)/\Po (H b)) (hn:X b<n):
 ∃x,zg B n (a,b)=Z x/\zZ x=x/\Pm (H x)/\Po (H x)/\X x<=L/\yI 37500 x/\∀d,Fs d->Pm d->(Zd d (H x)↔(Zd d (H a)/\Zd d (H b))):=by
 refine yr (λs:N M×N M=>zZ s.1=s.1/\Pm (H s.1)/\Po (H s.1)/\zZ s.2=s.2/\X s.2<X s.1/\X s.1<=L/\(∃bx,bx+1<=C*gG (L-X s.1)/\∀i,Bb bx<|H s.1 i)/\(∃b_,b_+1<=C*gG (L-X s.1+1)/\∀i,Bb b_<|H s.2 i)/\(X s.2≠0->Pm (H s.2)/\Po (H s.2))/\∀d,Fs d->Pm d->((Zd d (H s.1)/\Zd d (H s.2))↔(Zd d (H a)/\Zd d (H b)))) (λs=>X s.2) _ ?_ n (a,b) ⟨ha,u,v,hb,hm,hL,⟨bx,w,f⟩,⟨b_,l,hc⟩,hd,λ_ _ _=>Iff.rfl⟩ hn;rintro⟨x,y⟩ R ⟨h1,S,T,A,h5,U,⟨bx,w,f⟩,⟨b_,l,hc⟩,hd,E⟩ ih;simp only at h1 S T A h5 U w f l hc hd E;rw[hB];have he:∀{i},i<=L->C*gG i<=2400000:=λ{i} hi=>xae (xaA _ (by
  have:=eV (i:=i)<|L-i;rwa[(W:i+(L-i)=L)]at this)) ho
 by_cases hp:0<X y
 ·have⟨t,ht⟩:∃t,X x-X y=t+1:=⟨X x-X y-1,W⟩;have hg:bx+(X x-X y+1)*(b_+1)+1<=C*gG (L-X y+1):=by
   have F:=SG (L-X x) t;rw[(W:L-X x+1+(t+1)=L-X y+1)]at F;have hq:=xaA C F;rw[xcj,xfp]at hq;have hv:=xaA (t+1+1) l;rw[ht];lia
  have⟨q,r,c,Q,e1,P,e3,e4,e5,e6,e7⟩:=hl h1 A W hp W f hc (by have:=he (i:=L-X y+1) W;lia);have oR:yI 9985 r:=by
   by_cases hr:X r=0
   ·rw[xbv.1 hr];intro z hz;cases hz
   ·rw[<-P];refine yE λj=>(e7 j).bz ?_;have F:C*gG (L-X y+1)<=C*gG (L-1):=xaA _ (by
     have:=eV (i:=L-X y+1)<|X y-2;rwa[(W:L-X y+1+(X y-2)=L-1)]at this)
    lia
  rw[zP,Y e1];simp only;rw[Y<|hk oR iI W];have hs:=km r;rw[P]at hs;have⟨y1,y2⟩:=hd W;refine ih _ ⟨A,y1,y2,ke r,by show(xc r).length<X y;lia,by show X y<=L;lia,⟨b_,?_,hc⟩,⟨_,hg,λi=> ?_⟩,λ(hn:X (xc r)≠0)=>VS (by rw[P];show X r≠0;lia),λd o pd=> ?_⟩ (by show(xc r).length<X y;lia)
  ·refine xae l<|xaA _ ?_;show gG (L-X x+1)<=gG (L-X y);have:=eV (i:=L-X x+1)<|X x-X y-1;rwa[(W:L-X x+1+(X x-X y-1)=L-X y)]at this
  ·show Bb _ (H (xc r) i);rw[Ye];exact(e7 i).le<|xcc _ _
  ·rw[<-E d o pd];show(Zd d (H y)/\Zd d (H<|xc r))↔(Zd d (H x)/\Zd d (H y));rw[B8 o pd];exact zci o pd e4 e5 e6
 ·rw[zA];refine⟨x,O,h1,S,T,U,?_,λd o pd=> ?_⟩
  ·rw[<-h1];exact yE λj=>(f j).bz (by have:=he (i:=L-X x) W;lia)
  ·rw[<-E d o pd];have:Zd d (H y):=⟨D 0,Fs.pc 0,qR λk=>by rw[zX W,zQ,zH]⟩;exact⟨λh=>⟨h,this⟩,λh=>h.1⟩
def GcZ(ca cb c e:K):Prop:=(∃C,ca+1<=C/\cb+1<=C/\C*gG (c-1)<=639000/\C*gG c<=2400000)\/
 (ca<=639000/\(ca+(c-e+1)*(cb+1)+1)*gG (e-1)<=639000/\(ca+(c-e+1)*(cb+1)+1)*gG e<=2400000)
def zgb{Ps:N M->N M->V (N M×N M×J)}{Pr:N M->V (N M)}(E:∀R x y,B R (x,y)=if(0:J)<(X y:J)then G (Ps x y) λt=>G (Pr t.2.1) λy'=>R (y,y')else Z x)(hc:∀{K:wr}{a:N M},yI K a->K<=9985->X a<=1000->Pr a=Z (xc a))(hd:∀{bx e:wr}{x y:N M},zZ x=x->zZ y=y->X y<=X x->0<X y->X x<=60->(∀j,Bb bx<|H x j)->(∀j,Bb e<|H y j)->bx+(X x-X y+1)*(e+1)<=2400000->
 ∃q r c Q,Ps x y=Z (q,r,0)/\zZ r=r/\X r<X y/\c≠0/\Fs Q/\(D c*H x:Pz)=Q*H y+H r/\∀j,Bb (bx+(X x-X y+1)*(e+1))<|H r j) {n:wr} (z:zZ a=a) (o:Pm (H a)) (s:Po (H a)) (hb:zZ b=b) (hi:X b<X a) (he:X a<=60) (F:∀j,Bb ca (H a j)) (bB:∀j,Bb cb (H b j)) (hZ:GcZ ca cb (X a) (X b)) (hn:X b+1<n):
 ∃x,zg B n (a,xc b)=Z x/\zZ x=x/\Pm (H x)/\Po (H x)/\X x<=X a/\yI 37500 x/\∀d,Fs d->Pm d->(Zd d (H x)↔(Zd d (H a)/\Zd d (H b))):=by
 have A:X (xc b)=X b:=by rw[km,hb]
 have f:∀j,Bb cb (H (xc b) j):=λj=>by rw[Ye];exact(bB j).le<|xcc _ _
 have pb:X (xc b)≠0->Pm (H<|xc b)/\Po (H<|xc b):=λh=>VS (by rw[hb];lia);have u:∀{x:N M},(∀d,Fs d->Pm d->(Zd d (H x)↔(Zd d (H a)/\Zd d (H<|xc b))))->∀d,Fs d->Pm d->(Zd d (H x)↔(Zd d (H a)/\Zd d (H b))):=λh d l pd=>by rw[h d l pd,B8 l pd]
 rcases hZ with⟨C,h1,h2,h3,h4⟩|h1
 ·have⟨x,e1,v,e3,P,S,U,w⟩:=O7 E hc hd (C:=C) (L:=X a) (n:=n) z o s (ke b) W (IR _) he h3 h4 (by rw[xdb];show ca+1<=C*1;lia) F (by rw[xdb];show cb+1<=C*1;lia) f pb W;exact⟨x,e1,v,e3,P,S,U,u w⟩
 ·have⟨hj,h1,hf⟩:=h1;obtain⟨n,rfl⟩:∃m,n=m+1:=⟨n-1,W⟩;rw[wA,E];by_cases hk:0<X b
  ·have⟨T,hT⟩:∃T,T=ca+(X a-X b+1)*(cb+1):=⟨_,O⟩;rw[<-hT]at h1 hf;have hl:T+1<=(T+1)*gG (X b-1):=xcm _<|xaj (iI:0<gG 0) (by have h:=eV (i:=0)<|X b-1;rwa[xaJ]at h);have⟨q,r,c,Q,e1,v,e3,P,S,U,w⟩:=hd z (ke b) W W he F f (by rw[A,<-hT];lia);rw[A,<-hT]at w;have oR:yI 9985 r:=by rw[<-v];exact yE λj=>(w j).bz W
   rw[zP,Y e1];simp only;rw[Y<|hc oR iI W];have hg:=km r;rw[v]at hg;have⟨y1,y2⟩:=pb W;have⟨x,g1,g2,g3,g4,g5,g6,g7⟩:=O7 E hc hd (C:=T+1) (L:=X b) (n:=n) (ke b) y1 y2 (ke r) W W W h1 hf (bx:=cb) (by
    rw[A,xdb];show cb+1<=(T+1)*1;have:=xan (cb+1) (W:1<=X a-X b+1);lia) f (b_:=T) (by rw[A,xdb];show T+1<=(T+1)*1;lia) (λj=>by rw[Ye];exact(w j).le (xcc _ _)) (λh=>VS (by rw[v];lia)) W
   refine⟨x,g1,g2,g3,g4,W,g6,u λd l pd=> ?_⟩;rw[g7 d l pd,B8 (a:=r) l pd];exact zci l pd P S U
  ·rw[zA];refine⟨a,O,z,o,s,IR _,?_,λd l pd=> ?_⟩
   ·rw[<-z];exact yE λj=>(F j).bz W
   ·have:Zd d (H b):=⟨D 0,Fs.pc 0,qR λk=>by rw[zX W,zQ,zH]⟩;exact⟨λh=>⟨h,this⟩,λh=>h.1⟩
def FQ(i:zZ a=a)(r:zZ b=b)(hc:yw a=1)(y:X b<X a)(z:X a<=60)(s:∀j,Bb ca<|H a j)(t:∀j,Bb cb<|H b j)(A:GcZ ca cb (X a) (X b))(V:ca<=639000)(hk:cb<=639000)(c:3000000<=fu):
 ∃g,YK fu a b=Z g/\zZ g=g/\Pm (H g)/\Po (H g)/\X g<=X a/\∀d,Fs d->Pm d->(Zd d (H g)↔Zd d (H a)/\Zd d (H b)):=by
 have u:yI 9985 a:=by rw[<-i];exact yE λj=>(s j).bz W
 have o:yI 9985 b:=by rw[<-r];exact yE λj=>(t j).bz W
 have hd:xc a=a:=ia (ke a) i λk=>by rw[Ye,hc,Int.ediv_one]
 have⟨e,f⟩:=VS (a:=a) (by rw[i];lia);rw[hd]at e f;have⟨x,C,v,D,E,F,G,L⟩:=zgb (B:=sa fu) (Ps:=Yl fu) (Pr:=xL fu) (n:=fu) (λ_ _ _=>O) (λh h1 w=>vP h W W c) (λh1 w M N P Q S T=>tc h1 w M N P Q S T c) i e f r y z s t A W;have b1:=(Bz.one' (k:=1)<|IR _);have U:=(pQ o);have hi:xJ (X x) (λj=>H x j*1)=x:=by rw[show(λj=>H x j*1)=H x from qR λj=>xck _];exact v
 refine⟨x,?_,v,D,E,F,L⟩;unfold YK;rw[Y<|kX u,Y<|kX o,hc,Y<|iZ (K:=9985) (yo _) (yo _) (xae b1.len iI) U.len iI c,zn,zn,show Int.natAbs 1=1 from O,Nat.gcd_one_left,show((1:wr):J)=1 from O,Y<|vP u iI W c,Y<|vP o iI W c,hd,Y C,Y<|ks (l:=1) G ⟨yo _,b1.len⟩ iI W c,zn];show Z (xJ (X x) λj=>H x j*1)=_;rw[hi]
theorem Tt(q:Pz):∀n,dvp (pp q<|n+1)=D ((n+1:K):J)*(pp q n*dvp q)
 |0=>by
  show dvp (D 1*q)=D 1*(D 1*dvp q);rw[zC,zC,zC]
 |n+1=>by
  show dvp (pp q (n+1)*q)=D _*(pp q n*q*dvp q);rw[QV,Tt q n,zd<|D _,zd<|pp q n,zk (dvp q) q];show _+pp q n*q*dvp q=_;rw[zd<|pp q n];funext k;rw[zI,zS,zS];grind
def zjI(hp:Tp p m)(A:Fs g)(C:Fs R)(e:p=R*g)(E:Zd g (dvp p))(c:Ir q)(h:Zd q p):Zd q R:=by
 refine xai λF=> ?_;have⟨n,_,hn⟩:=Mu.ex c m hp;have⟨U,G⟩:=VX hp.nz e;have⟨d,hd⟩:=Tp.ex A G;have⟨i,_,hi⟩:=Mu.ex c d hd;have h1:=(Mu.zero C F).mul c hi;rw[<-e,xaJ]at h1;obtain rfl:=h1.uniq c hn;have hc:i≠0:=λh0=>by
  subst h0;have⟨u,fu,l,o⟩:=hn;rw[show pp q 0=D 1 from O,yf]at l;simp_all
 obtain⟨j,rfl⟩:∃j,i=j+1:=⟨i-1,W⟩;have⟨u,fu,l,o⟩:=hn;have⟨v,H,L,_⟩:=hi;have r:Zd (pp q<|j+1) (dvp p):=Zd.trans ⟨v,H,L⟩ E;rw[l,QV]at r;have s:Zd (pp q<|j+1) (u*dvp (pp q<|j+1)):=by
  have:u*dvp (pp q<|j+1)=(dvp u*pp q (j+1)+u*dvp (pp q<|j+1))-dvp u*pp q (j+1):=qR λk=>by simp only[zI,yY];lia
  rw[this];exact r.sub ⟨dvp u,fu.dvp,O⟩
 rw[Tt]at s;have⟨w,x,M⟩:=s;have N:w*q=u*(D ((j+1:K):J)*dvp q):=by
  refine o9 (x.mul c.fs) (fu.mul<|(Fs.pc _).mul c.fs.dvp) (c.fs.pp j) (c.pm.pp j).nz ?_;have P:w*pp q (j+1)=w*q*pp q j:=by
   show w*(pp q j*q)=_;rw[zd,zk (pp q j) q]
  rw[<-P,<-M,zd u,zd<|D _,zk (dvp q)<|pp q j]
 rcases c.prime fu ((Fs.pc _).mul c.fs.dvp) ⟨w,x,N.symm⟩with h5|h5
 ·exact o h5
 ·have⟨t,f⟩:=Tp.ex c.fs c.pm.nz;have V:t≠0:=λh0=>c.dg<|(Cp.tp f).2 h0;have⟨Q,S,T⟩:=LR (n:=0) f h5 λk Y=>by
   rw[zS];show _*(((k+1:K):J)*q (k+1))=0;rw[f.2 _ W,xaC,xaC]
  have y:=Wr S<|t-1;rw[vK Q,xk λi _=>by rw[T i W,xaP],zS]at y;have z:((j+1:K):J)*(((t-1+1:K):J)*q (t-1+1))=0:=y;rw[(W:t-1+1=t)]at z;obtain h8|h8:=xeK.1 z
  ·lia
  ·obtain h9|h9:=xeK.1 h8
   ·lia
   ·exact f.1 h9
def znn(hp:Tp p m)(o:Fs g)(x:Fs R)(e:p=R*g)(r:∀d,Fs d->Pm d->Zd d p->Zd d (dvp p)->Zd d g)(c:Ir q):¬Zd (q*q) R:=λ⟨z,f,i⟩=>by
 have⟨n,_,u,fu,e1,j⟩:=Mu.ex c m hp
 cases n with
 |zero=>
  refine j ⟨z*q*g,(f.mul c.fs).mul o,?_⟩;have s:u=p:=by rw[e1];exact(yf u).symm
  rw[s,e,i];simp only[zk,zB]
 |succ k=>
  have t:=c.fs.pp k;have h:pp q (k+1)=q*pp q k:=zk _ _;have⟨w,l,v⟩:=r (pp q k) t (c.pm.pp k) ⟨u*q,fu.mul c.fs,by rw[e1,h,zd]⟩ (by
   rw[e1,QV,Tt];refine Zd.add ⟨dvp u*q,fu.dvp.mul c.fs,by rw[h,zd]⟩ ⟨u*(D ((k+1:K):J)*dvp q),fu.mul<|(Fs.pc _).mul c.fs.dvp,?_⟩;simp only[zk,zB])
  refine j ⟨z*w,f.mul l,?_⟩;refine o9 fu ((f.mul l).mul c.fs) (c.fs.pp<|k+1) (c.pm.pp<|k+1).nz ?_;rw[<-e1,e,i,v,h];simp only[zk,zB]
end
noncomputable def zid(fu:K)(a:N M)(fs:N (N J))(p:J):J:=
 if wh p=I then(if 65<(zZ a).length then 6 else if vC fu (zZ a) fs p=Z I then 0 else 1)else 1
def zhg{fu:K}{p k:J}{a:N M}{fs:N (N J)}{us:N (N M)}{e:J}(f:yI 250 a)(i:X a<=1000)(h1:1<=k)(j:k<=1000)(l:3000200<=fu)(h:jD fu a fs p k=Z (us,e)):e=zid fu a fs p:=by
 unfold jD at h;unfold zid;rw[Y<|uO W]at h;simp only at h;rw[Y (zM f iI W W),show xJ (X a) (H a)=zZ a from O]at h;by_cases hp:wh p=I
 ·have c:rK p k=(ya<|p^k.toNat,0):=by
   unfold rK;simp_all
  rw[c]at h;rw[iq hp];simp only[uP]at h;by_cases g:65<X (zZ a)
  ·grind
  ·rw[zA]at h;rw[ir g]
   cases d:vC fu (zZ a) fs p with
   |none=>rw[d]at h;cases h
   |some b=>
    rw[d]at h;change(if(!b)=I then _ else _)=_ at h
    cases b with
    |false=>
     rw[iq iI]at h;rw[ir iP];simp only[xat,xdd]at h;exact h.2.symm
    |true=>
     rw[ir iI]at h;rw[iq O];split at h
     ·simp only[xat,xdd]at h;exact h.2.symm
     ·cases hc:xn fu (zZ a) (ya<|p^k.toNat)with
      |none=>rw[hc]at h;cases h
      |some t=>
       rw[hc]at h;change G (qq fu t fs p k<|ya<|p^k.toNat) _=_ at h
       cases hd:qq fu t fs p k (ya<|p^k.toNat)with
       |none=>rw[hd]at h;cases h
       |some t3=>
        rw[hd]at h;change Z (t3,(0:J))=_ at h;simp only[xat,xdd]at h;exact h.2.symm
 ·have c:rK p k=((wL,[]),1):=by
   unfold rK;rw[ir<|λh=>hp h.1]
  rw[c]at h;rw[ir hp];simp only[Int.reduceEq,uS,xat,xdd]at h;exact h.2.symm
section
variable{fu:wr}{p:wl}{a:xS Zr}
def zlT(p:J)(n:K)(fs:N (N J)):Prop:=(∀t,t<X fs->X (fs.getD t [])<=n/\SW p (fs.getD t []))/\∀t j,t<X fs->j<t->qB p (U<|fs.getD t []) (U<|fs.getD j [])
def MR{i:K}{f:N J}{fs:N (N J)}(hp:wh p=I)(hc:Fp p f)(hd:X f<=290)(hi:i<=X fs)(hl:i<=1000000)(k:∀j,j<i->Fp p (fs.getD j [])/\X (fs.getD j [])<=290)(y:3000000<=fu):
 ∃r,zg (ki fu p f<|fs.take i) fu 0=Z r/\((r=.inl ()/\∀j,j<i->qB p (U f) (U<|fs.getD j []))\/(r=.inr ()/\¬∀j,j<i->qB p (U f) (U<|fs.getD j []))):=by
 have⟨l,z⟩:=zo hp;have A:X (fs.take i)=i:=by rw[xas];lia
 have m:∀j,j<i->(fs.take i).getD j []=fs.getD j []:=λj b=>by rw[xaa,xce,iq b,<-xaa]
 refine yr (λx:J=>∃j:K,x=(j:J)/\j<=i/\∀t,t<j->qB p (U f) (U<|fs.getD t [])) (λx=>i-x.toNat) _ ?_ _ _ ⟨0,O,xac _,λt h=>wS h<|xbC _⟩ (by show i-0<fu;lia);rintro x L ⟨j,rfl,b,c⟩ n;unfold ki;by_cases h1:j<i
 ·have⟨k1,k2⟩:=k j h1;have⟨d,s,t,o,q,u⟩:=XN (fu:=fu) hp hc k1 hd k2;have e:=pK l q u;rw[zP,yj,Q,m j h1,Y o];simp only;by_cases g:X d=1
  ·rw[zP,zb];refine n _ ⟨j+1,O,W,λt v=> ?_⟩ W;by_cases w:t=j
   ·rw[w];exact e.1 g
   ·exact c t W
  ·rw[zA];exact⟨_,O,.inr ⟨O,λh=>g<|e.2<|h j h1⟩⟩
 ·rw[zA];exact⟨_,O,.inl ⟨O,λt v=>c t W⟩⟩
def zaL{fs:N (N J)}(hp:wh p=I)(hd:X a<=66)(h0:X a≠0)(hl:X (qU p a)=X a)(g1:∀t,t<X fs->X (fs.getD t [])<=X a/\SW p (fs.getD t [])):
 (∀f∈fs,Fp p f)/\(∀f∈fs,X f<=66)/\(qU p a).drop (X a-1)=[U (qU p a)<|X a-1]/\Fp p [U (qU p a)<|X a-1]:=by
 have⟨i,k⟩:=zo hp;have d:∀{q:N J->Prop},(∀t,t<X fs->q (fs.getD t []))->∀f∈fs,q f:=λ{q} h f e=>by
  obtain⟨j,l,rfl⟩:=xdK.1 e;simp_all
 have b:=WY (p:=p) W a;have hc:U (qU p a) (X a-1)≠0:=by
  obtain h|h:=b.nl
  ·lia
  ·simp_all
 have m:=b.nn<|X a-1;have g:=b.lt<|X a-1;refine⟨d λt c=>(g1 t c).2.fp W,d λt c=>by have:=(g1 t c).1;lia,?_,uB W g⟩;rw[xcb W,xbW W];unfold U;rw[xaa,xak W];rfl
def nV{k:K}{fs:N (N J)}(hp:wh p=I)(u:yI k a)(v:k<=40000)(w:X a<=66)(g:3000000<=fu):
 ∃b,vC fu a fs p=Z b/\(b=I↔fW p a fs):=by
 have⟨D,y⟩:=zo hp;unfold vC;rw[Y<|uW u v W y];simp only;by_cases h0:X a=0
 ·rw[zP];exact⟨_,O,λe=>wS e iI,λe=>wS h0 e.a0⟩
 ·rw[zA];by_cases hl:X (qU p a)=X a
  ·rw[zP];by_cases E:X a<X fs
   ·rw[zP];exact⟨_,O,λe=>wS e iI,λe=>by have:=e.fl;lia⟩
   ·rw[zA]
    have⟨r,e1,m⟩:=yr (f:=jZ fu a fs p) (λx:J×N J=>∃i:K,x=((i:J),qU p a)/\i<=X fs/\(∀t,t<i->X (fs.getD t [])<=X a/\SW p (fs.getD t []))/\∀t j,t<i->j<t->qB p (U<|fs.getD t []) (U<|fs.getD j [])) (λx=>X fs-x.1.toNat)
     (λr=>(r=.inr ()/\¬zlT p (X a) fs)\/(r=.inl (qU p a)/\zlT p (X a) fs)) (by
      rintro x L ⟨i,rfl,hi,g1,d⟩ z;unfold jZ;simp only;by_cases h1:i<X fs
      ·rw[zP,Y O];simp only[uP];rw[zp h1,Q];by_cases F:X a<X (fs.getD i [])
       ·rw[zP];exact⟨_,O,.inl ⟨O,λh=>by have:=(h.1 i h1).1;lia⟩⟩
       ·have⟨b,b1,b2⟩:=Ko (fu:=fu) (l:=fs.getD i []) (p:=p) W g;rw[zA,Y b1]
        cases b with
        |false=>
         rw[iq iI];exact⟨_,O,.inl ⟨O,λh=>wS (b2.2 (h.1 i h1).2) iI⟩⟩
        |true=>
         have n:=b2.1 O;rw[ir iI,yJ,yL,Q];have⟨q,q1,q2⟩:=MR (fu:=fu) (i:=i) (fs:=fs) hp (n.fp W) W W W (λj c=>⟨(g1 j c).2.fp W,by have:=(g1 j c).1;lia⟩) g;rw[Y q1];rcases q2 with⟨rfl,q2⟩|⟨rfl,q2⟩
         ·simp only;rw[zb];refine z _ ⟨i+1,O,W,λt o=> ?_,λt j o c=> ?_⟩ (by show X fs-((i:J)+1).toNat<X fs-(i:J).toNat;lia)
          ·by_cases s:t=i
           ·rw[s];exact⟨W,n⟩
           ·exact g1 t W
          ·by_cases s:t=i
           ·rw[s]at c⊢;exact q2 j c
           ·exact d t j W c
         ·exact⟨_,O,.inl ⟨O,λh=>q2 λj c=>h.2 i j h1 c⟩⟩
      ·rw[zA,Y O];simp only[xar,uS];exact⟨_,O,.inr ⟨O,λt o=>g1 t W,λt j o c=>d t j W c⟩⟩) fu (0,qU p a) ⟨0,O,xac _,λt h=>wS h (xbC _),λt j h=>wS h (xbC _)⟩ (by show X fs-0<fu;lia)
    rw[Y e1];rcases m with⟨rfl,m⟩|⟨rfl,g1,d⟩
    ·exact⟨_,O,λe=>wS e iI,λe=>wS ⟨e.pl,e.cp⟩ m⟩
    ·simp only;have⟨A,hd,hc,B⟩:=zaL hp w h0 hl g1;have G:X fs*66<=66*66:=xan _ W;have n:=c9 (p:=p) hd;have C:=WY (p:=p) W a;have hn:=wZ p (QH p fs) [U (qU p a)<|X a-1];simp only[xaw,xbR]at hn;rw[Y (jO hp A hd W iI),hl,(W:(X a:J)-1=((X a-1:K):J)),zb,yJ,yL,Q,hc,Y<|u4 hp (ed W fs) B W iP];simp only;rw[Y<|Ks hp (w5 W _ _) C W W g];exact⟨_,O,λe=>⟨h0,hl,W,g1,d,Wf e⟩,λe=>Z0 e.pr⟩
  ·rw[zA];exact⟨_,O,λe=>wS e iI,λe=>wS e.al hl⟩
end
section
variable{a R:xS Zr}{fu K B B1:wr}{f g:Pz}{q p:wl}{ds:xS wl}
theorem Ky(h:cH a=0):1<=X (zZ a)/\X (zZ a)<=65:=by grind [cH]
def zcT:wh 2=I:=zcw ⟨iI,iI,λd h1 b=>by
 have:=xbM h1 h1;lia⟩
theorem zdP(hc:zZ a=a)(hp:Pm (H a))(b:Po (H a)):yw a=1:=by
 have⟨n,hn,h⟩:=b.tp;have c:=λe=>hn.1<|W1 e n;have h1:=(YD c).uniq hn;have i:=hp _<|pk λk d=>zX d;have a3:yw a=if H (zZ a) (X (zZ a)-1)<0 then-((Wj (H a) (X (zZ a)):wr):J)else((Wj (H a) (X (zZ a)):wr):J):=O;grind
def Po.left{u v:Pz}(fu:Fs u)(h:Po (u*v))(hv:Po v):Po u:=by
 have⟨m,d,hp⟩:=h.tp;have⟨b,e,i⟩:=hv.tp;have⟨j,_⟩:=VX d.nz O;have⟨a,c⟩:=Tp.ex fu j;obtain rfl:=(c.mul e).uniq d;rw[Jz c.2 e.2]at hp;exact⟨a,Int.pos_of_mul_pos_left hp i,c.2⟩
structure Rad(a R:N M):Prop where
 can:zZ R=R
 pm:Pm (H R)
 ps:Po (H R)
 dv:∃g:Pz,Fs g/\H (xc a)=H R*g
 al:∀q,Ir q->Zd q (H a)->Zd q (H R)
 ln:R.length<=(zZ a).length
 sf:∀q,Ir q->¬Zd (q*q) (H R)
theorem mU(b:yI K a)(c:K<=40000)(hl:X a<=1000000)(h0:cH a≠0)(d:3000000<=fu):qG fu a=Z ([],cH a):=by grind [qG,Y,Yn]
structure Fa(a g R:N M):Prop where
 rad:Rad a R
 gc:zZ g=g
 gp:Pm (H g)
 go:Po (H g)
 gd:∀d,Fs d->Pm d->(Zd d (H g)↔Zd d (H<|xc a)/\Zd d (dvp<|H<|xc a))
 eq:(H (xc a):Pz)=H R*H g
def zjA(G:Pm f)(b:Po f)(l:Pm g)(A:Po g)(h:Zd f g)(k:Zd g f):f=g:=by
 have⟨u,fu,e⟩:=h;have⟨v,o,r⟩:=k;have⟨n,tf,hn⟩:=b.tp;have⟨m,tg,C⟩:=A.tp;have nz:∀{w x y:Pz},Fs w->y=w*x->Nz y->Nz w:=λ{w x y} H e E=>xai λhn=>by
  have:w=D 0:=qR λk=>by rw[zH];exact xai λh=>hn ⟨k,h⟩
  have⟨j,s⟩:=E;rw[e,this,zS,xaP]at s;exact s O
 have⟨i,t⟩:=Tp.ex fu<|nz fu e tg.nz;have⟨j,F⟩:=Tp.ex o<|nz o r tf.nz;have h1:=(t.mul tf).uniq<|e▸tg;have J:=(F.mul tg).uniq<|r▸tf;have hi:i=0:=W
 have z:u=D (u 0):=qR λk=>by
  unfold D;by_cases d:k=0
  ·rw[iq d,d]
  ·rw[ir d,t.2 k W]
 generalize u 0=c at z;subst z;rw[e]at l;obtain rfl|rfl:=CC l.left
 ·rw[e,zC]
 ·have:m=n:=W
  rw[e,this,zS]at C;lia
def Fa.uniq{g b c:N M}(h:Fa a g R)(k:Fa a b c):R=c:=by
 have e:(H g:Pz)=H b:=zjA h.gp h.go k.gp k.go ((k.gd _ (Fs.cf g) h.gp).2<|(h.gd _ (Fs.cf g) h.gp).1<|Zd.refl _)<|(h.gd _ (Fs.cf b) k.gp).2<|(k.gd _ (Fs.cf b) k.gp).1<|Zd.refl _;have d:=h.eq.symm.trans k.eq;rw[e]at d;have i:=o9 (Fs.cf R) (Fs.cf c) (Fs.cf b) k.go.tp.choose_spec.1.nz d;exact ia h.rad.can k.rad.can λj=>Wr i j
def Fa.one{g:N M}(h:Fa a g R):X g=1↔R=xc a:=by
 have⟨n,tg,hn⟩:=h.go.tp;have j:X g=n+1:=by
  have h1:=nP (show g=xJ (X g) (H g)from h.gc.symm) (l:=n+1) λk b=>tg.2 k W;by_cases c:X g<=n
  ·exact wS (zX c) tg.1
  ·lia
 constructor
 ·intro h1;obtain rfl:n=0:=W
  have d:(H g:Pz)=D (H g 0):=qR λk=>by
   unfold D;by_cases b:k=0
   ·rw[iq b,b]
   ·rw[ir b,tg.2 k W]
  have hp:=h.gp;rw[d]at hp;have i:H g 0=1:=by obtain e|e:=CC hp<;>lia
  refine ia h.rad.can (ke a) λk=> ?_;rw[h.eq,d,i,yf]
 ·intro h1;have c:=h.eq;rw[h1]at c;have⟨m,tp,_⟩:=h.rad.ps.tp;rw[h1]at tp;have:=(tp.mul tg).uniq<|c▸tp;lia
def zcU{Gc:N M->N M->V (N M)}{Dv:N M->N M->V (N M×J)}(hl:X a<=40)(h0:cH a=0)(L:∀j,Bb B<|H a j)(o:∀j,Bb B1<|H a<|j+1)(hB:B<=6000)(P:∀{x y:N M},zZ x=x->zZ y=y->yw x=1->X y+1=X x->X x=X (zZ a)->(∀j,Bb B<|H x j)->(∀j,Bb (B1+6)<|H y j)->∃g,Gc x y=Z g/\zZ g=g/\Pm (H g)/\Po (H g)/\X g<=X x/\∀d,Fs d->Pm d->(Zd d (H g)↔Zd d (H x)/\Zd d (H y)))(Q:∀{x y:N M},yI 94 x->yI 97 y->X x<=40->X y<=40->X (zZ y)≠0->∃q e,Dv x y=Z (q,e)/\(e=0↔Zd (H y) (H x))/\(e=0->(H x:Pz)=H q*H y/\zZ q=q/\X q<=X x)):
 ∃g R,Gc (xc a) (xJ (X (xc a)-1)<|dvp<|H<|xc a)=Z g/\Dv (xc a) g=Z (R,0)/\Fa a g R/\∀j,Bb (B+X (zZ a)+4) (H R j):=by
 have ht:=Ky h0;have hu:=qg a;have⟨p,hp⟩:∃p,p=xc a:=⟨_,O⟩;have i:zZ p=p:=by rw[hp];exact ke a
 have S:X p=X (zZ a):=by rw[hp];exact km a
 have⟨r,s⟩:=VS (a:=a) W;have hc:=λq h1 A=>(B8 (a:=a) (d:=q) h1 A).2;rw[<-hp]at r s hc⊢;have hi:X (zZ p)≠0:=by rw[i];lia
 have tp:=YD hi;rw[i]at tp;have C:∀{b:wr}{j},Bb b (H a j)->Bb b (H p j):=λh=>by
  rw[hp,Ye];exact h.le<|xcc _ _
 have m:∀j,Bb B (H p j):=λj=>C<|L j;have oP:yI 94 p:=by rw[<-i];exact yE λj=>(m j).bz W
 have T:=zdP i r s;have⟨d,hd⟩:∃d,d=xJ (X p-1) (dvp<|H p):=⟨_,O⟩;have n:(H d:Pz)=dvp (H p):=qR λk=>by
  rw[hd];exact jz (λk hk=>by unfold dvp;rw[zX W,xaC]) k
 have hn:zZ d=d:=by rw[hd];exact(qc _ _).symm
 have U:X d+1=X p:=by
  rw[hd,xv];by_cases h1:X p=1
  ·rw[h1];rfl
  ·have:dg (dvp<|H p) (X p-1)=X p-1:=K2 (IR _) (λk h1 A=>by lia) (.inr (by
    show((X p-1-1+1:wr):J)*H p (X p-1-1+1)≠0;rw[(W:X p-1-1+1=X p-1)];exact xeq W tp.1))
   lia
 have Y:∀j,Bb (B1+6) (H d j):=λj=>by
  rw[n];show Bb _ (((j+1:wr):J)*H p (j+1));by_cases t:j+1<64
  ·rw[xbg];exact(C<|o j).mul (show((j+1:wr):J).natAbs<2^6 by rw[xbb];exact t)
  ·rw[zX W,xaC];exact Bb.zero _
 have⟨g,g1,D,u,E,g5,v⟩:=P i hn T U S m Y;have⟨z1,z2⟩:=(v _ (Fs.cf g) u).1<|Zd.refl _;have hr:X (zZ g)≠0:=λe=>by
  have⟨j,t⟩:=u.nz;exact t<|W1 e j
 have⟨w,F,G⟩:=z1;have bG:∀j,Bb (B+X (zZ a)+4) (H g j):=λj=>(NH tp (Fs.cf g) F (by rw[G,zk]) W m j).mono W;have oG:yI 97 g:=by rw[<-D];exact yE λj=>(bG j).bz W
 have⟨R,e,r1,r2,r3⟩:=Q oP oG W W hr;have he:e=0:=r2.2 ⟨w,F,G⟩;subst he;have⟨c,r5,r6⟩:=r3 O;have hs:Pm (H R):=(c▸r:Pm (H R*H g:Pz)).left;refine⟨g,R,by rw[<-hd];exact g1,r1,⟨⟨r5,hs,Po.left (Fs.cf R) (c▸s:Po (H R*H g:Pz)) E,⟨H g,Fs.cf g,by rw[<-hp];exact c⟩,λq l hz=> ?_,W,λq l=>znn tp (Fs.cf g) (Fs.cf R) c (λd z pd y1 y2=>(v d z pd).2 ⟨y1,by rw[n];exact y2⟩) l⟩,D,u,E,λd z pd=>by rw[<-hp,v d z pd,n],by rw[<-hp];exact c⟩,λj=>(NH tp (Fs.cf R) (Fs.cf g) c W m j).mono W⟩;exact zjI tp (Fs.cf g) (Fs.cf R) c (by rw[<-n];exact z2) l<|hc q l.fs l.pm hz
def Pw(r:yI K a)(s:K<=100)(hl:X a<=40)(h0:cH a=0)(i:∀j,Bb B<|H a j)(b:∀j,Bb B1<|H a<|j+1)(k:B<=6000)(t:B1<=6000)(l:GcZ B (B1+6) (X (zZ a)) (X (zZ a)-1))(e:3000000<=fu):
 ∃g R,YK fu (xc a) (xJ (X (xc a)-1)<|dvp<|H<|xc a)=Z g/\wz fu (xc a) g=Z (R,0)/\Fa a g R/\∀j,Bb (B+X (zZ a)+4) (H R j):=by
 have hc:=qg a
 exact zcU (Gc:=YK fu) (Dv:=wz fu) hl h0 i b k (λ{x y} g1 c h m d n o=>FQ g1 c h W W n o (by rw[(W:X y=X (zZ a)-1),d];exact l) W W e)
  (λ{x y} g1 c h m d=>JX g1 c (by have:=xan (97+1) (W:X x+1<=41);lia) W W d e)
def mM(b:yI K a)(e:K<=100)(hl:X a<=40)(h0:cH a=0)(h:∀j,Bb B<|H a j)(d:∀j,Bb B1<|H a<|j+1)(i:B<=6000)(k:B1<=6000)(l:GcZ B (B1+6) (X (zZ a)) (X (zZ a)-1))(c:3000000<=fu):
 ∃g R,qG fu a=Z (R,0)/\Fa a g R/\∀j,Bb (B+X (zZ a)+4) (H R j):=by
 have hc:=qg a;have hd:=km a;have⟨g,R,h1,m,n,o⟩:=Pw b e hl h0 h d i k l c;refine⟨g,R,?_,n,o⟩;unfold qG;rw[Y<|Yn b W W c,iq h0,Y<|vP b W W c,Y<|UW (dK b) W W c,Y h1];unfold tW;rw[Y (v:=R)<|by rw[Y m]]
def IY(b:yI K a)(k:K<=100)(hl:X a<=40)(h0:cH a=0)(l:∀j,Bb B<|H a j)(d:∀j,Bb B1<|H a<|j+1)(m:B<=6000)(n:B1<=6000)(o:GcZ B (B1+6) (X (zZ a)) (X (zZ a)-1))(c:3000000<=fu):
 ∃g R,Fa a g R/\gQ fu a=Z (decide<|R=xc a,0):=by
 have hc:=qg a;have hd:=km a;have⟨g,R,h1,r,e,s⟩:=Pw b k hl h0 l d m n o c;refine⟨g,R,e,?_⟩;unfold gQ;rw[Y<|Yn b W W c,iq h0,Y<|vP b W W c,Y<|UW (dK b) W W c,Y h1];by_cases i:X g=1
 ·rw[zP,Z0<|e.one.1 i]
 ·rw[zA,uT λh=>i<|e.one.2 h]
def E9:wh 65521=I:=zcw ⟨iI,iI,λd h1 e=>by
 have c:d<256:=by
  refine xai λhn=> ?_;have:=xbM (W:256<=d) (W:256<=d);lia
 have b:∀d:wr,d<256->2<=d->65521%d≠0:=by decide+kernel
 exact b d c h1⟩
def tE(h:65521<=q):wI fu q=Z (0,5):=by
 unfold wI;simp_all
def cL(h1:1<=q)(h:q<65521)(k:3000000<=fu):∃r,wI fu q=Z (r,0)/\wh r=I/\q<r/\∀s,q<s->s<r->wh s=wL:=by
 unfold wI;have⟨r,c,r1,r2,l⟩:=yr (f:=Kg fu) (λi:J=>q<i/\i<=65521/\∀s,q<s->s<i->wh s=wL) (λi=>(65521-i).toNat) (λr=>wh r=I/\q<r/\∀s,q<s->s<r->wh s=wL) (by
  rintro i L ⟨i1,i2,b⟩ d;unfold Kg;rw[Y<|WU W]
  cases hp:wh i with
  |true=>rw[ir iI];exact⟨_,O,hp,i1,b⟩
  |false=>
   have m:i≠65521:=λe=>by rw[e,E9]at hp;cases hp
   rw[iq iI,zb];refine d _ ⟨W,W,λs h1 j=> ?_⟩ W;by_cases e:s=i
   ·simp_all
   ·exact b s h1 W) fu (q+1) ⟨W,W,λs h1 j=>by lia⟩ W
 rw[zA,Q,(W:max q 1=q),zb,Y c];simp_all
def uM(R:N M)(p:J):Prop:=wh p=I/\H R (X R-1)%p≠0/\qB p (H R) (dvp<|H R)
def Hn{x:J}(h:Cg p g (D x*f))(hc:qB p g (dvp g)):qB p f (dvp f):=by
 have h1:Cg p (dvp g) (D x*dvp f):=(Tc h).trans (Cg.of (by
  rw[QV,znD];funext k;rw[zI,zQ,zH,xco]))
 have⟨s,t,fs,b,e⟩:=hc.congr h h1;refine⟨s*D x,t*D x,fs.mul<|Fs.pc x,b.mul<|Fs.pc x,?_⟩;rw[zd,zd];exact e
def UO(hp:0<p:=by lia)(b:0<X R:=by lia):X (qU p R)=X R↔H R (X R-1)%p≠0:=by
 have hn:=(WY hp R).nl;constructor
 ·intro h;obtain h1|h1:=hn
  ·lia
  ·rw[h,KQ]at h1;exact h1
 ·intro h;have:=zjC p R;by_cases e:X (qU p R)=X R
  ·exact e
  ·exfalso;rw[<-KQ,zU W]at h;lia
def zhM(hp:wh p=I)(v:0<X R)(hl:X R<=65)(w:X (qU p R)=X R)(h:3000000<=fu:=by lia):
 ∃m b,zg3 p (qU p R) m/\xH p m/\uw fu (qU p R) p=Z (b,0)/\(b=I↔qB p (U m) (dvp<|U m))/\ux fu (qU p R) p=if b=I then Z (m,0)else Z ([],1):=by
 have⟨i,z⟩:=zo hp;have e:=WY (p:=p) W R;have⟨m,b,h1,c,j,l,n⟩:=sP (fu:=fu) hp e W W h;refine⟨m,b,h1,c,?_,l,n⟩;have A:=h1.ln;have⟨x,x0,C,o,e1⟩:=ZA (fu:=fu) hp e;have⟨E,c1,c2,F⟩:=rP (fu:=fu) hp c W h;have d:=rY i e W o;have r:yH p (qU p R) [x]=m:=by
  have⟨_,y,_,s⟩:=d.cg;have⟨u,_,t,_⟩:=h1.cg;have hc:Cg p (U m) (D (u*y)*U (yH p (qU p R) [x])):=by
   rw[<-kH,zd];exact t.trans<|Cg.rfl.mul s
  have t1:=hc<|X m-1;have t2:=d.top;have t3:=d.ln;rw[c.top,zS,(W:X m-1=X (yH p (qU p R) [x])-1),t2,xck]at t1;refine(c.fm.ext d.fm<|hc.trans ?_).symm;refine(Cg.mul (f':=D 1) (λk=> ?_) Cg.rfl).trans<|Cg.of<|zC _;unfold D;split
  ·exact t1.symm
  ·rfl
 rw[r]at e1;rw[<-j];unfold uw Xn;rw[Y e1,Y c1]
def C6{m:N J}(h:zg3 p (qU p R) m):qB p (U m) (dvp<|U m)↔qB p (H R) (dvp<|H R):=by
 have⟨x,y,b,c⟩:=h.cg;exact⟨λhc=>Hn (b.trans<|Cg.rfl.mul<|gU p R) hc,λhc=>Hn ((gU p R).symm.trans c) hc⟩
def AO(h:zZ R=R)(c:yI K R)(j:K<=300)(h0:cH R=0)(i:3000000<=fu):∃b,QQ fu R p=Z (b,0)/\(b=I↔uM R p):=by
 have k:=Ky h0;rw[h]at k;unfold QQ;have⟨y,l,_⟩:=cq (fu:=fu) c j W i;rw[Y l,h0];simp only[uP];rw[Y<|WU W]
 cases hp:wh p with
 |false=>
  rw[iq iI];exact⟨_,O,λe=>wS e iI,λe=>by rw[e.1]at hp;cases hp⟩
 |true=>
  have⟨s,n⟩:=zo hp;rw[ir iI,Y<|uW c W W n];simp only;rw[Y<|zM c W W i,show xJ (X R) (H R)=R from h];by_cases d:X (qU p R)=X R
  ·have⟨m,b,h1,t,o,r,_⟩:=zhM (fu:=fu) hp W W d;rw[zP,Y o];refine⟨b,O,?_⟩;rw[r,C6 h1];exact⟨λhc=>⟨hp,(UO).1 d,hc⟩,λhc=>hc.2.2⟩
  ·rw[zA];exact⟨_,O,λe=>wS e iI,λe=>wS ((UO).2 e.2.1) d⟩
structure zgj(R:N M)(p:J)(l:N (N J)):Prop where
 el:∀g∈l,QI p g/\SW p g/\g.length<=66
 pw:l.Pairwise λa b=>qB p (U a)<|U b
 cg:Cg p (H R) (D (H R<|R.length-1)*prZ (l.map U))
 ln:l.length<=R.length-1
def Pf{p:J}:∀{l:N (N J)},(∀g∈l,xH p g/\1<X g)->∃d,Mn (prZ<|l.map U) d/\X l<=d
 |[],_=>⟨0,⟨O,λk c=>by show D 1 k=0;unfold D;rw[zA]⟩,IR _⟩
 |g::l,h=>by
  have⟨h1,e⟩:=h g<|FS;have⟨d,hd,hl⟩:=Pf λx b=>h x<|UV _ b;exact⟨_,zlB h1.mn hd,by rw[xaw];lia⟩
def zdp(c:uM R p)(N:1<X R)(hl:X R<=13)(hd:Rl ds)(z:X ds<=1000)(A:3000001<=fu):∃l,Xr fu (qU p R) p ds=Z (l,0)/\zgj R p l:=by
 have⟨hp,C,hc⟩:=c;have⟨s,Q⟩:=zo hp;obtain⟨P,rfl⟩:=xaz (W:0<=p);have E:=(UO (p:=(P:J))).2 C;have⟨m,b,h1,h,S,F,u⟩:=zhM (fu:=fu) hp W W E;have n:=(C6 h1).2 hc;rw[iq<|F.2 n]at u;have⟨l,us,e1,T,e,i⟩:=AU (fu:=fu) (b:=b) hp (WY W R) W W hd z A h1 h u n;have V:=h1.ln;have hi:∀g∈l,X g<=66:=λg c=>by
  have⟨q,fq,G⟩:=e.dv c;have:=Km s h (e.mn g c).1 fq G;lia
 refine⟨l,e1,λg c=>⟨i g c,⟨λj _=>⟨(e.mn g c).1.fm.nn j,(e.mn g c).1.fm.lt j⟩,(e.mn g c).2,(e.mn g c).1.top⟩,hi g c⟩,?_,?_,?_⟩
 ·refine xdl.2 λ{a b} o=> ?_;have r:a∈l:=o.subset iP;have v:b∈l:=o.subset iP;refine(i a r).cop hp (i b v) (by have:=hi a r;lia) (by have:=hi b v;lia) λhn=> ?_;subst hn;have:=pN (p:=(P:J)) (o.map U) bn;refine qB.sq s (i a r) n<|Di.cg ?_ e.pr.symm;refine Di.trans ⟨D 1,Fs.pc 1,Cg.of ?_⟩ this;show U a*(U a*D 1)=_;rw[yf,zC]
 ·have⟨x,y,Y,H⟩:=h1.cg;have w:=(gU (P:J) R).symm.trans H;have t:=w<|X R-1;rw[zS,(W:X R-1=X m-1),h.top,xck,(W:X m-1=X R-1)]at t;refine w.trans<|Cg.mul (λk=> ?_) e.pr;unfold D;split
  ·exact t.symm
  ·rfl
 ·have⟨d,hd,hu⟩:=Pf e.mn;have L:=h.mn;have M:(1:J)%(P:J)=1:=xaD iI W;have t1:=e.pr d;rw[hd.1,M]at t1;by_cases hv:d<=X m-1
  ·lia
  ·rw[L.2 d W,xah]at t1;cases t1
theorem BC(G:zZ R=R)(C:yI K R)(H:K<=300)(h0:cH R=0)(M:1<X R)(hl:X R<=13)(hd:Rl ds)(hp:X ds<=1000)(P:3000001<=fu):
 ∃p l,Jf fu R ds=Z (p,l)/\((p=0/\∀q,¬uM R q)\/(uM R p/\zgj R p l)):=by
 have hi:∀{q r:J},(∀s,s<=q->¬uM R s)->(∀s,q<s->s<r->wh s=wL)->∀s,s<r->¬uM R s:=λ{q r} h1 y s v d=>by
  by_cases h:s<=q
  ·simp_all
  ·have:=y s W v;rw[d.1]at this;grind
 have Q:∀{q:J},65521<=q->(∀s,s<=q->¬uM R s)->∀s,¬uM R s:=λ{q} w h s d=>by
  have:=(zo d.1).2;exact h s W d
 obtain⟨s,v,p,l,rfl,S⟩:=yr (f:=JU fu R ds) (λs:J×J×N (N J)×J×J=>(s.2.2.2.2=0->wh s.2.2.2.1=I)/\0<=s.2.1/\((s.1=0/\s.2.1=0/\(s.2.2.2.2=0->∀q,q<s.2.2.2.1->¬uM R q)/\(s.2.2.2.2≠0->∀q,¬uM R q))\/(uM R s.1/\zgj R s.1 s.2.2.1))) (λs=>if s.2.2.2.2=0 then(65522-s.2.2.2.1).toNat else 0)
  (λr=>∃p l,r=(p,l)/\((p=0/\∀q,¬uM R q)\/(uM R p/\zgj R p l))) (by
  rintro⟨b,n,out,q,e⟩ L ⟨i1,i2,m⟩ o
  simp only at i1 i2 m o
  unfold JU
  simp only
  by_cases i:e=0
  ·have w:=i1 i
   have⟨q1,q2⟩:=zo w
   rw[iq i]
   by_cases hn:n<5
   ·have⟨c,c1,c2⟩:=AO (fu:=fu) (p:=q) G C H h0 W
    rw[iq hn,Y c1]
    have hc:∃r u,wI fu q=Z (r,u)/\(u=0->wh r=I/\q<r/\∀s,q<s->s<r->wh s=wL)/\(u≠0->65521<=q):=by
     by_cases h:65521<=q
     ·exact⟨0,5,tE h,λh=>wS h iI,λ_=>h⟩
     ·have⟨r,h1,y⟩:=cL (fu:=fu) (q:=q) W W W;exact⟨r,0,h1,λ_=>y,λh=>wS O h⟩
    have⟨r,u,n1,n2,T⟩:=hc
    have x:(if u=0 then(65522-r).toNat else 0)<(if e=0 then(65522-q).toNat else 0):=by
     rw[iq i];split
     ·have:=n2 (by assumption);lia
     ·lia
    cases c with
    |false=>
     have U:¬uM R q:=λd=>by have:=c2.2 d;cases this
     rw[iq iI,Y n1]
     refine o _ ⟨λh=>(n2 h).1,i2,?_⟩ x
     rcases m with⟨k,z,D,E⟩|j
     ·have F:∀s,s<=q->¬uM R s:=λs v d=>by
       by_cases h:s=q
       ·rw[h]at d;exact U d
       ·exact D i s W d
      exact .inl ⟨k,z,λh=>hi F (n2 h).2.2,λh=>Q (T h) F⟩
     ·exact .inr j
    |true=>
     have d:=c2.1 O
     have⟨t,t1,t2⟩:=zdp (fu:=fu) d M hl hd hp P
     rw[ir iI,zb,Y<|uW C W W q2]
     simp only
     rw[Y t1]
     simp only
     by_cases A:b=0
     ·rw[iq A,Y n1]
      exact o _ ⟨λh=>(n2 h).1,by show 0<=n+1;lia,.inr ⟨d,t2⟩⟩ x
     ·have j:uM R b/\zgj R b out:=by
       rcases m with⟨k,_⟩|j
       ·exact wS k A
       ·exact j
      rw[ir A]
      split
      ·rw[Y n1]
       exact o _ ⟨λh=>(n2 h).1,by show 0<=n+1;lia,.inr ⟨d,t2⟩⟩ x
      ·rw[Y n1]
       exact o _ ⟨λh=>(n2 h).1,by show 0<=n+1;lia,.inr j⟩ x
   ·rw[ir hn]
    refine⟨_,O,b,out,O,?_⟩
    rcases m with⟨k,z,_⟩|j
    ·lia
    ·exact .inr j
  ·rw[ir i]
   refine⟨_,O,b,out,O,?_⟩
   rcases m with⟨k,z,D,E⟩|j
   ·exact .inl ⟨k,E i⟩
   ·exact .inr j) fu (0,0,[],2,0) ⟨λ_=>zcT,xft 0,.inl ⟨O,O,λ_ q w d=>by have:=(zo d.1).1;simp only at w;lia,λh=>wS O h⟩⟩ (by
   show(if(0:J)=0 then((65522:J)-2).toNat else 0)<fu
   rw[iq O]
   lia)
 refine⟨p,l,?_,S⟩;unfold Jf;have⟨r,r1,r2,r3,V⟩:=cL (fu:=fu) (q:=1) iI iI W;have:r=2:=by
  by_cases h:r=2
  ·exact h
  ·have h5:=(zo r2).1;have:=V 2 iI W;rw[zcT]at this;cases this
 subst this;rw[Y r1];simp only;rw[Y v]
end
def zbW(d:K)(c:J):(H (Nm d (wL,[])++[ya c]):Pz)=mono d c:=qR λj=>by
 rw[zeY];unfold sh mono H;by_cases h:d<=j
 ·rw[iq h];by_cases e:j=d
  ·rw[iq e,e,xdb];exact zn c
  ·rw[ir e,xaa,xbP<|by simp;lia];rfl
 ·rw[ir h,zA]
def B5{K d:wr}{c:J}(h:Bz K c):yI K (Nm d (wL,[])++[ya c]):=λz hz=>by
 obtain hz|hz:=So.1 hz
 ·rw[(xei.1 hz).2];exact⟨zm.nil,xac _⟩
 ·rw[xad.1 hz];exact⟨yo _,h.len⟩
def znK{B A R Q:Pz}(b:Fs Q)(e:A=Q*B+R):Zd B A↔Zd B R:=by
 have a:Zd B (Q*B):=⟨Q,b,O⟩;constructor
 ·intro h;have:R=A-Q*B:=qR λk=>by rw[e,yY,zI];lia
  rw[this];exact h.sub a
 ·intro h;rw[e];exact a.add h
def Fb{fu K g:wr}{a b:N M}(ha:yI K a)(hb:yI g b)(hK:K+(X a+1)*(g+1)<=30000)(hL:X a<=1000)(hC:X b<=1000)(h0:X (zZ b)≠0)(o:3000000<=fu):
 ∃q e,kJ fu a b=Z (q,e)/\(e=0↔Zd (H b) (H a))/\(e=0->(H a:Pz)=H q*H b/\zZ q=q/\X q<=X a):=by
 obtain⟨B,u⟩:∃B,B=zZ b:=⟨_,O⟩;have hD:(H B:Pz)=H b:=qR λk=>by rw[u];exact kS b k
 have A:yI g B:=by rw[u];exact Ua hb
 have nB:zZ B=B:=by rw[u];exact N3 b
 have lB:X B<=1000:=by rw[u];exact xae (qg b) hC
 have hF:X B≠0:=by rw[u];exact h0
 have E:Tp (H B) (X B-1):=by have:=YD (a:=B) (by rw[nB];exact hF);rwa[nB]at this
 have hG:=qg a;have hJ:∀s,s<=X a->s*(g+1)+(g+1)<=(X a+1)*(g+1):=λs hs=>by
  have:=xan (g+1) (W:s+1<=X a+1);rwa[xaX,xbN]at this
 obtain⟨t,ht,hQ⟩:=yr (f:=WO fu) (λs=>∃(r q:N M),s=(B,r,q)/\zZ r=r/\zZ q=q/\(H a:Pz)=H q*H B+H r/\X r<=X a/\X q<=X a/\yI (K+(X a-X r)*(g+1)) r/\yI (K+(X a-X r)*(g+1)) q)
  (λs=>X s.2.1) (λt=>(∃q,t=Sum.inl q/\(H a:Pz)=H q*H B/\zZ q=q/\X q<=X a)\/(t=.inr ()/\¬Zd (H B) (H a))) (by
  rintro s L ⟨r,q,rfl,hr,hq,F,hM,hH,v,G⟩ ih
  unfold WO
  simp only
  have hy:=znK (Fs.cf q) F
  by_cases hN:0<X r
  ·have tR:Tp (H r) (X r-1):=by have:=YD (a:=r) (by rw[hr];lia);rwa[hr]at this
   have hs:=hJ (X a-X r) W
   generalize hS:K+(X a-X r)*(g+1)=S at v G hs
   have P:∀j,b7 (r.getD j (wL,[])):=v.okS W
   have R:∀j,b7 (B.getD j (wL,[])):=A.okS W
   rw[zP,zb,zb,(W:(X r:J)-1=((X r-1:wr):J)),yj,Q,zb,(W:(X B:J)-1=((X B-1:wr):J)),yj,Q,
    Y (UH (P _) (R _) o),YI,YI]
   simp only
   have T:Zd (H B) (H r)->∃n,X r-1=n+(X B-1)/\H B (X B-1)∣H r (X r-1):=λh=>by
    obtain⟨w,fw,e⟩:=h;obtain⟨n,hn⟩:=Tp.ex fw (xai λhn=>tR.1 (by
     have:w=D 0:=qR λk=>by rw[zH];exact xai λh=>hn ⟨k,h⟩
     rw[e,this,zS,xaP]))
    have h1:=(hn.mul E).uniq<|e▸tR;refine⟨n,h1.symm,w n,?_⟩;rw[<-h1,e,Jz hn.2 E.2,xbg]
   by_cases hO:X r<X B
   ·rw[zP]
    refine⟨_,O,.inr ⟨O,λh=> ?_⟩⟩
    obtain⟨n,h1,_⟩:=T<|hy.1 h
    lia
   ·rw[zA]
    obtain⟨l,hl⟩:∃l,l=H B (X B-1):=⟨_,O⟩
    obtain⟨w,U⟩:∃w,w=H r (X r-1):=⟨_,O⟩
    have V:l≠0:=by rw[hl];exact E.1
    rw[<-hl,<-U]at T⊢
    by_cases x:w%l=0
    ·have hE:exE w l=0:=by unfold exE;rw[ir V,iq x]
     have hX:exI w l=w/l:=by unfold exI;rw[ir V,iq x]
     have hA:w/l*l=w:=xeW<|xaF x
     obtain⟨c,hc⟩:∃c,c=w/l:=⟨_,O⟩
     rw[<-hc]at hA
     have bw:Bz S w:=by rw[U];exact v.bz _
     have y:Bz S c:=bw.le<|by rw[hc];exact xcc _ _
     obtain⟨d,hd⟩:∃d,X r=d+X B:=⟨X r-X B,W⟩
     rw[hE,hX,<-hc,iq O,(W:(X r:J)-(X B:J)=(d:J)),yJ,yL,Q,xr (by simp;lia),Q,Y<|XR G (B5 y) W W (by simp;lia) o,
      Y (JE (B5 y) A (by simp;lia) W o)]
     obtain⟨i,hi⟩:∃i,i=Nm d (false,[])++[ya c]:=⟨_,O⟩
     have hp:(H i:Pz)=mono d c:=by rw[hi];exact zbW d c
     have hP:X i=d+1:=by rw[hi];simp
     rw[<-hi]
     have oM:yI (S+g+1) (yW i B):=by
      have hm:zZ (yW i B)=yW i B:=(qc _ _).symm;rw[<-hm];refine yE λj=> ?_;rw[vZ,hp,qI];refine Bz.mono (j:=S+g) (y.mul ?_) W;unfold sh;split
      ·exact A.bz _
      ·exact Bz.zero _
     rw[Y<|JN (v.mono W) oM W W (by have:=jk i B;lia) o]
     obtain⟨m,C⟩:∃m,m=JC r (yW i B):=⟨_,O⟩
     have hu:∀k,H m k=H r k-c*sh (H B) d k:=λk=>by rw[C,BK,vZ,hp,qI]
     have hv:zZ m=m:=by rw[C];exact(qc _ _).symm
     have hI:X m<=X r-1:=nP (show m=xJ (X m) (H m)from hv.symm) λk hk=>by
      rw[hu];unfold sh;rw[zP];by_cases e:k=X r-1
      ·rw[e,<-U,(W:X r-1-d=X B-1),<-hl,hA];lia
      ·rw[zX W,zX W];lia
     have hR:S+(g+1)<=K+(X a-X m)*(g+1):=by
      have:=xan (g+1) (W:X a-X r+1<=X a-X m);rw[xaX,xbN]at this;lia
     have hT:=BL q i
     refine ih _ ⟨m,UA q i,by rw[C];rfl,hv,(qc _ _).symm,?_,W,?_,?_,?_⟩ (by show(JC r<|yW i B).length<X r;rw[<-C];lia)
     ·rw[F]
      funext k
      rw[zI,zI,hu,sI,ym,zI,hp,qI]
      lia
     ·have:=JH q i;lia
     ·have h9:yI (K+(X a-X m)*(g+1)) (zZ m):=yE λj=>by
       rw[hu];refine Bz.mono (j:=S+g+1) (Bz.sub ((v.bz j).mono W)<|y.mul ?_) W;unfold sh;split
       ·exact A.bz _
       ·exact Bz.zero _
      rwa[hv]at h9
     ·exact(gH G<|by rw[hi];exact B5 y).mono W
    ·have hE:exE w l=4:=by unfold exE;rw[ir V,ir x]
     rw[hE,ir iI]
     refine⟨_,O,.inr ⟨O,λh=> ?_⟩⟩
     obtain⟨_,_,h2⟩:=T<|hy.1 h
     exact x<|xav h2
  ·rw[zA]
   refine⟨_,O,.inl ⟨q,O,?_,hq,hH⟩⟩
   rw[F]
   funext k
   rw[zI,zX (p:=r) W,xbF]) fu (B,zZ a,[]) ⟨zZ a,[],O,N3 a,O,by
    funext k;rw[zI,kS];have:((H []:Pz)*H B) k=0:=by rw[show(H []:Pz)=D 0 from qR λk=>by rw[zX<|xac _,zH],zS,xaP]
    lia,hG,xac _,(Ua ha).mono W,λz hz=>by cases hz⟩ (by show(zZ a).length<fu;lia)
 unfold kJ;rw[Y<|yG hb (by have:=hJ 0 W;lia) W o,show xJ (X b) (H b)=zZ b from O,zA,Y<|yG ha W W o,show xJ (X a) (H a)=zZ a from O,<-u,Y ht];rw[hD]at hQ;rcases hQ with⟨q,rfl,h1,h2,h3⟩|⟨rfl,h1⟩
 ·exact⟨q,0,O,⟨λ_=>⟨H q,Fs.cf q,h1⟩,λ_=>O⟩,λ_=>⟨h1,h2,h3⟩⟩
 ·exact⟨[],4,O,⟨λh=>wS h iI,λh=>wS h h1⟩,λh=>wS h iI⟩
def zeu(r:N M)(l:J):(H (xJ (X r)<|λj=>H r j*zv (ya l)):Pz)=D l*H r:=qR λk=>by
 rw[jz (λj a=>by rw[zX a,xaP]),zn,zS,xbg]
def LO(r:N M)(f:K->J):X (xJ (X r) f)<=X r:=by rw[xv];exact vT _ _
def ou{fu bx b:wr}{x y:N M}(hx:zZ x=x)(R:zZ y=y)(hl:X y<=X x)(hL:0<X y)(hM:X x<=60)(bX:∀j,Bb bx<|H x j)(bY:∀j,Bb b<|H y j)(hT:bx+(X x-X y+1)*(b+1)<=2400000)(A:3000000<=fu):
 ∃q r c Q,uZ fu x y=Z (q,r,0)/\zZ r=r/\X r<X y/\c≠0/\Fs Q/\(D c*H x:Pz)=Q*H y+H r/\∀j,Bb (bx+(X x-X y+1)*(b+1)) (H r j):=by
 obtain⟨n,hn⟩:∃n,n=X x-X y+1:=⟨_,O⟩;rw[<-hn]at hT⊢;have ty:Tp (H y) (X y-1):=by
  have:=YD (a:=y) (by rw[R];lia);rwa[R]at this
 obtain⟨l,V⟩:∃l,l=H y (X y-1):=⟨_,O⟩;have hC:l≠0:=by rw[V];exact ty.1
 have C:Bb b l:=by rw[V];exact bY _
 have hp:∀d,d<=n->bx+d*(b+1)<=2400000:=λd hd=>by have:=xan (b+1) hd;lia
 have hN:b+1<=2400000:=by have:=hp 1 W;lia
 have oX:yI 37500 x:=by rw[<-hx];exact yE λj=>(bX j).bz W
 have oY:yI 37500 y:=by rw[<-R];exact yE λj=>(bY j).bz W
 have ol:zm (ya l).2/\(ya l).2.length<=37500:=⟨yo _,(C.bz (K:=37500) W).len⟩;have hF:y.getD (X y-1) (wL,[])=ya l:=by rw[V];exact U5 (show y=xJ (X y) (H y)from R.symm)
 have i:∀{s:wr}{r:N M},s<=n->zZ r=r->(∀j,Bb (bx+s*(b+1))<|H r j)->yI 37500 r:=λ{s r} E m h=>by rw[<-m];exact yE λj=>(h j).bz (by have:=hp s E;lia)
 have up:∀{s:wr}{z w v:J},Bb (bx+s*(b+1)) z->Bb (bx+s*(b+1)) w->Bb b v->Bb (bx+(s+1)*(b+1)) (l*z-w*v):=λ{s z w v} S T hv=>by
  have e:bx+(s+1)*(b+1)=b+(bx+s*(b+1))+1:=by rw[xaX];lia
  rw[e];refine Bb.sub (C.mul S) ?_;rw[xdO b];exact T.mul hv
 obtain⟨t,ht,s,r,q,rfl,E,m,P,hu,o,B,hb,Q,F,G⟩:=yr (f:=WC fu<|ya l) (λst:N M×N M×N M×J=>∃(s:wr) (r q:N M),st=(y,r,q,((n-s:wr):J))/\X r+s<=X x/\zZ r=r/\zZ q=q/\(∀j,Bb (bx+s*(b+1))<|H r j)/\(∀j,Bb (bx+s*(b+1))<|H q j)/\X q<=100/\s<=n/\∃Q:Pz,Fs Q/\D (l^s)*H x=Q*H y+H r) (λst=>X st.2.1)
  (λt=>∃(s:wr) (r q:N M),t=(r,q,((n-s:wr):J))/\s<=n/\zZ r=r/\zZ q=q/\X r<X y/\(∀j,Bb (bx+s*(b+1))<|H r j)/\(∀j,Bb (bx+s*(b+1))<|H q j)/\X q<=100/\∃Q:Pz,Fs Q/\D (l^s)*H x=Q*H y+H r) (by
  rintro st L ⟨s,r,q,rfl,hO,m,P,o,B,hb,E,Q,F,G⟩ ih
  unfold WC
  simp only
  by_cases hP:X y<=X r
  ·have tR:Tp (H r) (X r-1):=by have:=YD (a:=r) (by rw[m];lia);rwa[m]at this
   have hA:s+1<=n:=W
   obtain⟨w,T⟩:∃w,w=H r (X r-1):=⟨_,O⟩
   have hG:r.getD (X r-1) (wL,[])=ya w:=by rw[T];exact U5 (show r=xJ (X r) (H r)from m.symm)
   obtain⟨d,hd⟩:∃d,X r=d+X y:=⟨X r-X y,W⟩
   have oR:=i W m o
   have oQ:=i W P B
   have bw:Bb (bx+s*(b+1)) w:=by rw[T];exact o _
   have U:Bz 37500 w:=bw.bz (by have:=hp s E;lia)
   rw[zP,zb,(W:(X r:J)-(X y:J)=(d:J)),yJ,yL,ze,zb,(W:(X r:J)-1=((X r-1:wr):J)),yj,hG,ze,xr (by simp;lia),ze,
    Y (qv oQ ol iI W A)]
   obtain⟨q1,hc⟩:∃q1,q1=xJ (X q) (λj=>H q j*zv (ya l)):=⟨_,O⟩
   obtain⟨r1,hg⟩:∃r1,r1=xJ (X r) (λj=>H r j*zv (ya l)):=⟨_,O⟩
   obtain⟨g,hi⟩:∃g,g=Nm d (false,[])++[ya w]:=⟨_,O⟩
   have c1:(H q1:Pz)=D l*H q:=by rw[hc];exact zeu q l
   have c2:(H r1:Pz)=D l*H r:=by rw[hg];exact zeu r l
   have cp:(H g:Pz)=mono d w:=by rw[hi];exact zbW d w
   have l1:X q1<=X q:=by rw[hc];exact LO _ _
   have l2:X r1<=X r:=by rw[hg];exact LO _ _
   have lp:X g=d+1:=by rw[hi];simp
   have p:∀{z:J},Bb (bx+s*(b+1)) z->Bb (bx+(s+1)*(b+1)) (l*z):=λS=>by have:=up S (Bb.zero _)<|Bb.zero _;rwa[xaP,xcB]at this
   have o1:yI 37500 q1:=i hA (by rw[hc];exact(qc _ _).symm) λj=>by rw[c1,zS];exact p<|B j
   have o2:yI 37500 r1:=i hA (by rw[hg];exact(qc _ _).symm) λj=>by rw[c2,zS];exact p<|o j
   have op:yI 37500 g:=by rw[hi];exact B5 U
   have om:yI (37500+37500) (yW g y):=by
    have hm:zZ (yW g y)=yW g y:=(qc _ _).symm;rw[<-hm];refine yE λj=> ?_;rw[vZ,cp,qI];refine U.mul ?_;unfold sh;split
    ·exact oY.bz _
    ·exact Bz.zero _
   rw[<-hc,<-hi,Y<|XR o1 op iI W W A,Y<|qv oR ol iI W A,<-hg,Y<|JE op oY W W A,
    Y (JN (k:=37500+37500) (o2.mono iI) om iI W (by have:=jk g y;lia) A),zb,(W:(((n-s:wr):J)-1)=((n-(s+1):wr):J))]
   obtain⟨u,ho⟩:∃u,u=JC r1 (yW g y):=⟨_,O⟩
   have hB:∀k,H u k=l*H r k-w*sh (H y) d k:=λk=>by rw[ho,BK,vZ,cp,qI,c2,zS]
   have hD:zZ u=u:=by rw[ho];exact(qc _ _).symm
   have hK:X u<=X r-1:=nP (show u=xJ (X u) (H u)from hD.symm) λk hk=>by
    rw[hB];unfold sh;rw[zP];by_cases e:k=X r-1
    ·rw[e,<-T,(W:X r-1-d=X y-1),<-V,xbg];lia
    ·rw[zX W,zX W];lia
   refine ih _ ⟨s+1,u,UA q1 g,by rw[ho];rfl,W,hD,(qc _ _).symm,λj=> ?_,λj=> ?_,by have:=JH q1 g;lia,hA,D l*Q+mono d w,((Fs.pc l).mul F).add ⟨d+1,λj hj=>zA⟩,?_⟩ (by show(JC r1<|yW g y).length<X r;rw[<-ho];lia)
   ·rw[hB]
    refine up (o j) bw ?_
    unfold sh
    split
    ·exact bY _
    ·exact Bb.zero _
   ·rw[BL,c1,zS,cp]
    have:l*H q j+mono d w j=l*H q j-mono d (-w) j*1:=by unfold mono;split<;>lia
    rw[this]
    refine(up (B j) ?_ (v:=1) ?_)
    ·unfold mono
     split
     ·show(-w).natAbs<_;rw[Int.natAbs_neg];exact bw
     ·exact Bb.zero _
    ·have h1:(1:wr)<=l.natAbs:=Nat.one_le_iff_ne_zero.2<|Int.natAbs_ne_zero.2 hC
     exact C.le h1
   ·rw[xbr,xbg,<-kH,zd,G,xg,ym,zd]
    funext k
    rw[zI,zI,zI,qI,hB,zS l<|H r]
    lia
  ·rw[zA]
   exact⟨_,O,s,r,q,O,E,m,P,W,o,B,hb,Q,F,G⟩) fu (y,x,[],(n:J)) ⟨0,x,[],iP,W,hx,O,λj=>by rw[xcx];exact bX j,λj=>by rw[zX (xac _)];exact Bb.zero _,iP,W,D 0,Fs.pc 0,by funext k;rw[zI,zS,zQ,zH,xbI,xcv,xco]⟩ (by show X x<fu;lia)
 obtain⟨t2,hH,r2,q2,rfl,hI,hE,a0,Q2,a1,hJ⟩:=yr (f:=Wc fu<|ya l) (λst:N M×N M×J=>∃(s:wr) (r q:N M),st=(r,q,((n-s:wr):J))/\s<=n/\zZ r=r/\zZ q=q/\X r<X y/\(∀j,Bb (bx+s*(b+1))<|H r j)/\(∀j,Bb (bx+s*(b+1))<|H q j)/\X q<=100/\∃Q:Pz,Fs Q/\D (l^s)*H x=Q*H y+H r) (λst=>st.2.2.toNat)
  (λt=>∃(r q:N M),t=(r,q)/\zZ r=r/\X r<X y/\(∀j,Bb (bx+n*(b+1))<|H r j)/\∃Q:Pz,Fs Q/\D (l^n)*H x=Q*H y+H r) (by
  rintro st L ⟨s,r,q,rfl,E,m,P,hu,o,B,hb,Q,F,G⟩ ih
  unfold Wc
  simp only
  by_cases h0:s<n
  ·have p:∀{z:J},Bb (bx+s*(b+1)) z->Bb (bx+(s+1)*(b+1)) (l*z):=λS=>by have:=up S (Bb.zero _)<|Bb.zero _;rwa[xaP,xcB]at this
   have l1:=LO q<|λj=>H q j*zv (ya l)
   have l2:=LO r<|λj=>H r j*zv (ya l)
   rw[zP,Y<|qv (i W P B) ol iI W A,Y<|qv (i W m o) ol iI W A,zb,(W:(((n-s:wr):J)-1)=((n-(s+1):wr):J))]
   refine ih _ ⟨s+1,_,_,O,h0,(qc _ _).symm,(qc _ _).symm,W,λj=> ?_,λj=> ?_,W,D l*Q,(Fs.pc l).mul F,?_⟩ (by show((n-(s+1):wr):J).toNat<((n-s:wr):J).toNat;lia)
   ·rw[zeu,zS];exact p<|o j
   ·rw[zeu,zS];exact p<|B j
   ·rw[zeu,xbr,xbg,<-kH,zd,G,xg,zd]
  ·obtain rfl:s=n:=W
   rw[zA]
   exact⟨_,O,r,q,O,m,hu,o,Q,F,G⟩) fu (r,q,((n-s:wr):J)) ⟨s,r,q,O,E,m,P,hu,o,B,hb,Q,F,G⟩ (by show((n-s:wr):J).toNat<fu;lia)
 refine⟨q2,r2,l^n,Q2,?_,hI,hE,Int.pow_ne_zero hC,a1,hJ,a0⟩;unfold uZ;rw[Y<|yG oY iI W A,show xJ (X y) (H y)=y from R,zA,Y<|yG oX iI W A,show xJ (X x) (H x)=x from hx,zb,(W:(X y:J)-1=((X y-1:wr):J)),yj,hF,ze,zb,zb,(W:(X x:J)-(X y:J)+1=(n:J)),Y ht];simp only;rw[Y hH]
section
variable{fu K:wr}{a:xS Zr}
def ER{m o:wr}{b:N M}(i:zZ a=a)(r:zZ b=b)(hc:yw a=1)(w:X b<X a)(y:X a<=60)(s:∀j,Bb m<|H a j)(t:∀j,Bb o<|H b j)(z:GcZ m o (X a) (X b))(V:m<=639000)(hk:o<=639000)(c:3000000<=fu):
 ∃g,VL fu a b=Z g/\zZ g=g/\Pm (H g)/\Po (H g)/\X g<=X a/\∀d,Fs d->Pm d->(Zd d (H g)↔Zd d (H a)/\Zd d (H b)):=by
 have u:yI 9985 a:=by rw[<-i];exact yE λj=>(s j).bz W
 have p:yI 9985 b:=by rw[<-r];exact yE λj=>(t j).bz W
 have hd:xc a=a:=ia (ke a) i λk=>by rw[Ye,hc,Int.ediv_one]
 have⟨e,f⟩:=VS (a:=a) (by rw[i];lia);rw[hd]at e f;have⟨x,A,v,C,D,E,F,G⟩:=zgb (B:=mx fu) (Ps:=uZ fu) (Pr:=qb fu) (n:=fu) (λ_ _ _=>O) (λh h1 q=>ua h h1 q) (λh1 q L P Q R S T=>ou h1 q L P Q R S T c) i e f r w y s t z W;have b1:=(Bz.one' (k:=1)<|IR _);have U:=(pQ p);have hi:xJ (X x) (λj=>H x j*1)=x:=by rw[show(λj=>H x j*1)=H x from qR λj=>xck _];exact v
 refine⟨x,?_,v,C,D,E,G⟩;unfold VL;rw[Y<|YQ u iI W c,Y<|YQ p iI W c,hc,Y<|eJ (K:=9985) (yo _) (yo _) (xae b1.len iI) U.len iI c,zn,zn,show Int.natAbs 1=1 from O,Nat.gcd_one_left,show((1:wr):J)=1 from O,Y<|ua u,Y<|ua p,hd,Y A,Y<|qv (l:=1) F ⟨yo _,b1.len⟩ iI W c,zn];show Z (xJ (X x) λj=>H x j*1)=_;rw[hi]
def tM(b:yI K a)(f:K+1<=100000)(hl:X a<=1000)(c:3000000<=fu):Vg fu a=Z (xJ (X a-1)<|dvp<|H a):=by
 unfold Vg;rw[Y (v:=zi (X a-1)<|dvp<|H a)]
 ·have o:yI (K+1) (zi (X a-1)<|dvp<|H a):=YM λj=>by
   by_cases g:j+1<X a
   ·show Bz _ (((j+1:wr):J)*H a (j+1));rw[xbg];exact(b.bz _).mul<|Bz.nat W
   ·show Bz _ (((j+1:wr):J)*H a (j+1));rw[zX W,xaC];exact Bz.zero _
  rw[Y<|yG o W (by rw[yh];lia) c,yh,sY]
 ·refine zw (λs=>∃k:wr,k<=X a-1/\s=(zi k<|dvp<|H a,((k+1:wr):J))) (λs=>X a-s.2.toNat) _ ?_ fu _ ⟨0,xac _,O⟩ (by show X a-1<fu;lia);rintro s L ⟨k,i,rfl⟩ d;unfold bU;simp only;by_cases h:k+1<X a
  ·have e:=b.okZ W<|k+1;have b1:Bz 1 ((k+1:wr):J):=Bz.nat W;rw[zP,zp h,Q,Y<|vz ⟨W,W⟩,Y (wg e<|b1.ok iI),zn,YI,xr (by rw[yh];simp;lia),Q,zb];refine d _ ⟨k+1,W,?_⟩ (by show X a-(((k+1:wr):J)+1).toNat<X a-((k+1:wr):J).toNat;lia);rw[show zi (k+1) (dvp<|H a)=zi k (dvp<|H a)++[ya<|dvp (H a) k]from o7.symm];congr 2;show[ya<|H a (k+1)*((k+1:wr):J)]=[ya<|((k+1:wr):J)*H a (k+1)];rw[xbg]
  ·rw[zA];obtain rfl:k=X a-1:=W
   rfl
def nU{B b:wr}(h:yI K a)(t:K<=100)(hl:X a<=40)(h0:cH a=0)(k:∀j,Bb B<|H a j)(c:∀j,Bb b<|H a<|j+1)(l:B<=6000)(u:b<=6000)(m:GcZ B (b+6) (X (zZ a)) (X (zZ a)-1))(d:3000000<=fu):
 ∃g R,Fa a g R/\ug fu a=Z R/\∀j,Bb (B+X (zZ a)+4) (H R j):=by
 have hc:=qg a;have hd:=km a
 have⟨g,R,h1,n,o,p⟩:=zcU (Gc:=VL fu) (Dv:=kJ fu) hl h0 k c l (λ{x y} g1 e i q f r s=>ER g1 e i W W r s (by rw[(W:X y=X (zZ a)-1),f];exact m) W W d)
  (λ{x y} g1 e i q f=>Fb g1 e (by have:=xan (97+1) (W:X x+1<=41);lia) W W f d)
 refine⟨g,R,o,?_,p⟩;unfold ug;rw[Y<|ua h,Y<|tM (dK h) W W d,Y h1,Y n]
end
section
variable{fu K Y:wr}{a b R:xS Zr}
theorem zbM(f g:wr->J):∀n,Ie f g n= -1\/Ie f g n=0\/Ie f g n=1
 |0=> .inr (.inl O)
 |n+1=>by
  unfold Ie;split
  ·exact zbM f g n
  ·lia
theorem RZ(a b:N M):Q4 a b= -1\/Q4 a b=0\/Q4 a b=1:=by grind [Q4,zbM]
theorem AZ(f:yI K a)(g:yI K b)(k:zZ a=a)(l:zZ b=b)(p:K<=40000)(hd:X a<=1000)(q:X b<=1000)(d:3000000<=fu):ZS fu a b=Z (decide<|Q4 a b<0):=by
 unfold ZS;rw[za<|zM f W W d,za<|zM g W W d,show xJ (X a) (H a)=a from k,show xJ (X b) (H b)=b from l];have hc:Q4 a b=if X a=X b then Ie (H a) (H b) (X a) else if X a<X b then-1 else 1:=O;by_cases hl:X a=X b
 ·rw[iq hl]at hc;rw[zP,zb,za (v:=if Q4 a b=0 then Sum.inl ()else Sum.inr (decide<|Q4 a b<0))]
  ·obtain h|h|h:=RZ a b<;>rw[h]<;>rfl
  ·rw[hc];refine zw (λs:J=>∃n:wr,s=(n:J)-1/\n<=X a/\Ie (H a) (H b) n=Ie (H a) (H b) (X a)) (λs=>(s+1).toNat) _ ?_ _ _ ⟨X a,O,IR _,O⟩ (by show((X a:J)-1+1).toNat<fu;lia);rintro s L ⟨n,rfl,hn,c⟩ m;unfold dC
   cases n with
   |zero=>
    rw[zA,<-c];rfl
   |succ n=>
    have o:=f.get n;have ob:=g.get n;rw[(W:((n+1:wr):J)-1=(n:J)),zP,yj,Q,yj,Q,za<|Z7 (cX.of o W) (cX.of ob W) d,YI,YI];rw[show Ie (H a) (H b) (n+1)=if H a n=H b n then Ie (H a) (H b) n else if H a n<H b n then-1 else 1 from O]at c;by_cases e:H a n=H b n
    ·rw[iq e]at c;rw[iq<|wJ.2 e,zb];exact m _ ⟨n,O,W,c⟩ W
    ·rw[ir e]at c;rw[ir λh=>e<|wJ.1 h];unfold jy;by_cases i:H a n<H b n
     ·rw[iq i]at c⊢;rw[<-c,iq iI];rfl
     ·rw[ir i]at c⊢;rw[iq (W:H b n<H a n),<-c,ir iI];rfl
 ·rw[ir hl]at hc;rw[zA,hc];by_cases j:X a<X b
  ·rw[iq j,zP];rfl
  ·rw[ir j,zA];rfl
theorem oh(c:yI K a)(d:yI K b)(e:zZ a=a)(f:zZ b=b)(g:K<=40000)(hc:X a<=1000)(hd:X b<=1000)(h:3000000<=fu):j8 fu a b=Z (Q4 a b):=by grind [j8,za,AZ,Js,RZ]
def zk0:Od3 Q4 Gd:=⟨λx y z _ _ _ h1 d e=>by
 have f:=zam (a:=x) (b:=y) (c:=z) (by have:=Js x y;lia) (by have:=Js y z;lia);have:=Js x z;lia,λx y _ _ h1 d=>by
 have:=Js x y;lia⟩
def BdY(R:N M)(Y:wr):Prop:=∃r:wr,Y=(r+1)*2^(X R-1)/\(r:J)*r<iJ (H R) (X R)/\iJ (H R) (X R)<=((r:J)+1)*(r+1)
theorem zgl(c:zZ R=R)(e:yI K R)(f:K<=300)(h0:cH R=0)(g:3000000<=fu):∃Y,vo fu R=Z (ya (Y:wr),0)/\BdY R Y:=by
 have d:=Ky h0;have h:=YA (show R=xJ (X R) (H R)from c.symm) (by rw[c]at d;lia);have⟨y,h1,i⟩:=cq e f (by rw[c]at d;lia) g;obtain⟨r,rfl,j,k⟩:=i h0;rw[c]at h1 j k d;have hc:=Cm (n:=X R) ⟨X R-1,W,h⟩;refine⟨_,by rw[h1,h0],r,O,?_,?_⟩
 ·lia
 ·grind
def znO{x y:wr}(h:x*x<=y*y):x<=y:=by
 refine xai λhn=> ?_;have:=xdF (W:y<x) (W:y<x);lia
theorem zoT{M:J}(m:0<X R)(c:Tp (H R) (X R-1))(hp:0<H R (X R-1))(g:BdY R Y)(n:2*((Y:J)*H R (X R-1))<M):Bdz M (H R):=λu v b fu hv e j=>by
 obtain⟨r,rfl,_,h⟩:=g;have⟨i,_⟩:=VX c.nz e;have⟨a,d⟩:=Tp.ex fu i;have k:a+b=X R-1:=by
  have:=d.mul hv;rw[<-e]at this;exact this.uniq c
 have l:(v b*u j).natAbs<=(r+1)*2^(X R-1):=by
  refine znO ?_;have o:((v b*u j).natAbs*(v b*u j).natAbs:wr)=(v b*u j*(v b*u j)).natAbs:=(xcK _ _).symm;have p:(((r+1)*2^(X R-1)*((r+1)*2^(X R-1)):wr):J)=4^(X R-1)*(((r:J)+1)*(r+1)):=by
   have:(4:J)^(X R-1)=2^(X R-1)*2^(X R-1):=by rw[(iI:(4:J)=2*2),Int.mul_pow]
   grind
  have h0:=YV<|v b*u j;have q:v b*u j*(v b*u j)<=4^(X R-1)*(((r:J)+1)*(r+1)):=by
   have f:=mig d hv e j;rw[k,(W:X R-1+1=X R)]at f;exact Int.le_trans f<|xaU h<|Int.pow_nonneg iI
  lia
 have s:(((r+1)*2^(X R-1):wr):J)*1<=(((r+1)*2^(X R-1):wr):J)*H R (X R-1):=xaU W W;lia
theorem zeJ(k:zZ R=R)(d:yI K R)(l:K<=300)(hl:0<X R)(m:X R<=65)(i:vo fu R=Z (ya (Y:wr),0))(e:Bz 1000 (Y:J))(f:3000000<=fu):QM fu R=Z (decide<|1000<bl (2*((Y:J)*H R (X R-1))).natAbs):=by
 have b2:Bz 1 2:=by unfold Bz;decide
 have ob:=d.get<|X R-1;have j:=d.bz<|X R-1;have g:=e.mul j;have c:=b2.mul g;unfold QM;rw[za i];simp only;rw[za (yq iI),(W:(X R:J)-1=((X R-1:wr):J)),zb,yj,Q,za<|yB (e.ok iI) (cX.of ob W) f,zn,YI,za<|yB (b2.ok iI) (g.ok W) f,zn,zn,za<|W6 (yo _) (by have:=c.len;lia) (by have:=c.len;lia),show A (ya<|2*((Y:J)*H R (X R-1))).2=(2*((Y:J)*H R (X R-1))).natAbs from ye _];by_cases h:1000<bl (2*((Y:J)*H R (X R-1))).natAbs
 ·grind
 ·grind
theorem ziQ{n k:wr}(h:bl n<=k):n<2^k:=by grind [AI,xaj,xau]
def zdi{p:J}(hp:wh p=I)(y:zZ R=R)(l:yI K R)(z:K<=300)(hl:0<X R)(A:X R<=65)(o:vo fu R=Z (ya (Y:wr),0))(m:Bz 1000 (Y:J))(i:bl (2*((Y:J)*H R (X R-1))).natAbs<=1000)(g:3000000<=fu):
 ∃k:wr,W9 fu R p=Z (k:J)/\1<=k/\k<=1000/\2*((Y:J)*H R (X R-1))<p^k:=by
 have⟨B,C⟩:=zo hp;have⟨E,q⟩:∃E,E=1000:=⟨_,O⟩;have i:=ziQ (k:=E) (by rw[q];exact i);have b2:Bz 1 2:=by unfold Bz;decide
 have ob:=l.get<|X R-1;have t:=l.bz<|X R-1;have n:=m.mul t;have c:=b2.mul n;have u:Bz 1 p:=by unfold Bz;rw[Nat.pow_one];lia
 have⟨T,d⟩:∃T,T=2*((Y:J)*H R (X R-1)):=⟨_,O⟩;have hd:∀k:wr,((2^k:wr):J)<=p^k:=λk=>by
  obtain⟨P,rfl⟩:=xaz (W:0<=p);have:=Nat.pow_le_pow_left (W:2<=P) k;have e:((P^k:wr):J)=(P:J)^k:=iP
  rw[<-e];lia
 obtain⟨r,v,k,rfl,k1,k2,w⟩:=yr (f:=Qj fu p<|ya T) (λs:J×M=>∃k:wr,s=((k:J),ya<|p^k)/\1<=k/\k<=1000) (λs=>1000-s.1.toNat) (λr=>∃k:wr,r=(k:J)/\1<=k/\k<=1000/\T<p^k) (by
  rintro s L ⟨k,rfl,k1,k2⟩ x;unfold Qj;simp only;have j:=sO hp k2;rw[za<|Z7 (j.ok iI) ((d▸c).ok W) g (by have:=j.len;lia) (by have:=(d▸c:Bz _ T).len;lia),zn,zn];by_cases h:T<p^k
  ·have hc:jy (p^k) T=1:=by unfold jy;rw[zA,iq h]
   rw[hc,ir iI];exact⟨_,O,k,O,k1,k2,h⟩
  ·have D:k<1000:=by
    refine xai λhn=> ?_;obtain rfl:k=E:=W
    have:=hd k;rw[<-d]at i;lia
   have hc:jy (p^k) T<=0:=by
    unfold jy;split
    ·decide
    ·first|decide|(rw[ir h];decide)
   rw[iq hc,za<|yq ⟨W,W⟩,za<|yB (j.ok iI) (u.ok iI) g,zn,zn,zb,<-xbr];exact x _ ⟨k+1,O,W,W⟩ (by show 1000-((k:J)+1).toNat<1000-(k:J).toNat;lia)) fu (1,ya p) ⟨1,by rw[xbr,xbI,xcv];rfl,W,W⟩ (by show 1000-(1:J).toNat<fu;lia)
 refine⟨k,?_,k1,k2,by rw[<-d];exact w⟩;unfold W9;rw[za o];simp only;rw[za (yq iI),(W:(X R:J)-1=((X R-1:wr):J)),zb,yj,Q,za<|yB (m.ok iI) (cX.of ob W) g,zn,YI,za<|yB (b2.ok iI) (n.ok W) g,zn,zn,<-d,za<|yq ⟨W,W⟩,za v]
end
def Bf{fu i:K}(hi:i<=200000)(f:3000000<=fu):KG fu [1] (i:J)=Z (yD<|2^i,0):=by
 obtain⟨q,m,b,rfl⟩:∃q m,m<64/\i=64*q+m:=⟨i/64,i%64,xaM _ iI,(xbp i 64).symm⟩;have e1:xcw ((64*q+m:K):J) 64=(q:J):=by rw[xcO W];lia
 have c:xbE ((64*q+m:K):J) 64=(m:J):=by rw[Int.tmod_eq_emod_of_nonneg W];lia
 have hp:2^m<18446744073709551616:=by
  have:=xdJ (a:=2) iI b;exact this
 have hv:A ((Nm (q+1) 0).set q<|2^m)=2^(64*q+m):=by
  have:=zaf (Nm (q+1) 0) q (2^m) iP;rw[XI,xaa,xfb,zP]at this;simp only[xeA,xcQ,xbO,xaJ]at this;rw[this,xbu,xbX]
 have d:zm ((Nm (q+1) 0).set q<|2^m):=λx e=>by
  obtain h|h:=xcS e
  ·rw[(xei.1 h).2];decide
  ·rw[h];exact hp
 unfold KG Ui
 rw[zA,zA,xr iI,e1,c,zb,zb,(W:(q:J)+1=((q+1:K):J)),yJ,yL,Q,xr iI,zb,xr iI,Q,yL,Q,zp iP,Q,
  (W:min ((m:J)).toNat 64=m),xbN,xam hp]
 show G (YY fu [1]<|(Nm (q+1) 0).set q<|2^m) _=_;rw[Y (fI (a:=[1]) (zm.cons iI zm.nil) d iI (by simp;lia)<|by simp;lia),hv,show A [1]=1 from O,xbN]
def AX{fu K:wr}{s:J}(q:0<=s)(b:Bz K s)(E:K<=1000)(d:3000000<=fu):∃r:wr,QL fu (ya s) 2=Z (ya (r:J),0)/\Bz (K+1) (r:J)/\r*r<=s.toNat/\s.toNat<(r+1)*(r+1):=by
 obtain⟨S,rfl⟩:=xaz q;rw[xaN];have F:bl S<=64*K:=Jt (by
  unfold Bz at b;rw[xbb,(iI:(18446744073709551616:wr)=2^64),<-xbX]at b;exact b)
 have u:A (ya (S:J)).2=S:=by show A (yD<|(S:J).natAbs)=S;rw[ye,xbb]
 have v:xcw ((bl S:wr):J) 2=((bl S/2:wr):J):=by rw[xcO W];lia
 have a:∀{r:wr},r*r<=S->Bz (K+1) (r:J):=λ{r} h=>by
  unfold Bz at b⊢;rw[xbb]at b⊢;obtain rfl|h0:=xbV r
  ·exact xaV iI
  ·have:r<=r*r:=xdm _ h0;rw[xbq];lia
 have⟨⟨t1,t2⟩,w,r,n,h1,g⟩:=yr (f:=JO fu (ya (S:J)) 2) (λst:J×M×M=>∃(k r:wr) (z:M),st=((k:J)-1,z,ya (r:J))/\k<=bl S/2+1/\r*r<=S/\S<(r+2^k)*(r+2^k)) (λst=>(st.1+1).toNat)
  (λt=>∃r:wr,t.2=ya (r:J)/\r*r<=S/\S<(r+1)*(r+1)) (by
  rintro st L ⟨k,r,z,rfl,G,h1,g⟩ o
  unfold JO
  simp only
  cases k with
  |zero=>
   rw[zA]
   exact⟨_,O,r,O,h1,g⟩
  |succ k=>
   have p:=a h1
   have l:Bz (K+1) ((2^k:wr):J):=by
    unfold Bz;rw[xbb,(iI:(18446744073709551616:wr)=2^64),<-xbX];exact xdJ iI W
   have B:zv (wL,yD<|2^k)=((2^k:wr):J):=by show((A (yD<|2^k):wr):J)=_;rw[ye]
   have⟨x,i⟩:∃x,x=r+2^k:=⟨_,O⟩
   have bx:Bz (K+2) (x:J):=by rw[i];have:=p.add l;exact this
   have b1:Bz 1 (1:J):=Bz.one'<|IR _
   have hd:zg (qH fu<|ya (x:J)) fu ((2:J),ya (S:J),(0:J),ya 1)=Z (2,ya (S:J),ya ((x*x:wr):J)):=by
    obtain⟨fu,rfl⟩:∃j,fu=j+1+1+1:=⟨fu-3,W⟩;rw[wA];generalize C:zg (qH (fu+1+1+1)<|ya (x:J)) (fu+1+1)=L;unfold qH;simp only;rw[iq iI,Y (wg (b1.ok iI)<|bx.ok W),zn,zn,xcv,nD iI,<-C,wA];generalize D:zg (qH (fu+1+1+1)<|ya (x:J)) (fu+1)=H;unfold qH;simp only;rw[iq iI,Y (wg (bx.ok W)<|bx.ok W),zn,nD iI,<-D,wA];unfold qH;simp only;rw[ir iI,xde]
   rw[(W:((k+1:wr):J)-1=(k:J)),zP,Y<|Bf W d]
   simp only
   rw[Y<|qD (p.ok W) ⟨zz _,xae ((zK (K+1)<|2^k).2<|by unfold Bz at l;rwa[xbb]at l) W⟩ d,zn,B,show(r:J)+((2^k:wr):J)=(x:J)by rw[i];lia,Y (vz (x:=1) iI),Y hd]
   simp only
   have c:Bz (K+2+(K+2)) ((x*x:wr):J):=by rw[xde];exact bx.mul bx
   rw[Y (dW (c.ok W) (b.ok W) d (xae c.len W)<|xae b.len W),zn,zn]
   have m:2^(k+1)=2^k+2^k:=by rw[xbq];lia
   by_cases hc:x*x<=S
   ·rw[iq (by
     have:¬0<jy ((x*x:wr):J) (S:J):=λh=>by have:=rf.1 h;lia
     lia),zb]
    exact o _ ⟨k,x,_,O,W,hc,by rw[i,xcM,<-m];exact g⟩ (by show((k:J)-1+1).toNat<(((k+1:wr):J)-1+1).toNat;lia)
   ·rw[ir (by
     have:=(rf (x:=((x*x:wr):J)) (y:=(S:J))).2 W;lia),zb]
    exact o _ ⟨k,r,_,O,W,h1,by rw[<-i];lia⟩ (by show((k:J)-1+1).toNat<(((k+1:wr):J)-1+1).toNat;lia)) fu (((bl S/2:wr):J),(wL,[]),ya 0) ⟨bl S/2+1,0,_,by congr 1;lia,IR _,xac _,by
   rw[xaJ,<-xbu]
   exact xaj (AI S)<|xau iI W⟩ (by show(((bl S/2:wr):J)+1).toNat<fu;lia)
 simp only at n;subst n;refine⟨r,?_,a h1,h1,g⟩;unfold QL;rw[ir iI,ir iI,Y<|q8 (b.ok W) d,zn,ir (λe=>by
  have:¬0<jy (0:J) (S:J)->Z5:=λ_=>wR;unfold jy at e;rw[zA]at e;split at e<;>exact wS e iI),Y (vz (x:=0) iI),Y (cm (yo _) (xae b.len W) (by have:=b.len;lia)),u,xr iI,v,zb,Y w]
def sU{fu K:wr}{R:N M}(g:zZ R=R)(a:yI K R)(F:K<=300)(h0:cH R=0)(b:3000000<=fu):∃Y,Vb fu R=Z (ya (Y:wr),0)/\BdY R Y/\Bz (K+K+4+2) (Y:J):=by
 have u:=Ky h0;rw[g]at u;have v:=YA (show R=xJ (X R) (H R)from g.symm) W;have hd:∀n,n<=70->Bz (K+K+1) (iJ (H R) n):=λn hn=>zaq a.bz n W;have w:1<=iJ (H R) (X R):=Cm ⟨X R-1,W,v⟩;have m:zg (Qk fu R) fu ((0:J),ya 0)=Z (ya<|iJ (H R) (X R)):=by
  refine zw (λs=>∃k:wr,k<=X R/\s=((k:J),ya<|iJ (H R) k)) (λs=>X R-s.1.toNat) _ ?_ fu _ ⟨0,xac _,O⟩ (by show X R-0<fu;lia);rintro s L ⟨k,o,rfl⟩ i;unfold Qk;simp only;by_cases h:k<X R
  ·have p:=a.okZ W k;have b2:=(a.bz k).mul<|a.bz k;rw[zP,zp h,Q,zp h,Q,za<|wg p p,YI,za<|qD ((hd k W).ok W) (b2.ok W) b,zn,zn,zb];exact i _ ⟨k+1,h,O⟩ (by show X R-((k:J)+1).toNat<X R-(k:J).toNat;lia)
  ·rw[zA];obtain rfl:k=X R:=W
   rfl
 obtain⟨S,f⟩:∃S,S=iJ (H R) (X R):=⟨_,O⟩;have j:Bz (K+K+1) S:=by rw[f];exact hd _ W
 rw[<-f]at m w;obtain⟨r,r1,r2,P,T⟩:=AX (fu:=fu) (s:=S) W j W b;have d:Bz (K+K+1+1+(K+K+1+1)) ((r:J)*r):=r2.mul r2;obtain⟨c,hc,hl,y⟩:∃c:wr,(G (wu fu (ya (r:J))<|ya (r:J)) λz=>G (Za fu z<|ya S) λA=>if A<(0:J)then G (wH fu (1:J)) λB=>G (vD fu (ya (r:J)) B) λC=>Z C else Z (ya (r:J)))=Z (ya (c:J))/\Bz (K+K+4) (c:J)/\∃q:wr,c=q+1/\(q:J)*q<S/\S<=((q:J)+1)*(q+1):=by
  rw[za (wg (r2.ok W)<|r2.ok W),zn,za (dW (d.ok W) (j.ok W) b (xae d.len W)<|xae j.len W),zn,zn]
  have U:((r:J)*r)<=S:=by
   have:((r*r:wr):J)<=(S.toNat:J):=W
   rw[xde]at this;lia
  have V:S<((r:J)+1)*(r+1):=by
   have:(S.toNat:J)<(((r+1)*(r+1):wr):J):=W
   rw[xde]at this
   have D:((r+1:wr):J)=(r:J)+1:=W
   rw[D]at this;lia
  by_cases t:(r:J)*r<S
  ·rw[qf t,iq iI,za (vz (x:=1) iI),za<|qD (r2.ok W) ((Bz.one'<|IR 1).ok iI) b,zn,zn];refine⟨r+1,O,?_,r,O,t,W⟩;have:=r2.add<|(Bz.one'<|IR 1).mono (W:1<=K+K+1+1);exact this.mono W
  ·have l:(r:J)*r=S:=ii
   rw[jX l,ir iI];have hr:r≠0:=λe=>by rw[e]at l;simp at l;lia
   refine⟨r,O,r2.mono W,r-1,W,?_,?_⟩
   ·have:(((r-1)*(r-1):wr):J)<((r*r:wr):J):=by
     have:=Nat.mul_lt_mul_of_lt_of_le (W:r-1<r) (W:r-1<=r) W;lia
    rw[xde,xde]at this;lia
   ·rw[(W:((r-1:wr):J)+1=(r:J))];lia
 obtain⟨q,rfl,hp,E⟩:=y;have b2:∀k,k<=X R->Bz (K+K+4+2) (((q+1)*2^k:wr):J):=λk o=>by
  rw[xde];refine hl.mul ?_;unfold Bz;rw[xbb,(iI:(18446744073709551616:wr)=2^64),<-xbX];exact xdJ iI W
 have hi:zg (Qc fu R) fu ((1:J),ya ((q+1:wr):J))=Z (ya (((q+1)*2^(X R-1):wr):J)):=by
  refine zw (λs=>∃k:wr,k+1<=X R/\s=(((k+1:wr):J),ya (((q+1)*2^k:wr):J))) (λs=>X R-s.1.toNat) _ ?_ fu _ ⟨0,W,by rw[xeJ,xdn];rfl⟩ (by show X R-1<fu;lia);rintro s L ⟨k,o,rfl⟩ i;unfold Qc;simp only;by_cases h:k+1<X R
  ·have b2:=b2 k W;rw[zP,za<|qD (b2.ok W) (b2.ok W) b,zn,zb];refine i _ ⟨k+1,W,?_⟩ (by show X R-(((k+1:wr):J)+1).toNat<X R-((k+1:wr):J).toNat;lia);congr 2;rw[xbq,<-xbl];lia
  ·rw[zA];obtain rfl:k=X R-1:=W
   rfl
 refine⟨(q+1)*2^(X R-1),?_,⟨q,O,by rw[<-f];exact hp,by rw[<-f];exact E⟩,b2 _ W⟩;unfold Vb;rw[za<|va a,iq h0,za<|yG a W W b,show xJ (X R) (H R)=R from g,za (vz (x:=0) iI),za m,za r1];simp only;rw[za hc,za hi]
section
variable{R a:xS Zr}{fu K B:wr}{ds:xS wl}
def Rq{R:N M->N J->Prop}:∀{us:N (N M)}{fs:N (N J)},Db R us fs->∃xs:N Lx,us=xs.map (·.1)/\fs=xs.map (·.2)/\∀x∈xs,R x.1 x.2
 |[],[],_=>⟨[],O,O,λ_ h=>wS h H1⟩
 |u::us,f::fs,h=>by
  have⟨xs,e1,b,c⟩:=Rq h.2;refine⟨(u,f)::xs,by rw[e1];rfl,by rw[b];rfl,λx hx=> ?_⟩;obtain rfl|hx:=xag.1 hx
  ·exact h.1
  ·simp_all
def zbK(R:N M):Prop:=∃Y,BdY R Y/\1000<bl (2*((Y:J)*H R (X R-1))).natAbs
theorem BdY.uniq{Y f:wr}(h:BdY R Y)(g:BdY R f):Y=f:=by
 obtain⟨r,rfl,h1,b⟩:=h;obtain⟨s,rfl,g1,d⟩:=g;have c:∀{r s:wr}{S:J},r*r<S->S<=(s+1)*(s+1)->¬s<r:=λ{r s S} h1 b e=>by
  have:((s:J)+1)*(s+1)<=r*r:=Int.mul_le_mul W W W W;lia
 grind
def A7(s:zZ R=R)(pm:Pm (H R))(ps:Po (H R))(E:yI K R)(hK:K<=200)(hl:X R<=11)(hd:Rl ds)(hV:X ds<=1000)(G:3000300<=fu):
 ∃l b,QO fu R ds=Z (l,b)/\(b=I↔X R<2\/(¬zbK R/\∃p,uM R p))/\(b=I->(∀g∈l,Gd g)/\H R=prZ (l.map λg=>(H g:Pz))/\l.Pairwise (λa b=>Q4 a b<0)/\X l<=12):=by
 have hJ:X (zZ R)≠0:=λe=>by
  have⟨j,hj⟩:=pm.nz;exact hj<|W1 e j
 have L:=YD hJ;rw[s]at hJ L;have hB:0<H R (X R-1):=by
  have⟨m,m1,m2⟩:=ps.tp;rw[<-m1.uniq L];exact m2
 unfold QO;by_cases h2:X R<2
 ·rw[zP];refine⟨[],I,O,⟨λ_=> .inl h2,λ_=>O⟩,λ_=>⟨λg u=>wS u H1,?_,List.Pairwise.nil,xac _⟩⟩;have⟨d,hd⟩:=((Cp.tp L).2 W).ex;have z:H R (X R-1)=d:=by rw[hd,(W:X R-1=0)];exact iq O
  rw[hd]at pm;obtain e|e:=CC pm
  ·rw[hd,e];rfl
  ·lia
 ·have h0:cH R=0:=by unfold cH;rw[s,zA,zA]
  have⟨Y,hY,V⟩:=zgl (fu:=fu) s E W h0 W;have hM:Bz 1000 (Y:J):=by
   obtain⟨r,rfl,z,M⟩:=V;have h5:=zaq (K:=K) (f:=H R) E.bz (X R) W;have h6:Bz 401 (r:J):=by
    refine Bz.nat ?_;refine xaK (show r<=r*r from Nat.le_mul_self r) ?_;have h7:((r*r:wr):J)=(r:J)*r:=iP
    have h8:=h5.mono (W:K+K+1<=401);unfold Bz at h8;lia
   have h9:Bz 402 (((r+1:wr):J)):=(h6.add<|Bz.one' (k:=401) iI).le W;have hW:Bz 1 (((2^(X R-1):wr):J)):=Bz.nat (by
    rw[Nat.pow_one];exact xaK (xau iI (W:X R-1<=10)) iI)
   have:=(h9.mul hW).mono (iI:402+1<=1000);rwa[<-xde]at this
  have hN:zbK R↔1000<bl (2*((Y:J)*H R (X R-1))).natAbs:=⟨λ⟨o,z1,z2⟩=>by rw[V.uniq z1];exact z2,λh=>⟨Y,V,h⟩⟩;rw[zA,za<|zeJ s E W W W hY hM W];by_cases u:1000<bl (2*((Y:J)*H R (X R-1))).natAbs
  ·rw[Z0 u,iq O];refine⟨[],wL,O,⟨λh=>wS h iI,λh=> ?_⟩,λh=>wS h iI⟩;obtain h|h:=h
   ·exact wS h h2
   ·exact wS (hN.2 u) h.1
  ·rw[uT u,ir iI];have⟨p,l,e1,hQ⟩:=BC (fu:=fu) s E W h0 W W hd hV W;rw[za e1];simp only;rcases hQ with⟨hX,hZ⟩|⟨hE,C⟩
   ·rw[iq hX];refine⟨[],wL,O,⟨λh=>wS h iI,λh=> ?_⟩,λh=>wS h iI⟩;obtain h|⟨_,q,hq⟩:=h
    ·exact wS h h2
    ·exact wS hq<|hZ q
   ·have⟨hp,P,hc⟩:=hE;have⟨p1,p2⟩:=zo hp;have⟨k,e2,k1,k2,k3⟩:=zdi (fu:=fu) hp s E W W W hY hM (xbs u) W;have hO:rK p (k:J)=(ya<|p^k,0):=by
     unfold rK;rw[aM ⟨hp,W,W⟩,xaN]
    have h1:=C.ln;rw[zA,za e2,za (uO W),hO];simp only;have h':WQ fu R l p=Z ([],R,l):=by
     unfold WQ;rw[za (v:=(R,l))];have⟨n,hn⟩:∃n,fu=n+1:=⟨fu-1,W⟩;have:zg (Qp fu p) (n+1) (R,l)=Z (R,l):=by
      rw[wA];unfold Qp;simp only;rw[zA]
     rw[<-hn]at this;exact this
    rw[za h'];simp only;have hz:=(UO (p:=p)).2 P;have hP:fW p (zZ R) l:=by
     rw[s];refine⟨W,hz,W,λi hi=> ?_,λi j hi hj=> ?_,?_⟩
     ·have T:=HG (l:=l) hi;refine⟨?_,(C.el _ T).2.1⟩;have⟨q,fq,hq⟩:Di p (U<|l.getD i []) (H R):=Di.cg ((aJ bn<|xbK T).mul _<|Fs.pc _) C.cg.symm;have hT:=(C.el _ T).1.mn;have⟨x,F,c0⟩:=rQ hp P 1|>λ⟨x,F⟩=>(⟨x,F,O⟩:∃x,p^1∣x*H R (X R-1)-1/\Z5=Z5);by_cases a0:X (l.getD i [])<=X R
      ·exact a0
      ·exfalso;have z:=hT.mn.zero p1 fq λk hk=>by rw[<-hq k,L.2 k (by have:=hT.ln;lia),xah]
       have M:=(hq.trans<|z.mul_zero_r _)<|X R-1;rw[zH,xah]at M;exact P M
     ·have z:=xcT.1 C.pw j i W hi hj;rw[xaa,xaa,xak hi,xak (W:j<X l)];exact z.symm
     ·refine(w5 (p:=p) W _ _).ext (WY W R) ((qT p _ _).trans<|(Cg.mul (rE p l) Cg.rfl).trans<|Cg.trans ?_ (gU p R).symm);rw[wX,zk];refine Cg.trans (Cg.mul (λj=> ?_) Cg.rfl) C.cg.symm;rw[KQ];unfold D;split
      ·exact xaE _ _
      ·rfl
    have⟨us,e,e3,e4,e5⟩:=sM (fu:=fu) (p:=p) (k:=(k:J)) (a:=R) (fs:=l) (E.mono W) W W;have he:e=0:=by
     refine xai λhF=> ?_;have hr:=nV (fu:=fu) (fs:=l) hp (E.mono (by lia:K<=250)) iI (by lia:X R<=66) W;have⟨bb,b1,b2⟩:=hr;rw[b2.2<|by rw[s]at hP;exact hP]at b1;have:=zhg (E.mono (by lia:K<=250)) W W W W e3;unfold zid at this;rw[iq hp,s,zA,iq b1]at this;exact hF this
    have⟨hG,_⟩:=e4 he;rw[xaN]at hG;have a1:=hG.up;obtain⟨xs,rfl,rfl,F⟩:=Rq a1;have hF:xs.map (·.2)≠[]:=λe=>by
     have z:=C.cg<|X R-1;rw[e,show prZ ([].map U)=D 1 from O,yf]at z;have M:D (H R<|X R-1) (X R-1)=0:=zA;rw[M,xah]at z;exact P z
    have hU:=hG.cg hF;rw[s,xcP]at hU;rw[xaZ]at h1;have hC:Ch p k (H R) R xs [] 1:=by
     have hL:Lc p k (H R) (X R-1) xs:=⟨hp,k1,λx hH=>⟨F x hH,(C.el _<|xbK hH).1,(C.el _<|xbK hH).2.2⟩,(xeN (R:=λa b=>qB p (U a)<|U b) (f:=λx:Lx=>x.2)).1 C.pw,L,W,hB,P,pm,hU⟩;exact⟨hL,k2,s,E.mono W,hl,zoT W L hB V k3,Ls.one hL,by rw[xbR];lia,(zC _).symm,λg u=>wS u H1⟩
    have⟨out,o1,o2,o3,o4⟩:=Rv (fu:=fu) hC W;rw[zP,za e3];simp only;rw[za o1,xr (by simp only[xbR];lia),Q,xbH];have⟨r,s1,s2,s3⟩:=MX (fu:=fu) (cmp:=λa2 a3=>j8 fu a2 a3) (c:=Q4) (S:=Gd) (λx y F hy=>oh F.ok hy.ok F.can hy.can iI (by have:=F.ln;lia) (by have:=hy.ln;lia) W) (t:=out) o3 W W;have hI:H R=prZ (r.map λg=>(H g:Pz)):=by rw[o4];exact Ou<|s2.symm.map _
    have hw:∀g∈r,Gd g:=λg u=>o3 g<|s2.mem_iff.1 u;rw[za s1];refine⟨r,I,O,⟨λ_=> .inr ⟨λh=>u<|hN.1 h,p,hp,P,hc⟩,λ_=>O⟩,λ_=>⟨hw,hI,?_,by rw[s2.length_eq];lia⟩⟩;refine(xdl.2 λ{a b} hs=> ?_);have z:¬Q4 b a<0:=(xdl.1<|s3 zk0) hs;have ha:a∈r:=hs.subset iP;have hb:b∈r:=hs.subset iP;have M:=Js a b;by_cases h5:Q4 a b=0
    ·exfalso;have a4:=zdn (hw a ha).can (hw b hb).can h5;subst a4;have⟨m,w,hS,T⟩:=hC.lc.sf;have hD:=pN (p:=p) (hs.map λg=>(H g:Pz)) λf G=>by
      obtain⟨g,_,rfl⟩:=xap.1 G;exact Fs.cf g
     rw[<-hI]at hD;have a5:Di p ((H a:Pz)*H a) (U m):=by
      refine Di.trans ⟨D 1,Fs.pc 1,Cg.of ?_⟩<|hD.trans ⟨D w,Fs.pc w,T⟩;show(H a:Pz)*(H a*D 1)=_;rw[yf,zC]
     have a9:=hw a ha;have b0:Zd (H a) (H R):=by
      rw[hI];have⟨A,B,e6⟩:=xeg ha;rw[e6,xba,xbU,w9];refine Zd.mul _ (Fs.prZ λf G=> ?_)<|Zd.left<|Fs.prZ λf G=> ?_
      ·obtain⟨g,_,rfl⟩:=xap.1 G;exact Fs.cf g
      ·obtain⟨g,_,rfl⟩:=xap.1 G;exact Fs.cf g
     have⟨v,fv,hv⟩:=b0;have h6:=hC.ls (H a) v (Fs.cf a) fv (by rw[hv,zk]) a9.ir.dg;have⟨x,b3⟩:∃x,x∈own p (H a) xs:=by
      cases b4:own p (H a) xs with
      |nil=>rw[b4]at h6;exact wS h6 iI
      |cons x t=>exact⟨x,FS⟩
     have⟨h7,h8⟩:=aU.1 b3;exact hS.apart (Fs.cf a) (Fs.cf a) a5 (xbK h7) h8 h8
    ·lia
def BF{q:N M}{m:wr}(y:yI K a)(S:K<=50)(l:Tp (H a) m)(T:m<=11)(hc:X a<=40)(z:∀j,Bb B<|H a j)(U:B<=3000)(d:Gd q)(A:yI 50 q)(C:3000000<=fu):
 ∃n:wr,XH fu a q=Z (n:J)/\n<=11/\Mu (H q) (H a) n:=by
 have v:X (zZ q)≠0:=λe=>by
  have⟨j,E⟩:=d.ir.pm.nz;exact E<|W1 e j
 have o:=YD v;rw[d.can]at o;have V:=d.ln;have hl:1<=X q-1:=by refine xai λh=>d.ir.dg<|(Cp.tp o).2 W
 have fp:=λn=>d.ir.fs.pp n;have one:∀(t:N M) (n:wr),yI 60 t->X t<=40->H a=(H t:Pz)*pp (H q) n->∃b e,wz fu t q=Z (b,e)/\(e=0->yI 60 b/\X b<=40/\H a=(H b:Pz)*pp (H q) (n+1))/\(e≠0->Mu (H q) (H a) n):=λt n o1 l1 e1=>by
  have⟨b,e,d1,d2,d3⟩:=JX (fu:=fu) o1 A (by have:=xan (50+1) (W:X t+1<=41);lia) W W v C;refine⟨b,e,d1,λc=> ?_,λc=>⟨H t,Fs.cf t,e1,λF=>c<|d2.2 F⟩⟩;have⟨f1,f2,f3⟩:=d3 c;have w:H a=(H b:Pz)*pp (H q) (n+1):=by
   rw[e1,f1,zd];show _=_*(pp (H q) n*H q);rw[zk<|pp (H q) n]
  refine⟨?_,W,w⟩;rw[<-f2];exact yE λj=>(NH l (Fs.cf b) (fp _) w W z j).bz W
 have⟨q1,x,c1,c2,G⟩:=one a 0 (y.mono W) hc (yf _).symm;have p:∀{t:N M}{n:wr},H a=(H t:Pz)*pp (H q) n->n<=m:=λ{t n} e=>by
  have⟨P,np⟩:=VX l.nz e;have⟨i,hi⟩:=Tp.ex (Fs.cf t) P;have hd:∀n,Tp (pp (H q) n) (n*(X q-1)):=λn=>by
   induction n with
   |zero=>rw[xcx];exact⟨show D 1 0≠0 by decide,λk hk=>by show D 1 k=0;unfold D;rw[zA]⟩
   |succ n g=>rw[xaX,xbN];exact g.mul o
  have h1:=hi.mul<|hd n;rw[<-e]at h1;have u:=h1.uniq l;have h3:=xcm n (W:0<X q-1);lia
 obtain⟨s,Q,n,rfl,n1,n2⟩:=yr (f:=J1 fu q) (λs:J×N M×J=>∃n:wr,s.1=(n:J)/\(s.2.2=0->yI 60 s.2.1/\X s.2.1<=40/\H a=(H s.2.1:Pz)*pp (H q) (n+1))/\(s.2.2≠0->n<=11/\Mu (H q) (H a) n)) (λs=>if s.2.2=0 then 20-s.1.toNat else 0) (λr=>∃n:wr,r=(n:J)/\n<=11/\Mu (H q) (H a) n) (by
  rintro⟨i,t,e⟩ L ⟨n,hn,h1,u⟩ g;simp only at hn h1 u g;subst hn;unfold J1;simp only;by_cases c:e=0
  ·have⟨o1,l1,e1⟩:=h1 c;have ho:=p e1;have⟨b,e',d1,d2,d3⟩:=one t (n+1) o1 l1 e1;rw[iq c,zb,Y d1];refine g _ ⟨n+1,by show(n:J)+1=((n+1:wr):J);lia,d2,λh=>⟨W,d3 h⟩⟩ ?_;rw[iq c];split
   ·show 20-((n:J)+1).toNat<20-(n:J).toNat;lia
   ·show 0<20-(n:J).toNat;lia
  ·rw[ir c];exact⟨_,O,n,O,u c⟩) fu (0,q1,x) ⟨0,O,c2,λh=>⟨W,G h⟩⟩ (by
  show(if x=0 then 20-(0:J).toNat else 0)<fu;split<;>lia)
 refine⟨n,?_,n1,n2⟩;unfold XH;rw[Y c1];simp only;rw[Y Q]
def zdd(R:N M):Prop:=X R<2\/(¬zbK R/\∃p,uM R p)
def zm9(h:Rad a R):Zd (H R) (H a):=by
 have⟨g,b,e⟩:=h.dv;rw[<-gV a,e];exact(Zd.left b).mul _<|Fs.pc _
theorem n5(b:yI K a)(c:K<=40000)(hl:X a<=1000000)(h0:cH a≠0)(d:3000000<=fu):yS fu a ds=Z ((wL,[]),[],cH a):=by grind [yS,Y,mU]
def pJ(w:yI K a)(S:K<=50)(hl:X a<=40)(h0:cH a=0)(hr:X (zZ a)<=11)(y:∀j,Bb B<|H a j)(T:B<=3000)(r1:qG fu a=Z (R,0))(r2:Rad a R)(U:∀j,Bb (B+X (zZ a)+4)<|H R j)(hd:Rl ds)(V:X ds<=1000)(d:3000300<=fu):
 (zdd R/\∃l,yS fu a ds=Z (ya<|yw a,l,0)/\FL (H a) l/\X l<=12/\∀x∈l,Gd x.1/\x.2<=11)\/
  (¬zdd R/\yS fu a ds=Z ((wL,[]),[],6)):=by
 have hp:=Ky h0;have z:=YD (a:=a) W;have oR:yI 50 R:=by rw[<-r2.can];exact yE λj=>(U j).bz W
 have⟨l,b,C,E,s3⟩:=A7 (fu:=fu) r2.can r2.pm r2.ps oR iI (by have:=r2.ln;lia) hd V d
 cases b with
 |false=>
  refine .inr ⟨λh=>(by have:=E.2 h;cases this),?_⟩;unfold yS;rw[Y r1];simp only[uP];rw[Y C];rfl
 |true=>
  have⟨g1,F,g3,g4⟩:=s3 O;refine .inl ⟨E.1 O,?_⟩;have G:∀q∈l,Zd (H q) (H a):=λq c=>by
   refine Zd.trans ?_<|zm9 r2;rw[F];have⟨A,D,e6⟩:=xeg c;rw[e6,xba,xbU,w9];refine Zd.mul _ (Fs.prZ λf d=> ?_)<|Zd.left<|Fs.prZ λf d=> ?_
   ·obtain⟨g,_,rfl⟩:=xap.1 d;exact Fs.cf g
   ·obtain⟨g,_,rfl⟩:=xap.1 d;exact Fs.cf g
  have hj:∀q∈l,∃n:wr,XH fu a q=Z (n:J)/\n<=11/\Mu (H q) (H a) n:=λq c=>by
   have k:=g1 q c;refine BF w S z W hl y T k ?_ W;have⟨u,m,e⟩:=G q c;rw[<-k.can];exact yE λj=>(NH z (Fs.cf q) m (by rw[e,zk]) W y j).bz W
  obtain⟨s,hs,out,rfl,o1,o2⟩:=yr (f:=WJ fu a l) (λs:N (N M×J)×J×M×N (N M)=>∃(i:wr) (out:N (N M×J)),s=(out,(i:J),(wL,[]),l)/\i<=X l/\out.map (·.1)=l.take i/\∀x∈out,∃n:wr,x.2=(n:J)/\n<=11/\Mu (H x.1) (H a) n) (λs=>X l-s.2.1.toNat)
   (λr=>∃out:N (N M×J),r=(out,(wL,[]))/\out.map (·.1)=l/\∀x∈out,∃n:wr,x.2=(n:J)/\n<=11/\Mu (H x.1) (H a) n) (by
   rintro s L ⟨i,out,rfl,hi,h1,t⟩ ih
   unfold WJ
   simp only
   by_cases o:i<X l
   ·have hm:l.getD i []∈l:=by
     rw[xaa,xak o];exact xcd o
    have⟨n,n1,n2,p⟩:=hj _ hm
    have ht:X out=i:=by
     have:=kW xaH h1;rw[xaZ,xas]at this;lia
    rw[zP,Y O]
    simp only[uP]
    rw[zp o,Q,Y n1,xr (by simp only[xaw,xbR];lia),Q,zb]
    refine ih _ ⟨i+1,_,O,W,?_,λx hx=> ?_⟩ (by show X l-((i:J)+1).toNat<X l-(i:J).toNat;lia)
    ·rw[xba,h1,xfq,xak o,xaa,xak o]
     rfl
    ·obtain hx|hx:=So.1 hx
     ·exact t x hx
     ·obtain rfl:=xad.1 hx
      exact⟨n,O,n2,p⟩
   ·rw[zA,Y O]
    simp only[xar,uS]
    obtain rfl:i=X l:=W
    rw[xcJ]at h1
    exact⟨_,O,out,O,h1,t⟩) fu ([],0,(wL,[]),l) ⟨0,[],O,xac _,by rw[List.take_zero];rfl,λx hx=>wS hx H1⟩ (by show X l-(0:J).toNat<fu;lia)
  have hc:∀x∈out,x.1∈l:=λx hx=>by rw[<-o1];exact xbK hx
  refine⟨out,?_,⟨λx hx=> ?_,λq c pq hz=> ?_,?_⟩,?_,λx hx=>⟨g1 _<|hc x hx,?_⟩⟩
  ·unfold yS;rw[Y r1];simp only[uP];rw[Y C];simp only;rw[ir iI,Y hs];simp only;rw[Y<|kX w]
  ·have k:=g1 _<|hc x hx;have⟨n,n1,n2,p⟩:=o2 x hx;refine⟨k.can,k.ir,k.ps,?_,by rw[n1,xaN];exact p⟩;by_cases hn:n=0
   ·exfalso;subst hn;have⟨u,m,e,P⟩:=p;rw[show pp (H x.1) 0=pc 1 from O,yf]at e;rw[<-e]at P;exact P<|G _<|hc x hx
   ·lia
  ·have h1:=r2.al q c hz;rw[F]at h1;have⟨f,ho,t⟩:=c.prz (λf d=>by obtain⟨g,_,rfl⟩:=xap.1 d;exact Fs.cf g) h1;obtain⟨g,v,rfl⟩:=xap.1 ho;have e:=c.eq (g1 g v).ir pq (g1 g v).ps t;rw[<-o1]at v;obtain⟨x,hx,rfl⟩:=xap.1 v;exact⟨x,hx,e.symm⟩
  ·have:=g3;rw[<-o1]at this;exact xeN.1 this
  ·have:=kW xaH o1;rw[xaZ]at this;lia
  ·have⟨n,n1,n2,p⟩:=o2 x hx;lia
end
section
variable{fu K:wr}{R:xS Zr}{q:wl}
def Bu{p:J}(d:zZ R=R)(a:yI K R)(l:K<=300)(h0:cH R=0)(g:3000300<=fu):∃b,QW fu R p=Z (b,0)/\(b=I↔uM R p):=by
 have h:=Ky h0;rw[d]at h;unfold QW;rw[Y<|va a,iq h0,Y<|Ug W]
 cases hp:wh p with
 |false=>
  rw[iq iI];exact⟨_,O,λe=>wS e iI,λe=>by rw[e.1]at hp;cases hp⟩
 |true=>
  have⟨n,i⟩:=zo hp;rw[ir iI,Y<|Dj a W W i W W];simp only;rw[Y (yG a W W W),show xJ (X R) (H R)=R from d];by_cases c:X (qU p R)=X R
  ·have⟨m,b,h1,o,f,j,_⟩:=zhM (fu:=fu) hp W W c;have⟨r,s,g1,k⟩:=ziy (fu:=fu) hp (WY (p:=p) W R) W g;rw[g1]at f;obtain⟨rfl,rfl⟩:=Prod.mk.inj<|xdf f;rw[zP,Y k];refine⟨_,O,?_⟩;rw[j,C6 h1];exact⟨λhc=>⟨hp,(UO).1 c,hc⟩,λhc=>hc.2.2⟩
  ·rw[zA];exact⟨_,O,λe=>wS e iI,λe=>wS ((UO).2 e.2.1) c⟩
def s9(h:65521<=q):ZB fu q=Z (0,5):=by
 unfold ZB;rw[iq h]
def BD(h1:1<=q)(h:q<65521)(j:3000000<=fu):∃r,ZB fu q=Z (r,0)/\wh r=I/\q<r/\∀s,q<s->s<r->wh s=wL:=by
 unfold ZB;have⟨r,c,r1,r2,d⟩:=yr (f:=Jy fu) (λi:J=>q<=i/\i<65521/\∀s,q<s->s<=i->wh s=wL) (λi=>(65521-i).toNat) (λr=>wh r=I/\q<r/\∀s,q<s->s<r->wh s=wL) (by
  rintro i L ⟨i1,i2,a⟩ g;unfold Jy;rw[zb,Y<|Ug W]
  cases hp:wh (i+1)with
  |true=>rw[iq O];exact⟨_,O,hp,W,λs h1 b=>a s h1 W⟩
  |false=>
   have k:i+1≠65521:=λe=>by rw[e,E9]at hp;cases hp
   rw[ir iI];refine g _ ⟨W,W,λs h1 b=> ?_⟩ W;by_cases e:s=i+1
   ·rw[e];exact hp
   ·exact a s h1 W) fu q ⟨W,W,λs h1 b=>by lia⟩ W
 rw[zA,Q,(W:max q 1=q),Y c];exact⟨r,O,r1,r2,d⟩
def za0(j:zZ R=R)(k:yI K R)(l:K<=300)(h0:cH R=0)(hl:1<X R)(m:3000300<=fu):
 ∃s,zg (vN fu R) fu ((2:J),(0:J))=Z s/\(s=.inr ()/\(∃p,uM R p)\/s=.inl ()/\¬∃p,uM R p):=by
 refine yr (λst:J×J=>(st.2=0/\2<=st.1/\st.1<=65521/\∀q,q<st.1->¬uM R q)\/(st.2≠0/\st.1=0/\¬∃p,uM R p)) (λst=>if st.2=0 then(65523-st.1).toNat else 0) _ ?_ fu _ (.inl ⟨O,iI,iI,λq a h=>by have:=zo h.1;have:q<2:=a;lia⟩) (by show(if(0:J)=0 then(65523-2:J).toNat else 0)<fu;rw[iq O];lia);rintro⟨p,e⟩ L g d;simp only at g d;unfold vN;simp only;rcases g with⟨rfl,h1,n,f⟩|⟨h1,n,f⟩
 ·have⟨b,b1,b2⟩:=Bu (fu:=fu) (p:=p) j k l h0 m;rw[iq O,zP,Y b1];simp only;by_cases c:b=I
  ·rw[iq c];exact⟨_,O,.inl ⟨O,p,b2.1 c⟩⟩
  ·rw[ir c];have i:∀q,q<p+1->¬uM R q:=λq a h=>by
    by_cases e:q=p
    ·exact c<|b2.2<|e▸h
    ·exact f q W h
   by_cases o:p<65521
   ·have⟨r,r1,r2,u,t⟩:=BD (fu:=fu) (q:=p) W o W;have:=zo r2;rw[Y r1];refine d (r,0) (.inl ⟨O,by show 2<=r;lia,by show r<=65521;lia,λq a h=> ?_⟩) (by rw[iq O,iq O];lia);have a:q<r:=a;by_cases hc:q<p+1
    ·exact i q hc h
    ·have:=t q W a;rw[h.1]at this;cases this
   ·rw[Y<|s9 W];refine d (0,5) (.inr ⟨iI,O,λ⟨q,a⟩=>i q (by have:=zo a.1;lia) a⟩)<|by rw[ir iI,iq O];lia
 ·rw[ir h1];exact⟨_,O,.inr ⟨O,f⟩⟩
def tz{B n:wr}{a:N M}(f:yI K a)(w:K<=100)(hl:X a<=40)(h0:cH a=0)(y:∀j,Bb B<|H a j)(o:∀j,Bb n<|H a<|j+1)(z:B<=6000)(C:n<=6000)(p:GcZ B (n+6) (X (zZ a)) (X (zZ a)-1))(D:3000300<=fu):
 ∃g R,Fa a g R/\((zdd R/\vt fu a=Z 0)\/(¬zdd R/\vt fu a=Z 6))/\Zv fu a=Z (decide<|R=xc a,0):=by
 have hr:=qg a;have⟨g,R,k,h1,E⟩:=nU (fu:=fu) f w hl h0 y o z C p W;have i:=k.rad.can;have ht:=k.rad.ln;have r:yI 95 R:=by rw[<-i];exact yE λj=>(E j).bz W
 have hi:X R≠0:=λe=>by
  have⟨j,F⟩:=k.rad.ps.tp.choose_spec.1.nz;exact F<|zX W
 have hq:=Ky h0;have hc:cH R=0:=by unfold cH;rw[i,ir hi,zA]
 have⟨Y,L,t,c⟩:=sU (fu:=fu) i r iI hc W;refine⟨g,R,k,?_,?_⟩
 ·unfold vt;have P:Yq fu a=Z (R,0):=by
   unfold Yq;rw[za<|va f,iq h0,za h1]
  have⟨l,m⟩:∃l,l=H R (X R-1):=⟨_,O⟩;have d:Bz 95 l:=by rw[m];exact r.bz _
  have b2:Bz 1 (2:J):=by unfold Bz;decide
  have S:R.getD (X R-1) (wL,[])=ya l:=by rw[m];exact U5 (show R=xJ (X R) (H R)from i.symm)
  rw[za<|va f,iq h0,za P];simp only;rw[za L];simp only
  rw[za (vz (x:=2) iI),zb,(W:(X R:J)-1=((X R-1:wr):J)),yj,Q,S,za (wg (c.ok iI)<|d.ok iI),zn,zn,
   za (wg (b2.ok iI)<|(c.mul d).ok iI),zn,zn]
  have u:=b2.mul<|c.mul d;have T:A (ya<|2*((Y:J)*l)).2=(2*((Y:J)*l)).natAbs:=ye _;have hd:zbK R↔1000<bl (2*((Y:J)*l)).natAbs:=⟨λ⟨b,p,h⟩=>by rw[p.uniq t,<-m]at h;exact h,λh=>⟨Y,t,by rw[<-m];exact h⟩⟩;by_cases hn:1<X R
  ·rw[zP,za<|cm (yo _) (xae u.len iI) (by have:=u.len;lia),T];by_cases v:1000<bl (2*((Y:J)*l)).natAbs
   ·rw[zP];exact .inr ⟨λh=>by obtain h|h:=h;lia;exact h.1<|hd.2 v,O⟩
   ·rw[zA];have⟨s,U,V⟩:=za0 i r iI hc hn D;show((zdd R/\(G (zg (vN fu R) fu ((2:J),(0:J))) _)=_)\/_);rw[za U];rcases V with⟨rfl,hp⟩|⟨rfl,hp⟩
    ·exact .inl ⟨.inr ⟨λh=>v<|hd.1 h,hp⟩,O⟩
    ·refine .inr ⟨λh=>by obtain h|h:=h;lia;exact hp h.2,?_⟩;simp only;rw[zP];rfl
  ·rw[zA];have ho:∃s,zg (vN fu R) fu ((2:J),(0:J))=Z (Sum.inl s):=⟨(),by
    obtain⟨fu,rfl⟩:∃j,fu=j+1:=⟨fu-1,W⟩;rw[wA];unfold vN;simp only;rw[iq (by trivial),zA]⟩
   have⟨s,hs⟩:=ho;show((zdd R/\(G (zg (vN fu R) fu ((2:J),(0:J))) _)=_)\/_);rw[za hs];refine .inl ⟨.inl W,?_⟩;simp only;rw[zA]
 ·unfold Zv;rw[za<|va f,iq h0,za<|ua f,za h1,za<|AJ (dK f) W (by have:=km a;lia) W];congr 2;rw[aP];exact⟨λh=>h.symm,λh=>h.symm⟩
end
def tT{fu c k:K}{a:N M}(hc:c<=1000)(g:3000000<=fu):uu fu (c:J) (k:J) a=Z (decide<|sD c k a):=by
 unfold uu;by_cases h0:c<X a
 ·rw[zP,uT λe=>by have:=e.1;lia]
 ·rw[zA,Y (v:=if∀z∈a,X z.2<=k then .inl ()else .inr ())]
  ·by_cases h:∀z∈a,X z.2<=k
   ·rw[iq h,Z0 (show sD c k a from⟨W,h⟩)]
   ·rw[ir h,uT λe:sD c k a=>h e.2]
  ·refine zw (λs:J=>∃j:K,s=(j:J)/\j<=X a/\∀t,t<j->(a.getD t (wL,[])).2.length<=k) (λs=>X a-s.toNat) _ ?_ _ _ ⟨0,O,xac _,λt h=>wS h<|xbC _⟩ (by show X a-0<fu;lia);rintro s L ⟨j,rfl,i,b⟩ d;unfold cn;by_cases h1:j<X a
   ·rw[zP,zp h1,Q];by_cases l:k<(a.getD j (wL,[])).2.length
    ·grind
    ·rw[zA,zb];refine d _ ⟨j+1,O,W,λt h=> ?_⟩ W;by_cases f:t=j
     ·rw[f];lia
     ·exact b t W
   ·rw[zA,iq<|zet λt h=>b t W]
section
set_option maxRecDepth 100000
def P5:Vf 4000000=Z I:=by decide+kernel
end
section
variable{fu:wr}{x:xS Zr}
def zjc:Rl []:=λk=>by
 show _<=U [] k/\_;rw[zU<|xac _];decide
def zak{l:N (N M×J)}(hl:X l<=12)(c:3000000<=fu):∃t,zg (XC fu l) fu ([],(0:J),l)=Z t:=by
 have⟨t,h,_⟩:=yr (f:=XC fu l) (λs=>∃(k:K) (o:N (N M)),s=(o,(k:J),l)/\X o=k/\k<=X l) (λs=>X l-s.2.1.toNat) (λ_=>Z5) (by
  rintro s L ⟨k,o,rfl,a,d⟩ b;unfold XC;simp only;by_cases h:k<X l
  ·rw[zP,Y O];simp only;rw[iq (by trivial),zp h,Q,xr (by simp;lia),Q,zb];exact b _ ⟨k+1,_,O,by simp[a],h⟩ (by show X l-((k:J)+1).toNat<X l-(k:J).toNat;lia)
  ·rw[zA,Y O];simp only;rw[ir iI];exact⟨_,O,wR⟩) fu ([],0,l) ⟨0,[],O,O,xac _⟩ (by show X l-0<fu;lia)
 exact⟨t,h⟩
def zpv{L:K}(h1:1<=L)(a:L<=9):GcZ 2048 (64+6) L (L-1):=by
 refine .inr ⟨iI,?_,?_⟩
 ·have:L=1\/L=2\/L=3\/L=4\/L=5\/L=6\/L=7\/L=8\/L=9:=W
  obtain rfl|rfl|rfl|rfl|rfl|rfl|rfl|rfl|rfl:=this<;>decide
 ·have:L=1\/L=2\/L=3\/L=4\/L=5\/L=6\/L=7\/L=8\/L=9:=W
  obtain rfl|rfl|rfl|rfl|rfl|rfl|rfl|rfl|rfl:=this<;>decide
def Mx(r:3000300<=fu)(c:yI 32 x)(hl:X x<=1000)(a:cH x≠0\/(X x<=9/\(∀j,Bb 2048<|H x j)/\∀j,Bb 64<|H x<|j+1)):
 ∃(w e f v:J) (y:M) (l:N (N M×J)) (t:N (N M)) (b:v6),vt fu x=Z w/\yS fu x []=Z (y,l,e)/\vv fu x []=Z (t,f)/\Zv fu x=Z (b,v)/\((w=0/\b=wL/\e=0/\f=1)\/(e=w/\f=w/\(w=0->b=I))):=by
 by_cases h0:cH x=0
 ·have⟨G,k,d⟩:X x<=9/\(∀j,Bb 2048<|H x j)/\∀j,Bb 64 (H x<|j+1):=by
   obtain h|h:=a
   ·exact wS h0 h
   ·exact h
  have z:=Ky h0;have hi:=qg x;have n:=zpv z.1 W;have⟨g,R,s,i,u⟩:=tz (fu:=fu) c iI W h0 k d iI iI n r;have⟨K,L,r1,hc,A⟩:=mM (fu:=fu) c iI W h0 k d iI iI n W;obtain rfl:=s.uniq hc;have⟨P,Q,B,C⟩:=IY (fu:=fu) c iI W h0 k d iI iI n W;obtain rfl:=s.uniq B;have hd:=pJ (fu:=fu) (ds:=[]) c iI W h0 W k iI r1 hc.rad A zjc (xac _) r;rcases i with⟨o,i⟩|⟨o,i⟩
  ·rcases hd with⟨_,l,e1,_,l1,_⟩|⟨h,_⟩
   ·have p:∃t f,vv fu x []=Z (t,f)/\((R=xc x/\f=0)\/(R≠xc x/\f=1)):=by
     unfold vv;rw[Y e1];simp only[uP];rw[Y C];simp only;by_cases m:R=xc x
     ·have⟨t,D⟩:=zak (fu:=fu) l1 W;rw[Z0 m,ir iI,Y D];exact⟨_,_,O,.inl ⟨m,O⟩⟩
     ·rw[uT m,iq iI];exact⟨_,_,O,.inr ⟨m,O⟩⟩
    have⟨t,f,E,F⟩:=p;refine⟨0,0,f,0,_,l,t,_,i,e1,E,u,?_⟩;rcases F with⟨h1,q⟩|⟨h1,q⟩
    ·exact .inr ⟨O,q,λ_=>Z0 h1⟩
    ·exact .inl ⟨O,uT h1,O,q⟩
   ·exact wS o h
  ·rcases hd with⟨h,_⟩|⟨_,e1⟩
   ·exact wS h o
   ·have p:vv fu x []=Z ([],6):=by
     unfold vv;rw[Y e1];rfl
    exact⟨6,6,6,0,_,_,_,_,i,e1,p,u,.inr ⟨O,O,λh=>wS h iI⟩⟩
 ·have e1:=n5 (fu:=fu) (ds:=[]) c iI W h0 W;refine⟨cH x,cH x,cH x,cH x,_,_,[],wL,?_,e1,?_,?_,.inr ⟨O,O,λh=>wS h h0⟩⟩
  ·unfold vt;rw[Y<|va c,ir h0]
  ·unfold vv;rw[Y e1];simp only;rw[ir h0]
  ·unfold Zv;rw[Y<|va c,ir h0]
def Sa(x:J){m:K}(h:sA (m:J)=m)(a:m<1000):∃k:K,k<=m/\gi x (m:J)=(k:J):=by
 have h1:sA x &&& sA (m:J)<=m:=xae Nat.and_le_right (by rw[h];exact IR m);refine⟨sA x &&& sA (m:J),h1,?_⟩;unfold gi SZ;split<;>lia
def Xok(x:N M)(top:v6):Prop:=yI 32 x/\X x<=1000/\(∀j,Bb 2048<|H x j)/\(∀j,Bb 64<|H x<|j+1)/\(top=I->2<=X x->H x (X x-1)≠0)
def zkt{a:N M}(pa:yI 1 a)(d:X a<=3)(k:K)(e:k<=127):Xok (a++Nm k (wL,[])++[ya 1]) I/\X (a++Nm k (wL,[])++[ya 1])=X a+k+1/\yI 1 (a++Nm k (wL,[])++[ya 1]):=by
 have o:yI 1 (a++Nm k (wL,[])++[ya 1]):=λz hz=>by
  obtain hz|hz:=So.1 hz
  ·obtain hz|hz:=So.1 hz
   ·exact pa z hz
   ·rw[(xei.1 hz).2];exact⟨zm.nil,xac _⟩
  ·rw[xad.1 hz];exact⟨yo _,iI⟩
 have b:X (a++Nm k (wL,[])++[ya 1])=X a+k+1:=by simp;lia
 have c:∀j,Bb 64 (H (a++Nm k (wL,[])++[ya 1]) j):=λj=>(o.bz j).bb;refine⟨⟨o.mono iI,W,λj=>(c j).mono iI,λj=>c _,λ_ _=> ?_⟩,b,o⟩;rw[b];show zv (xdS _ _ _)≠0;rw[xaa,xbz iP,(iP:X a+k+1-1-X (a++Nm k ((wL,[]):M))=0)];show zv (ya 1)≠0;rw[zn];decide
def zoK{top:v6}(o:yI 1 x)(h:Xok x top){b:N K}(d:zm b)(hl:X b<=32):Xok (x.set 0 (wL,b)) top:=by
 have⟨h1,e,l,f,g⟩:=h;have a:∀j,H (x.set 0 (wL,b)) (j+1)=H x (j+1):=λj=>by
  show zv (xdS _ _ _)=zv (xdS _ _ _);rw[xaa,xaa,List.getElem?_set,zA]
 have c:yI 32 (x.set 0 (wL,b)):=λz i=>by
  obtain h|h:=xcS i
  ·exact h1 z h
  ·rw[h];exact⟨d,hl⟩
 refine⟨c,by rw[xbt];exact e,λj=>(c.bz j).bb,λj=>by rw[a];exact f j,λk hl=> ?_⟩;rw[xbt]at hl⊢;have⟨n,hn⟩:∃n,X x-1=n+1:=⟨X x-2,W⟩;have:=g k hl;rw[hn]at this⊢;rw[a];exact this
def oI{k:K}(n:3000300<=fu)(hc:k<=8\/62<=k)(o:Xok x (decide<|0<k))(p:k=0->X x<=3):
 (G ((if(8:J)<(k:J)then if(k:J)<(64:J)then Z (.inr I)else if(9:J)<(X x:J)then if(X x:J)<(66:J)then Z (.inr I)else Z (.inl ())else Z (.inl ())
  else if(9:J)<(X x:J)then if(X x:J)<(66:J)then Z (.inr I)else Z (.inl ())else Z (.inl ()):V (Z2⊕v6))) λq=>match q with
  |.inl _=>G (vt fu x) λa=>G (yS fu x []) λ(r,t10,c)=>G (vv fu x []) λ(t11,d)=>G (Zv fu x) λ(g,i)=>
   if a=(0:J)then if((!g))=I then if I=I then if c=(0:J)then if d=(1:J)then Z I else Z wL else Z wL else Z wL
    else if I=I then if c=a then if d=a then Z I else Z wL else Z wL else Z wL
   else if I=I then if c=a then if d=a then Z I else Z wL else Z wL else Z wL
  |.inr b3=>Z b3)=Z I:=by
 have go:X x<=9\/66<=X x->(G (vt fu x) λa=>G (yS fu x []) λ(r,t10,c)=>G (vv fu x []) λ(t11,d)=>G (Zv fu x) λ(g,i)=>
  if a=(0:J)then if((!g))=I then if I=I then if c=(0:J)then if d=(1:J)then Z I else Z wL else Z wL else Z wL
   else if I=I then if c=a then if d=a then Z I else Z wL else Z wL else Z wL
  else if I=I then if c=a then if d=a then Z I else Z wL else Z wL else Z wL)=Z I:=λhl=>by
  have⟨h1,s,u,v,z⟩:=o;have⟨w,e,f,P,y,l,t,b,e1,A,B,C,h⟩:=Mx n h1 s (by
   obtain hl|hl:=hl
   ·exact .inr ⟨hl,u,v⟩
   ·refine .inl ?_;have D:0<k:=by
     obtain h|h:=xbV k
     ·have:=p h;lia
     ·exact h
    have E:=z (Z0 D) W;have:X (zZ x)=X x:=by
     have Q:=qg x;by_cases F:X (zZ x)=X x
     ·exact F
     ·exact wS (by rw[<-kS];exact zX W) E
    unfold cH;rw[zA,zP];decide)
  rw[Y e1,Y A];simp only;rw[Y B];simp only;rw[Y C];simp only;rcases h with⟨g1,j,H,L⟩|⟨g1,j,h⟩
  ·rw[g1,j,H,L];rfl
  ·rw[g1,j];by_cases m:w=0
   ·rw[h m,m];rfl
   ·simp[m]
 by_cases R:8<k
 ·rw[zP];by_cases hd:k<64
  ·rw[zP];rfl
  ·rw[zA];by_cases M:9<X x
   ·rw[zP];by_cases N:X x<66
    ·rw[zP];rfl
    ·rw[zA];exact go (.inr W)
   ·rw[zA];exact go (.inl W)
 ·rw[zA];by_cases M:9<X x
  ·rw[zP];by_cases N:X x<66
   ·rw[zP];rfl
   ·rw[zA];exact go (.inr W)
  ·rw[zA];exact go (.inl W)
def MV(a:N M)(n ce:J)(w:(Ty.l (.p .b (.l .u))).ok a)(_:(Ty.i).ok n)(_:(Ty.i).ok ce):jU 4000000 a n ce=Z I:=by
 have⟨fu,y⟩:∃fu,fu=4000000:=⟨_,O⟩;have g:=P5;rw[<-y]at g⊢;have o:3000300<=fu:=W
 unfold jU;have hl:uu fu 3 1 a=Z (decide<|sD 3 1 a):=tT (c:=3) (k:=1) iI W;rw[Y g];by_cases h3:3<X a
 ·rw[zP]
 rw[zA,Y hl];by_cases e:sD 3 1 a
 case neg=>rw[uT e,iq iI]
 rw[Z0 e,ir iI];have pa:yI 1 a:=zjW w e.2;have⟨d,ht,hn⟩:=Sa n (m:=127) iI iI;rw[show gi n 127=(d:J)from hn,Q];have⟨k,A,q,B⟩:∃k:K,k<=127/\(k<=8\/62<=k)/\(if(8:J)<(d:J)then if(d:J)<62 then some (8:J)else some (d:J)else some (d:J))=some (k:J):=by
  by_cases h1:8<d
  ·by_cases r:d<62
   ·exact⟨8,W,W,by rw[zP,zP];rfl⟩
   ·exact⟨d,W,W,by rw[zP,zA]⟩
  ·exact⟨d,W,W,by rw[zA]⟩
 rw[Y B];have⟨x,D,f,o1,hi⟩:∃x:N M,(if(0:J)<(k:J)then ck ((X ([]:N M)+X a)*32<=140737488355328)<|C (([]:N M)++a) λt1=>kv (k:J) λs=>ck ((X t1+s)*32<=140737488355328)<|C (t1++Nm s (wL,[])) λt2=>G (yi fu (1:J)) λt=>ck ((X t2+X ([t]))*32<=140737488355328)<|C (t2++([t])) λt3=>Z t3 else Z a)=Z x/\Xok x (decide<|0<k)/\yI 1 x/\(k=0->X x<=3):=by
  by_cases h1:0<k
  ·have⟨g1,g2,F⟩:=zkt pa e.1 k A;refine⟨_,?_,by rw[Z0 h1];exact g1,F,λh=>by lia⟩;rw[zP,xr (by simp;lia),Q,yJ,xr (by simp;lia),Q,Y (yq iI),xr (by simp;lia),Q,xbH]
  ·refine⟨a,by rw[zA],⟨pa.mono iI,W,λj=>((pa.bz j).bb).mono iI,λj=>(pa.bz _).bb,λh=>wS (Wf h) h1⟩,pa,λh=>by lia⟩
 show G (if(0:J)<(k:J)then _ else _) _=_;rw[Y D];have⟨b2,hc⟩:∃b2:v6,(C (gi ce (1:J)) λH=>if H=(1:J)then if(0:J)<(X x:J)then Z (ce,I,(k:J),I)else Z (ce,I,(k:J),wL)else Z (ce,I,(k:J),wL))=Z (ce,I,(k:J),b2)/\(b2=I->0<X x):=by
  rw[Q];by_cases h1:gi ce 1=1
  ·rw[iq h1];by_cases r:0<X x
   ·exact⟨I,by rw[zP],λ_=>r⟩
   ·exact⟨wL,by rw[zA],λh=>by cases h⟩
  ·exact⟨wL,by rw[ir h1],λh=>by cases h⟩
 have⟨hc,hp⟩:=hc;rw[Y hc];simp only
 cases b2 with
 |false=>
  rw[ir iI,Y O];exact oI o q f hi
 |true=>
  have⟨m,hm,L⟩:=Sa (xeP ce<|2^(min (((1:K)):J).toNat 64)) (m:=31) iI iI;have P:=hp O;have hu:=f.2.1;have R:zm ((Nm (m+1) 0).set m 1):=λz S=>by
   obtain h|h:=xcS S
   ·rw[(xei.1 h).2];decide
   ·rw[h];decide
  have hd:(ck ((X ([]:N M)+X x)*32<=140737488355328)<|C (([]:N M)++x) λt5=>C (xeP ce<|2^(min (((1:K)):J).toNat 64)) λT=>C (gi T (31:J)) λU=>E ((1:J)+U) λV=>kv V λv=>ck (8*v<=281474976710656)<|C (Nm v 0) λt6=>E (((X t6:J))-(1:J)) λx6=>zG x6 (X t6) λj3=>C (t6.set j3 (1:K)) λt7=>zG (0:J) (X t5) λj4=>C (t5.set j4 (wL,t7)) λt8=>Z t8)=Z (x.set 0 (wL,(Nm (m+1) 0).set m 1)):=by rw[xr (by simp;lia),Q,Q,show gi (xeP ce<|2^(min (((1:K)):J).toNat 64)) 31=(m:J)from L,Q,zb,(W:(1:J)+(m:J)=((m+1:K):J)),yJ,yL,Q,xaT,zb,(W:((m+1:K):J)-1=(m:J)),yj,Q,xbH,show(0:J)=((0:K):J)from O,zp P,Q]
  rw[iq O,Y hd];exact oI o q (zoK o1 f R<|by simp;lia)<|by rw[xbt];exact hi
end
section
namespace zfacRefuses
open Go.ChangeShapes Go.WideShapes Go.ChangeAt Go.RowKit
theorem own:ownKnob Tryz.prog.godebug=wF:=iT
def atW:Jh Tryz.prog .u 54:=id (by kernel_rfl:Tryz.prog.underlying 54=Z (.int .u64))
def atB:Jh Tryz.prog .b 4:=id (by kernel_rfl:Tryz.prog.underlying 4=Z .bool)
def atL:Jh Tryz.prog (.l .u) 28:=Jh.sl (E:=54) iT iT iI atW
def atZ:Jh Tryz.prog (.p .b (.l .u)) 30:=Jh.st (A:=4) (B:=28) iT iT iT iT atB atL
def atP:Jh Tryz.prog (.l (.p .b (.l .u))) 22:=Jh.sl (E:=30) iT iT iI atZ
def atI:Jh Tryz.prog .i 3:=id (by kernel_rfl:Tryz.prog.underlying 3=Z (.int .i64))
def sgO(M:cj [.d (.l (.p .b (.l .u))),.d .i,.d .i]->V v6):X2:=⟨9,[.d (.l (.p .b (.l .u))),.d .i,.d .i],[.d .b],M,0⟩
set_option maxRecDepth 100000 in
def lifted{M:cj [.d (.l (.p .b (.l .u))),.d .i,.d .i]->V v6}(h:xh Tryz.prog (sgO M))(k:∀x,zim [.d (.l (.p .b (.l .u))),.d .i,.d .i] x->M x=Z I)(os:Os)(a:os.Started)(H:Type)(enc:wT×wN->H):
 ReturnsInHanded {} Tryz.checked os 9 .any (Rows.zfacRefusesSpec.pre6 enc Tryz.prog Tryz.f9 Rows.zfacRefusesRow.domain wL) (Rows.zfacRefusesSpec.post enc Tryz.prog Tryz.f9 wL I wL wL):=by
 refine returnsInHanded_of_change (C:=Tryz.checked) own a iT Tryz.func9
  (ChangeSpec.witness6 (enc:=enc) (C:=Tryz.checked) wL ⟨#[],#[.slice wF 0 0,.int .i64 0,.int .i64 0],[]⟩ 8 iT iT iT iT) ?_
 intro W c args ds D e m f E _;have n:∀(j:K) t v,Tryz.f9.params[j]? =Z t->args[j]? =Z v->xes Tryz.prog W .any c t v:=m;have hc:=f;have⟨p,q,hd,o,_,_,_⟩:=f;have g:xeM enc Tryz.prog W 0 (λ_=>I) I Tryz.f9.params.toList args.toList ds p:=hd;rw[Tryz.params9]at g;obtain⟨v0,r,d0,s,p0,q0,F,rfl,_,_,r0⟩:=trodAll_cons g;obtain⟨v1,w,d1,y,G,q1,_,rfl,_,_,r1⟩:=trodAll_cons r0;obtain⟨J,vs2,d2,z,L,q2,_,rfl,_,_,r2⟩:=trodAll_cons r1;obtain⟨_,rfl,_⟩:=trodAll_nil r2;obtain⟨rfl,_⟩:=trodVars_none o
 exact zjn (sg:=sgO M) hc O n iT (by rw[Tryz.params9];decide+kernel) (by rw[Tryz.params9];exact⟨atP,atI,atI,wR⟩) O h
  (λx A=>k x A) (B:=4) iT Tryz.underlying4 O
set_option maxRecDepth 100000 in
def fnm:Tryz.pinned.checked.prog.funcNamed Rows.zfacRefusesRow.func=Z 9:=iT
set_option maxRecDepth 100000 in
set_option maxHeartbeats 4000000 in
def jf:joinedFacts Tryz.pinned.checked.prog 9 Tryz.f9 Rows.zfacRefusesSpec Rows.zfacRefusesRow=I:=by
 unfold joinedFacts;simp only[xab];repeat' apply xfy
 all_goals (as_aux_lemma=>kernel_rfl)
def over:Rows.zfacRefusesRow.holds Tryz.pinned (OpenSpec.ofChange Rows.zfacRefusesSpec):=
 OpenClaim.holds_of_wide 9 Tryz.f9 O O O O O O O ⟨O,O,O,O,O⟩ O O O O O fnm Tryz.func9 jf
  (Wf iT) (by unfold Func.isWrapper;first|(rw[iq<|by decide+kernel];kernel_rfl)|(rw[ir<|by decide+kernel];exact⟨O,O⟩))
  (λos a H enc _=>lifted (M:=λx=>jU 4000000 x.1 x.2.1 x.2.2.1) (iL 4000000) (λx b=>MV x.1 x.2.1 x.2.2.1 b.1 b.2.1 b.2.2.1) os a H enc)
theorem proved:Rows.ZfacRefusesSaid:=
 over
end zfacRefuses
end
end Go.Proofs.YtmggkmchbdanfaaGreat
