/- What a proof needs: rules of walking, mirrors of functions and their plain laws. No condition. -/
import Derived.Test.YtoegnnjcmlghhaaGreatZf6
set_option linter.all false
namespace Go.Proofs.YtoegnnjcmlghhaaGreat
open Bool renaming false->I,true->wF
open Go renaming Func->QR
open Go.Proofs.YtoegnnjcmlghhaaGreat renaming Zr->M,cf->G,bd->Y,za->U,ci->C,nm->B,cC->D,pc->F,ze->Q,zt->A,Pz->S
open List renaming length->X
open Nat renaming beq->E
open Option renaming some->Z
open _root_ renaming rfl->O,List->N,Int->J,Nat->K,Option->V,List->xS,Int->wl,Nat->wr,Option->ww,absurd->wR,trivial->wS,Bool->wW,funext->qR,congrArg->kW,if_false->ut,if_true->uL,decide_eq_false->uT,decide_eq_true->Z3,Unit->Z4,True->XS,congrFun->Wf,of_decide_eq_true->Wl,False->V6,if_pos->UT
open Bool renaming false_eq_true->xak
open Classical renaming byContradiction->xae
open Int renaming add_comm->xfc,add_zero->xbZ,dvd_mul_left->xcx,dvd_mul_right->xcc,dvd_of_emod_eq_zero->xaB,dvd_refl->xed,dvd_sub->xdw,dvd_trans->xbp,dvd_zero->xdE,ediv_mul_cancel->xeY,emod_emod->xaT,emod_emod_of_dvd->xcL,emod_eq_emod_iff_emod_sub_eq_zero->xaI,emod_eq_of_lt->xaL,emod_eq_zero_of_dvd->xaw,emod_nonneg->xcT,eq_ofNat_of_zero_le->xaA,le_of_lt->xdG,le_refl->xfy,mul_add->xfx,mul_assoc->xdg,mul_comm->xbw,mul_dvd_mul->xfT,mul_emod->xck,mul_eq_zero->xeI,mul_le_mul_of_nonneg_left->xaV,mul_le_mul_of_nonneg_right->xbx,mul_ne_zero->xcG,mul_nonneg->xcJ,mul_one->xcZ,mul_zero->xaz,natAbs_dvd_natAbs->xcq,natAbs_ediv_le_natAbs->xbG,natAbs_mul->xcC,natAbs_natCast->xbh,natCast_dvd_natCast->xcF,one_mul->xcY,pow_nonneg->xfA,pow_succ->xbY,pow_zero->xcl,sub_zero->xdc,tdiv->xct,tdiv_eq_ediv_of_nonneg->xeM,tmod->xca,toNat_natCast->xbc,zero_add->xcE,zero_ediv->xef,zero_emod->xas,zero_mul->xba,zero_sub->xfX
open List renaming append_assoc->xaf,append_nil->xbP,append_of_mem->xeg,cons_append->xbF,drop->xdM,drop_eq_getElem_cons->xbT,drop_eq_nil_of_le->xcd,ext_getElem->xeT,ext_getElem?->xcH,filter_cons->xfK,filter_cons_of_neg->xfn,filter_cons_of_pos->xfm,getD_eq_getElem?_getD->H1,getElem?_append_left->xaR,getElem?_append_right->xbj,getElem?_drop->xfe,getElem?_eq_getElem->xah,getElem?_map->xcg,getElem?_set_self->xdW,getElem?_take->xcA,getElem_mem->xbE,getElem_of_mem->xcr,length->xaF,length_append->xap,length_cons->xau,length_drop->xbR,length_eq_zero_iff->xbs,length_filter_le->xfI,length_map->xbd,length_nil->xbH,length_pos_of_mem->xfr,length_range->xep,length_replicate->xaZ,length_set->xbC,length_singleton->xeJ,length_take->xax,map_append->xaW,map_congr_left->xci,map_map->xdb,mem_append->So,mem_append_left->xcM,mem_cons->xaa,mem_cons_of_mem->UV,mem_cons_self->FS,mem_filter->xcj,mem_iff_getElem->xdN,mem_map->xat,mem_map_of_mem->xbI,mem_of_mem_drop->xeO,mem_or_eq_of_mem_set->xej,mem_range->xbe,mem_singleton->xad,not_mem_nil->IR,pairwise_append->xdp,pairwise_cons->xbQ,pairwise_iff_forall_sublist->xdr,pairwise_iff_getElem->xdd,pairwise_map->xeq,pairwise_singleton->xfl,perm_middle->xcn,range->xaH,range_succ->xdl,replicate->xac,take->xdB,take_of_length_le->xaQ
open List.Pairwise renaming nil->xft
open List.Perm renaming append_left->xbL,refl->xdy
open Nat renaming add_comm->xdA,add_mul->xbb,add_sub_cancel->xfi,add_zero->xbK,div_one->xdK,eq_of_beq_eq_true->xcP,gcd->xdq,gcd_comm->xdF,gcd_dvd_left->xfM,gcd_dvd_right->xdx,le_mul_of_pos_left->xdV,le_mul_of_pos_right->xcf,le_of_lt->xda,le_refl->Nm,le_trans->xal,lt_of_le_of_lt->xaK,lt_of_lt_of_le->xao,lt_succ_self->xbS,min_eq_left->xce,mod_eq_of_lt->xam,mod_lt->xaS,mul_add->xbk,mul_le_mul->xbo,mul_le_mul_left->xaD,mul_le_mul_right->xan,mul_left_comm->xdv,mul_lt_mul_of_pos_right->xbX,mul_one->xdU,mul_zero->xcK,not_lt_zero->xbn,one_mul->xcy,pow_add->xbz,pow_le_pow_right->xav,pow_lt_pow_right->xeP,pow_mul->xcz,pow_pos->xaU,pow_succ->xbf,strongRecOn->xdz,sub_self->xcQ,zero_add->xaJ,zero_le->xai,zero_mul->xcu
open Option renaming getD_some->xeS
open Option.some renaming injEq->xar
open Prod renaming ext->xfo
open Prod.mk renaming injEq->xcO
section
variable{N w r i fu lo a:wr}{R M A B:wr->Pz}{g f:Pz}{σ:wr->wr}{p q:wl}{m:xS (xS wl)}{l:xS wl}{e:wr->wl}
def Za(N w:K)(R:K->S):xS (xS J):=(xaH N).map λr=>zl w<|R r
def Zi(N w:K)(R:K->S):X (Za N w R)=N:=by unfold Za;simp
def vW(h:r<N):(Za N w R).getD r []=zl w (R r):=by simp_all [Za]
theorem Zh{S:K->Pz}(h:∀r,r<N->∀k,k<w->R r k=S r k):Za N w R=Za N w S:=by grind [Za,yU,xci]
theorem IY:(Za N w R).set r (zl w g)=Za N w λs=>if s=r then g else R s:=by
 refine xcH λi=> ?_;unfold Za;by_cases h:r=i
 ·grind
 ·grind
def Uz(N:K)(σ:K->K):xS K:=(xaH N).map σ
def Wg(N:K)(σ:K->K):X (Uz N σ)=N:=by unfold Uz;simp
def uD(h:i<N:=by lia):(Uz N σ).getD i 0=σ i:=by simp_all [Uz]
def stk(p:J)(a:K)(own f:S):S:=λk=>(f k+(p-f a)*own k)%p
def E4(p:J)(a:K)(own f:S)(i:K):S:=λk=>if k<i then stk p a own f k else f k
def zh0(hp:0<p)(a:K)(own f:S)(k:K):0<=stk p a own f k/\stk p a own f k<p:=xe hp
def zcX{ix:xS K}{n lo2 n2 q:K}{y:J}(h1:2<=p)(P:p<=65521)(h:∀s,s<N->∀k,0<=R s k/\R s k<p)(o:r<N)(t:q<N)(hd:q≠r)(T:w<=64)(C:y=R q a)(b:xS (xS J))(h0:b=Za N w R)(U:3000000<=fu):
 zg (λL (z:((xS (xS J)×xS K)×K×K)×(K×K)×K×K×K×J)=>
 if z.2.2.2.2.2<(X (b.getD r []):J)then
  zD z.2.2.2.2.2 (X (z.1.1.1.getD z.2.2.2.1 [])) λj=>
  nm ((z.1.1.1.getD z.2.2.2.1 []).getD j 0) λv=>
  zD z.2.2.2.2.2 (X (z.1.1.1.getD z.2.2.2.2.1 [])) λj=>
  nm ((z.1.1.1.getD z.2.2.2.2.1 []).getD j 0) λu=>
  Q (p-y) λe=>
  Q (e*v) λe=>
  Q (u+e) λe=>
  ck (p≠0)<|
  nm (xca e p) λe=>
  zD z.2.2.2.2.2 (X (z.1.1.1.getD z.2.2.2.2.1 [])) λj=>
  nm (z.1.1.1.set z.2.2.2.2.1<|(z.1.1.1.getD z.2.2.2.2.1 []).set j e) λx=>
  Q (z.2.2.2.2.2+1) λi=>
  L (((x,z.1.1.2),z.1.2),z.2.1,z.2.2.1,z.2.2.2.1,z.2.2.2.2.1,i)
 else Z (z.1,z.2.1,z.2.2.1)) fu (((b,ix),lo,n),(lo2,n2),r,r,q,0)=Z (((Za N w λs=>if s=q then stk p a (R r) (R q)else R s,ix),lo,n),(lo2,n2),r):=by
 subst h0;refine zA (λz:((xS (xS J)×xS K)×K×K)×(K×K)×K×K×K×J=>∃i:K,i<=w/\z=(((Za N w λs=>if s=q then E4 p a (R r) (R q) i else R s,ix),lo,n),(lo2,n2),r,r,q,(i:J))) (λz=>w-z.2.2.2.2.2.toNat) _ ?_ _ _ ⟨0,xai _,by
  rw[Zh (R:=R) (S:=λs=>if s=q then E4 p a (R r) (R q) 0 else R s) λs _ k _=>by
   by_cases e:s=q
   ·rw[iq e,e];unfold E4;rw[zB]
   ·rw[ir e]]
  rfl⟩ (by show w-0<fu;lia)
 rintro z L ⟨i,hi,rfl⟩ D;simp only;rw[vW o,z6];by_cases c:i<w
 ·have E:(Za N w λs=>if s=q then E4 p a (R r) (R q) i else R s).getD r []=zl w (R r):=by rw[vW o,ir<|λe=>hd e.symm]
  have F:(Za N w λs=>if s=q then E4 p a (R r) (R q) i else R s).getD q []=zl w (E4 p a (R r) (R q) i):=by rw[vW t,iq O]
  have ev:E4 p a (R r) (R q) i i=R q i:=zB;have⟨v1,V⟩:=h r o i;have⟨Y,u2⟩:=h q t i;have⟨G,H⟩:=h q t a;rw[<-C]at G H;have m1:0<=(p-y)*R r i:=xcJ W v1;have m2:(p-y)*R r i<=65521*65521:=Int.mul_le_mul W W v1 W;rw[zT,E,z6,zo c,zf,ke c,F,z6,zo c,zf,ke c,ev,zb,zb,zb,yV,zf,fc,zo c,zf,Zu,IY,zb];refine D _ ⟨i+1,W,?_⟩ (by show w-((i:J)+1).toNat<w-(i:J).toNat;lia);rw[Zh (S:=λs=>if s=q then E4 p a (R r) (R q) (i+1)else R s) λs _ k _=>by
   by_cases e:s=q
   ·rw[iq e,iq e];unfold Y8 E4;by_cases d:k=i
    ·rw[iq d,zT,d,C];rfl
    ·rw[ir d];by_cases hc:k<i
     ·rw[iq hc,zT]
     ·rw[ir hc,zB]
   ·rw[ir e,ir e,ir e]]
  rfl
 ·rw[zB];obtain rfl:i=w:=W
  rw[Zh (S:=λs=>if s=q then stk p a (R r) (R q)else R s) λs _ k d=>by
   by_cases e:s=q
   ·rw[iq e,iq e];unfold E4;rw[iq d]
   ·rw[ir e,ir e]]
structure Ps(N:K)(σ:K->K):Prop where
 lt:∀i,i<N->σ i<N
 ij:∀i j,i<N->j<N->σ i=σ j->i=j
def GU{n t:K}(h1:2<=p)(T:p<=65521)(V:∀s,s<N->∀k,0<=R s k/\R s k<p)(b:Ps N σ)(D:t<N)(hp:t<lo\/lo+n<=t)(hn:lo+n<=N)(hN:N<=64)(hw:w<=64)(F:a<w)(hf:3000000<=fu):
 ∃S:K->Pz,vN fu (Za N w R) (Uz N σ) (σ t) (a:J) p lo n=Z (Za N w S)/\(∀s,s<N->∀k,0<=S s k/\S s k<p)/\∀j,j<N->S (σ j)=if lo<=j/\j<lo+n then stk p a (R<|σ t) (R<|σ j)else R (σ j):=by
 unfold vN;have hd:=ya (f:=(λL (x:((xS (xS J)×xS K)×K×K)×(K×K)×K×J)=>
 if x.2.2.2<(n:J)then
  zD x.2.2.2 x.2.1.2 λj=>
  nm (x.1.1.2.getD (x.2.1.1+j) 0) λq=>
  zD (a:J) (X (x.1.1.1.getD q [])) λj=>
  nm ((x.1.1.1.getD q []).getD j 0) λy=>
  Y (zg (λL (z:((xS (xS J)×xS K)×K×K)×(K×K)×K×K×K×J)=>
   if z.2.2.2.2.2<(X (x.1.1.1.getD x.2.2.1 []):J)then
    zD z.2.2.2.2.2 (X (z.1.1.1.getD z.2.2.2.1 [])) λj=>
    nm ((z.1.1.1.getD z.2.2.2.1 []).getD j 0) λv=>
    zD z.2.2.2.2.2 (X (z.1.1.1.getD z.2.2.2.2.1 [])) λj=>
    nm ((z.1.1.1.getD z.2.2.2.2.1 []).getD j 0) λu=>
    Q (p-y) λe=>
    Q (e*v) λe=>
    Q (u+e) λe=>
    ck (p≠0)<|
    nm (xca e p) λe=>
    zD z.2.2.2.2.2 (X (z.1.1.1.getD z.2.2.2.2.1 [])) λj=>
    nm (z.1.1.1.set z.2.2.2.2.1<|(z.1.1.1.getD z.2.2.2.2.1 []).set j e) λE=>
    Q (z.2.2.2.2.2+1) λi=>
    L (((E,z.1.1.2),z.1.2),z.2.1,z.2.2.1,z.2.2.2.1,z.2.2.2.2.1,i)
   else Z (z.1,z.2.1,z.2.2.1)) fu (x.1,x.2.1,x.2.2.1,x.2.2.1,q,0)) λz=>
  Q (x.2.2.2+1) λi=>
  L (z.1,z.2.1,z.2.2,i)
 else Z x.1)) (λx=>∃(c:K) (S:K->Pz),x=(((Za N w S,Uz N σ),lo,n),(lo,n),σ t,(c:J))/\c<=n/\(∀s,s<N->∀k,0<=S s k/\S s k<p)/\∀j,j<N->S (σ j)=if lo<=j/\j<lo+c then stk p a (R (σ t)) (R (σ j))else R (σ j)) (λx=>n-x.2.2.2.toNat)
  (λy=>∃S:K->Pz,y=((Za N w S,Uz N σ),lo,n)/\(∀s,s<N->∀k,0<=S s k/\S s k<p)/\∀j,j<N->S (σ j)=if lo<=j/\j<lo+n then stk p a (R<|σ t) (R<|σ j)else R (σ j)) (by
  rintro x L ⟨c,S,rfl,hc,C,d⟩ ih
  simp only
  by_cases hi:c<n
  ·have o:lo+c<N:=W
   have hk:=b.lt t D
   have G:=b.lt (lo+c) o
   have hl:σ (lo+c)≠σ t:=λe=>by have:=b.ij _ _ o D e;lia
   have hm:S (σ<|lo+c)=R (σ<|lo+c):=by rw[d _ o,zB]
   have ho:S (σ t)=R (σ t):=by rw[d _ D,zB]
   rw[zT,zo hi,zf,uD o,vW G,z6,zo F,zf,ke F,U<|zcX (ix:=Uz N σ) (lo:=lo) (n:=n) (lo2:=lo) (n2:=n) h1 T C hk G hl hw O _ O hf]
   simp only
   rw[zb]
   refine ih _ ⟨c+1,λs=>if s=σ (lo+c)then stk p a (S<|σ t) (S<|σ<|lo+c)else S s,O,W,λs hs k=> ?_,λj H=> ?_⟩ (by show n-((c:J)+1).toNat<n-(c:J).toNat;lia)
   ·show 0<=(if s=σ (lo+c)then stk p a (S<|σ t) (S<|σ<|lo+c)else S s) k/\(if s=σ (lo+c)then stk p a (S<|σ t) (S<|σ<|lo+c)else S s) k<p
    by_cases e:s=σ (lo+c)
    ·rw[iq e];exact zh0 (W:0<p) _ _ _ _
    ·rw[ir e];exact C s hs k
   ·show(if σ j=σ (lo+c)then stk p a (S<|σ t) (S<|σ<|lo+c)else S (σ j))=_
    by_cases e:j=lo+c
    ·rw[e,iq O,zT,ho,hm]
    ·rw[ir<|λh=>e<|b.ij _ _ H o h,d j H]
     by_cases P:lo<=j/\j<lo+c
     ·rw[iq P,zT]
     ·rw[ir P,zB]
  ·rw[zB]
   obtain rfl:c=n:=W
   exact⟨_,O,S,O,C,d⟩)
 obtain⟨y,hy,S,rfl,C,d⟩:=hd fu (((Za N w R,Uz N σ),lo,n),(lo,n),σ t,0) ⟨0,R,O,xai _,V,λj o=>by rw[zB]⟩ (by show n-0<fu;lia);refine⟨S,?_,C,d⟩;rw[U hy];simp only;rw[xB ⟨wS,wS,wS⟩]
def aW(hp:vF p=wF)(d:X m<=64)(b:∀r∈m,X r=w)(j:w<=64)(n:3000000<=fu):Xl fu m p=Z 0:=by
 unfold Xl;rw[U<|ui hp,iq O,zB,U (v:=Sum.inl ())];refine zA (λi:J=>∃k:K,i=(k:J)/\k<=X m) (λi=>X m-i.toNat) _ ?_ _ _ ⟨0,O,xai _⟩ W;rintro i L ⟨k,rfl,o⟩ c;unfold da;by_cases h:k<X m
 ·have e1:=b _<|Yq h [];have s:=b _<|Yq (W:0<X m) [];rw[zT,U O];simp only[uL];rw[zo h,zf,zB,show(0:J)=((0:K):J)from O,zY,zf,zT,zb];exact c _ ⟨k+1,W,W⟩ W
 ·rw[zB,U O];simp_all
def Ao(h1:1<=p)(d:p<=65521)(j:Rl l)(hl:X l<=1000000)(o:3000000<=fu):YQ fu l p=Z (zl (X l)<|λk=>C l k%p):=by
 unfold YQ;rw[yR,yV,zf,cZ,U (v:=zl (X l)<|λk=>C l k%p)];refine zA (λs:J×xS J=>∃i:K,i<=X l/\s=((i:J),zl (X l) (λk=>if k<i then C l k%p else 0))) (λs=>X l-s.1.toNat) _ ?_ _ _ ⟨0,xai _,by rw[yU (f:=λ_=>0) (g:=λk=>if k<0 then C l k%p else 0) λk _=>by rw[zB]];rfl⟩ (by show X l-0<fu;lia);rintro s L ⟨i,hi,rfl⟩ n;unfold ek;simp only;by_cases h:i<X l
 ·rw[zT,zo h,zf,U (show u6 fu (l.getD i 0) p=Z (l.getD i 0%p)from Yr h1 d<|j i),zo (by rw[z6];exact h),zf,Zu,zb];refine n _ ⟨i+1,W,?_⟩ (by show X l-((i:J)+1).toNat<X l-(i:J).toNat;lia);rw[yU (g:=λk=>if k<i+1 then C l k%p else 0) λk _=>by
   unfold Y8;by_cases b:k=i
   ·rw[iq b,zT,b,Vp]
   ·rw[ir b];show(if k<i then C l k%p else 0)=_;by_cases c:k<i
    ·rw[iq c,zT]
    ·rw[ir c,zB]]
  rfl
 ·rw[zB];rw[yU (g:=λk=>C l k%p) λk b=>by rw[zT]]
theorem Nu{l:xS (xS J)}{g:xS J->V wW}{b:xS J->wW}(o:∀z∈l,g z=Z (b z))(hl:X l<=1000000)(v:3000000<=fu):
 (yO fu l g=Z (-1)/\∀z∈l,b z=I)\/∃i:K,i<X l/\yO fu l g=Z (i:J)/\b (l.getD i [])=wF/\∀j,j<i->b (l.getD j [])=I:=by
 unfold yO
 have s:=ya (f:=vu fu l g) (λi:J=>∃k:K,i=(k:J)/\k<=X l/\∀j,j<k->b (l.getD j [])=I) (λi=>X l-i.toNat)
  (λr=>(r=.inl ()/\∀j,j<X l->b (l.getD j [])=I)\/∃i:K,i<X l/\r=.inr (i:J)/\b (l.getD i [])=wF/\∀j,j<i->b (l.getD j [])=I) (by
  rintro i L ⟨k,rfl,x,c⟩ t
  unfold vu
  by_cases h:k<X l
  ·rw[zT,zo h,zf,U<|o _<|Yq h []]
   cases d:b (l.getD k [])with
   |true=>
    grind
   |false=>
    rw[ir gS,zb]
    refine t _ ⟨k+1,W,W,λj y=> ?_⟩ W
    by_cases e:j=k
    ·rw[e];exact d
    ·exact c j W
  ·rw[zB]
   exact⟨_,O,.inl ⟨O,λj C=>c j W⟩⟩)
 have⟨r,n,hc⟩:=s fu 0 ⟨0,O,xai _,λj c=>by lia⟩ (by show X l-0<fu;lia);rcases hc with⟨rfl,hd⟩|⟨i,hi,rfl,d,c⟩
 ·left;refine⟨by rw[U n],λz u=> ?_⟩;have⟨j,c,e⟩:=xcr u;have:=hd j c;rw[H1,xah c]at this;rw[<-e];exact this
 ·right;exact⟨i,hi,by rw[U n],d,c⟩
theorem zcQ{g:J->V wW}{b:J->wW}(o:∀z,g z=Z (b z))(hl:X l<=1000000)(u:3000000<=fu):
 (xr fu l g=Z (-1)/\∀j,j<X l->b (C l j)=I)\/∃i:K,i<X l/\xr fu l g=Z (i:J)/\b (C l i)=wF/\∀j,j<i->b (C l j)=I:=by
 unfold xr
 have s:=ya (f:=wY fu l g) (λi:J=>∃k:K,i=(k:J)/\k<=X l/\∀j,j<k->b (C l j)=I) (λi=>X l-i.toNat)
  (λr=>(r=.inl ()/\∀j,j<X l->b (C l j)=I)\/∃i:K,i<X l/\r=.inr (i:J)/\b (C l i)=wF/\∀j,j<i->b (C l j)=I) (by
  rintro i L ⟨k,rfl,v,c⟩ t
  unfold wY
  by_cases h:k<X l
  ·rw[zT,zo h,zf,U<|o _,Vp]
   cases d:b (C l k)with
   |true=>
    grind
   |false=>
    rw[ir gS,zb]
    refine t _ ⟨k+1,W,W,λj x=> ?_⟩ W
    by_cases e:j=k
    ·rw[e];exact d
    ·exact c j W
  ·rw[zB]
   exact⟨_,O,.inl ⟨O,λj y=>c j W⟩⟩)
 have⟨r,n,hc⟩:=s fu 0 ⟨0,O,xai _,λj c=>by lia⟩ (by show X l-0<fu;lia);rcases hc with⟨rfl,hd⟩|⟨i,hi,rfl,d,c⟩
 ·exact .inl ⟨by rw[U n],hd⟩
 ·exact .inr ⟨i,hi,by rw[U n],d,c⟩
def dt(w:K)(f:S)(e:K->J):J:=yi w λk=>f k*e k
def zfF(h:∀k,k<w->f k%p=g k%p):dt w f e%p=dt w g e%p:=eT λk b=>by rw[xck,h k b,<-xck]
theorem zhc(c d:J):dt w (λk=>c*f k+d*g k) e=c*dt w f e+d*dt w g e:=by
 unfold dt;rw[<-uy,<-uy,<-YB];grind
def Kr(p:J)(N w:K)(A:K->S)(e:K->J):Prop:=∀i,i<N->p∣dt w (A i) e
structure Cq(p:J)(N w:K)(M A:K->S)(n c:K)(pv:K->K):Prop where
 hn:n<=N
 hc:c<=w
 rg:∀i,i<N->∀k,0<=A i k/\A i k<p
 lt:∀i,i<n->pv i<c
 on:∀i,i<n->A i (pv i)=1
 no:∀i,i<n->∀j,j<N->j≠i->A j (pv i)=0
 ld:∀i,i<n->∀k,k<pv i->A i k=0
 zr:∀i,n<=i->i<N->∀k,k<c->A i k=0
 kr:∀e,Kr p N w A e↔Kr p N w M e
def Cq.skip{n c:K}{pv:K->K}(h:Cq p N w M A n c pv)(hc:c<w)(d:∀i,n<=i->i<N->A i c=0):Cq p N w M A n (c+1) pv:=
 ⟨h.hn,hc,h.rg,λi hi=>by have:=h.lt i hi;lia,h.on,h.no,h.ld,λi h1 b k j=>by
  by_cases e:k=c
  ·simp_all
  ·exact h.zr i h1 b k W,h.kr⟩
theorem Cq.swap{n c:K}{pv:K->K}(h:Cq p N w M A n c pv)(y:n<=a)(z:a<N)(C:∀i,i<N->B i=if i=n then A a else if i=a then A n else A i):Cq p N w M B n c pv:=by
 have o:∀i,i<n->B i=A i:=λi hi=>by grind
 have hc:∀i,i<N->∃j,j<N/\B i=A j/\(n<=i->n<=j)/\(∀x,x<n->(i≠x->j≠x)):=λi hi=>by
  by_cases e1:i=n
  ·grind
  ·grind
 have hd:∀i,i<N->∃j,j<N/\A i=B j:=λi hi=>by
  by_cases e1:i=n
  ·grind
  ·grind
 refine⟨h.hn,h.hc,λi hi=> ?_,h.lt,λi hi=> ?_,λi hi j b s=> ?_,λi hi k d=> ?_,λi h1 t k d=> ?_,λe=> ?_⟩
 ·have⟨j,b,e,_⟩:=hc i hi;rw[e];exact h.rg j b
 ·rw[o i hi];exact h.on i hi
 ·have⟨x,u,e,_,v⟩:=hc j b;rw[e];exact h.no i hi x u<|v i hi s
 ·rw[o i hi];exact h.ld i hi k d
 ·have⟨j,b,e,hl,_⟩:=hc i t;rw[e];exact h.zr j (hl h1) b k d
 ·refine Iff.trans ⟨λd i hi=> ?_,λd i hi=> ?_⟩<|h.kr e
  ·have⟨j,b,e⟩:=hd i hi;rw[e];exact d j b
  ·have⟨j,b,e,_⟩:=hc i hi;rw[e];exact d j b
theorem Cq.step{n c:K}{pv:K->K}(hp:2<=p)(h:Cq p N w M A n c pv)(hc:n<N)(P:c<w)(C:(q*A n c)%p=1)(t:B n=λk=>(A n k*q)%p)(Q:∀j,j<N->j≠n->B j=stk p c (B n) (A j)):
 Cq p N w M B (n+1) (c+1) (λi=>if i=n then c else pv i):=by
 have hl:∀k,k<c->B n k=0:=λk d=>by rw[t];show A n k*q%p=0;rw[h.zr n (Nm _) hc k d,xba,xas]
 have hn:B n c=1:=by rw[t];show A n c*q%p=1;rw[xbw,C]
 have hd:∀j,j<N->j≠n->∀k,B j k=(A j k+(p-A j c)*B n k)%p:=λj b s k=>by rw[Q j b s];rfl
 have u:∀j,j<N->j≠n->∀k,B n k=0->B j k=A j k:=λj b s k d=>by
  rw[hd j b s,d,xaz,xbZ];exact xaL (h.rg j b k).1 (h.rg j b k).2
 have z:∀i,i<n->B n (pv i)=0:=λi hi=>hl _<|h.lt i hi;refine⟨hc,P,λi hi k=> ?_,λi hi=> ?_,λi hi=> ?_,λi hi j b S=> ?_,λi hi k d=> ?_,λi h1 o k d=> ?_,λe=> ?_⟩
 ·by_cases e:i=n
  ·rw[e,t];exact xe
  ·rw[hd i hi e];exact xe
 ·show(if i=n then c else pv i)<c+1;by_cases e:i=n
  ·rw[iq e];lia
  ·rw[ir e];have:=h.lt i W;lia
 ·show B i (if i=n then c else pv i)=1;by_cases e:i=n
  ·rw[iq e,e,hn]
  ·rw[ir e,u i W e _<|z i W];exact h.on i W
 ·show B j (if i=n then c else pv i)=0;by_cases e:i=n
  ·rw[iq e,hd j b W,hn,xcZ,(W:A j c+(p-A j c)=p),Int.emod_self]
  ·rw[ir e];by_cases D:j=n
   ·rw[D];exact z i W
   ·rw[u j b D _<|z i W];exact h.no i W j b S
 ·have v:k<(if i=n then c else pv i):=d;by_cases e:i=n
  ·rw[iq e]at v;rw[e];exact hl k v
  ·rw[ir e]at v;have E:=h.lt i W;rw[u i W e k<|hl k W];exact h.ld i W k v
 ·by_cases e:k=c
  ·rw[e,hd i o W,hn,xcZ,(W:A i c+(p-A i c)=p),Int.emod_self]
  ·rw[u i o W k<|hl k W];exact h.zr i W o k W
 ·refine Iff.trans ?_<|h.kr e;have F:dt w (B n) e%p=(q*dt w (A n) e)%p:=by
   have:=zfF (p:=p) (w:=w) (f:=B n) (g:=λk=>q*A n k+0*A n k) (e:=e) λk _=>by rw[t];show A n k*q%p%p=_;rw[xaT];congr 1;grind
   rw[this,zhc];congr 1;grind
  have G:∀j,j<N->j≠n->dt w (B j) e%p=(dt w (A j) e+(p-A j c)*dt w (B n) e)%p:=λj b s=>by
   have:=zfF (p:=p) (w:=w) (f:=B j) (g:=λk=>1*A j k+(p-A j c)*B n k) (e:=e) λk _=>by rw[hd j b s,xaT];congr 1;grind
   rw[this,zhc];congr 1;grind
  have dv:∀{x y:J},x%p=y%p->(p∣x↔p∣y):=λ{x y} H=>⟨λT=>xaB (by rw[<-H];exact xaw T),λU=>xaB<|by rw[H];exact xaw U⟩;have hv:p∣dt w (B n) e->p∣dt w (A n) e:=λV=>by
   have h1:=(dv F).1 V;have o:p∣A n c*(q*dt w (A n) e):=xbp h1<|xcx _ _;refine(dv ?_).1 o;rw[<-xdg,xck,xbw (A n c) q,C,xcY,xaT]
  constructor
  ·intro d j b;by_cases e1:j=n
   ·rw[e1];exact hv<|d n hc
   ·have h1:=(dv<|G j b e1).1<|d j b;have o:p∣(p-A j c)*dt w (B n) e:=xbp (d n hc)<|xcx _ _;have E:=xdw h1 o;rwa[Int.add_sub_cancel]at E
  ·intro d j b;have L:p∣dt w (B n) e:=(dv F).2<|xbp (d n hc)<|xcx _ _;by_cases e1:j=n
   ·rw[e1];exact L
   ·exact(dv<|G j b e1).2<|Int.dvd_add (d j b)<|xbp L<|xcx _ _
theorem Pq(N w:K)(R:K->S):Za N w R++[zl w<|R N]=Za (N+1) w R:=by grind [Za,xdl]
theorem zdv(N:K)(σ:K->K):Uz N σ++[σ N]=Uz (N+1) σ:=by grind [Uz,xdl]
theorem Bl{v:K}:(Uz N σ).set i v=Uz N λs=>if s=i then v else σ s:=by
 refine xcH λj=> ?_;unfold Uz;by_cases h:i=j
 ·grind
 ·grind
def zfJ(b:∀i,i<N->σ i<N):((Uz N σ).map λr=>(Za N w R).getD r [])=Za N w λi=>R (σ i):=by
 show((xaH N).map σ).map _=(xaH N).map _;rw[xdb];exact xci λi hi=>vW<|b i<|xbe.1 hi
def zgb{n:K}(h:n<=N):(Za N w R).take n=Za n w R:=by
 unfold Za;rw[<-List.map_take,List.take_range,xce h]
theorem zgR{n:K}(h:n<=N):(Za N w R).drop n=Za (N-n) w λi=>R (n+i):=by
 refine xcH λi=> ?_;unfold Za;by_cases hi:n+i<N
 ·grind
 ·grind
def zga{n:K}(h1:2<=p)(E:p<=65521)(v:∀s,s<N->∀k,0<=R s k/\R s k<p)(d:r<N)(x:σ n=r)(hn:n<N)(hc:0<=q)(F:q<p)(G:w<=64)(b:xS (xS J))(h0:b=Za N w R)(t:J)(C:t=(n:J))(H:3000000<=fu):
 zg (λL (z:(xS (xS J)×xS K)×K×J)=>
  if z.2.2<(X (b.getD r []):J)then
   zD z.2.2 (X (z.1.1.getD z.2.1 [])) λj=>
   nm ((z.1.1.getD z.2.1 []).getD j 0) λy=>
   zD t (X z.1.2) λj=>
   nm (z.1.2.getD j 0) λr=>
   Q (y*q) λe=>
   ck (p≠0)<|
   nm (xca e p) λe=>
   zD z.2.2 (X (z.1.1.getD r [])) λj=>
   nm (z.1.1.set r<|(z.1.1.getD r []).set j e) λh=>
   Q (z.2.2+1) λi=>L ((h,z.1.2),z.2.1,i)
  else Z z.1) fu ((b,Uz N σ),r,0)=Z (Za N w λs=>if s=r then λk=>(R r k*q)%p else R s,Uz N σ):=by
 subst h0 C;refine zA (λz:(xS (xS J)×xS K)×K×J=>∃i:K,i<=w/\z=((Za N w λs=>if s=r then λk=>if k<i then(R r k*q)%p else R r k else R s,Uz N σ),r,(i:J))) (λz=>w-z.2.2.toNat) _ ?_ _ _ ⟨0,xai _,by
  rw[Zh (R:=R) (S:=λs=>if s=r then λk=>if k<0 then(R r k*q)%p else R r k else R s) λs _ k _=>by
   by_cases e:s=r
   ·simp_all
   ·rw[ir e]]
  rfl⟩ (by show w-0<fu;lia)
 rintro z L ⟨i,hi,rfl⟩ D;simp only;rw[vW d,z6];by_cases o:i<w
 ·have u:(Za N w λs=>if s=r then λk=>if k<i then(R r k*q)%p else R r k else R s).getD r []=zl w (λk=>if k<i then(R r k*q)%p else R r k):=by rw[vW d,iq O]
  have⟨v1,P⟩:=v r d i;have T:0<=R r i*q:=xcJ v1 hc;have U:R r i*q<=65521*65521:=Int.mul_le_mul W W hc W;rw[zT,u,z6,zo o,zf,ke o,zB,Wg,zo hn,zf,uD hn,x,zb,yV,zf,fc,u,z6,zo o,zf,Zu,IY,zb];refine D _ ⟨i+1,W,?_⟩ (by show w-((i:J)+1).toNat<w-(i:J).toNat;lia);rw[Zh (S:=λs=>if s=r then λk=>if k<i+1 then(R r k*q)%p else R r k else R s) λs _ k _=>by
   by_cases e:s=r
   ·rw[iq e,iq e];unfold Y8;show _=if k<i+1 then(R r k*q)%p else R r k;by_cases c:k=i
    ·rw[iq c,zT,c]
    ·rw[ir c];show(if k<i then(R r k*q)%p else R r k)=_;by_cases hd:k<i
     ·rw[iq hd,zT]
     ·rw[ir hd,zB]
   ·rw[ir e,ir e,ir e]]
  rfl
 ·rw[zB];obtain rfl:i=w:=W
  rw[Zh (S:=λs=>if s=r then λk=>(R r k*q)%p else R s) λs _ k c=>by
   by_cases e:s=r
   ·rw[iq e,iq e];show(if k<i then _ else _)=_;rw[iq c]
   ·rw[ir e,ir e]]
def zoH(hp:0<p):Cq p N w M (λi k=>M i k%p) 0 0 (λ_=>0):=
 ⟨xai _,xai _,λi _ k=>xe hp,λi hi=>by lia,λi hi=>by lia,λi hi=>by lia,λi hi=>by lia,λi _ _ k j=>by lia,λe=>by
  have dv:∀{x y:J},x%p=y%p->(p∣x↔p∣y):=λ{x y} b=>⟨λc=>xaB (by rw[<-b];exact xaw c),λd=>xaB<|by rw[b];exact xaw d⟩;have:∀i,p∣dt w (λk=>M i k%p) e↔p∣dt w (M i) e:=λi=>dv<|zfF λk _=>xaT _ _;exact⟨λh i hi=>(this i).1<|h i hi,λh i hi=>(this i).2<|h i hi⟩⟩
def zhf(fu:K)(p:J):(((xS (xS J)×xS K)×J×J)->V ((xS (xS J)×xS K)×J))->((xS (xS J)×xS K)×J×J)->V ((xS (xS J)×xS K)×J):=λL (x:(xS (xS J)×xS K)×J×J)=>if x.2.1<(X x.1.2:J)then zD 0 (X x.1.2) λj=>nm (x.1.2.getD j 0) λr=>if x.2.2<(X (x.1.1.getD r []):J)then jh x.2.1 λj=>ck (j<=X x.1.2)<|Y (yO fu (xdB (X x.1.2-j)<|xdM j<|x.1.2.map λr=>x.1.1.getD r []) λz=>jv fu z x.2.2) λi=>if i<0 then Q (x.2.2+1) λc=>L (x.1,x.2.1,c)else Q (x.2.1+i) λa=>Q (x.2.1+i) λb=>zD b (X x.1.2) λj=>nm (x.1.2.getD j 0) λr1=>zD x.2.1 (X x.1.2) λj=>nm (x.1.2.getD j 0) λr2=>zD x.2.1 (X x.1.2) λj=>nm (x.1.2.set j r1) λix=>zD a (X ix) λj=>nm (ix.set j r2) λix=>zD x.2.1 (X ix) λj=>nm (ix.getD j 0) λr=>zD x.2.2 (X (x.1.1.getD r [])) λj=>nm ((x.1.1.getD r []).getD j 0) λy=>Y (Vk fu y p) λq=>zD x.2.1 (X ix) λj=>nm (ix.getD j 0) λr=>Y (zg (λL (z:(xS (xS J)×xS K)×K×J)=>if z.2.2<(X (x.1.1.getD r []):J)then zD z.2.2 (X (z.1.1.getD z.2.1 [])) λj=>nm ((z.1.1.getD z.2.1 []).getD j 0) λy=>zD x.2.1 (X z.1.2) λj=>nm (z.1.2.getD j 0) λr=>Q (y*q.1) λe=>ck (p≠0)<|nm (xca e p) λe=>zD z.2.2 (X (z.1.1.getD r [])) λj=>nm (z.1.1.set r<|(z.1.1.getD r []).set j e) λd=>Q (z.2.2+1) λi=>L ((d,z.1.2),z.2.1,i)else Z z.1) fu ((x.1.1,ix),r,0)) λm=>zD x.2.1 (X m.2) λj=>nm (m.2.getD j 0) λr=>jh x.2.1 λj=>ck (j<=X m.2)<|Y (vN fu m.1 m.2 r x.2.2 p 0 j) λd=>zD x.2.1 (X m.2) λj=>nm (m.2.getD j 0) λr=>Q (x.2.1+1) λe=>jh e λj=>ck (j<=X m.2)<|Y (vN fu d m.2 r x.2.2 p j<|X m.2-j) λd=>Q (x.2.1+1) λk=>Q (x.2.2+1) λc=>L ((d,m.2),k,c)else Z (x.1,x.2.1)else Z (x.1,x.2.1)
def EI(p:J)(N w:K)(M:K->S)(x:(xS (xS J)×xS K)×J×J):Prop:=
 ∃(R:K->S) (σ:K->K) (n c:K) (pv:K->K),x=((Za N w R,Uz N σ),(n:J),(c:J))/\(∀s,s<N->∀k,0<=R s k/\R s k<p)/\Ps N σ/\Cq p N w M (λi=>R<|σ i) n c pv
def EQ(p:J)(N w:K)(M:K->S)(y:(xS (xS J)×xS K)×J):Prop:=
 ∃(R:K->S) (σ:K->K) (n c:K) (pv:K->K),y=((Za N w R,Uz N σ),(n:J))/\Ps N σ/\Cq p N w M (λi=>R<|σ i) n c pv/\(n=N\/c=w)
def zj5{α:Type}{n:K}{k:K->V α}(h:0<n):zD (0:J) n k=k 0:=by
 rw[show 0=((0:K):J)from O,zo h]
def zeO(hp:vF p=wF)(hN:N<=64)(hw:w<=64)(F:3000000<=fu){x:(xS (xS J)×xS K)×J×J}(hx:EI p N w M x):∃y,zg (zhf fu p) fu x=Z y/\EQ p N w M y:=by
 have⟨Q,p2⟩:=zz hp;refine ya (EI p N w M) (λx=>w-x.2.2.toNat) _ ?_ _ _ hx (by obtain⟨R,σ,n,c,pv,rfl,_⟩:=hx;show w-(c:J).toNat<fu;lia);rintro x L ⟨R,σ,n,c,pv,rfl,T,d,E⟩ ih;unfold zhf;simp only;have hq:=E.hn;have hr:=E.hc;rw[Wg];by_cases h1:n<N
 ·have hl:=d.lt 0 W;rw[zT,zj5 W,zf,uD,vW hl,z6];by_cases u:c<w
  ·rw[zT,yR,yV,zfJ d.lt,zgR W,xaQ<|by rw[Zi];exact Nm _];have hg:∀z∈Za (N-n) w (λi=>R<|σ<|n+i),jv fu z (c:J)=Z (!decide (C z c=0)):=λz hz=>by
    obtain⟨j,o,rfl⟩:=xat.1 hz;unfold jv;rw[zo (by rw[z6];exact u),zf,Vp];by_cases e:C (zl w<|R<|σ<|n+j) c=0
    ·rw[iq e,Z3 e];rfl
    ·rw[ir e,uT e];rfl
   rcases Nu (fu:=fu) (b:=λz=> !decide (C z c=0)) hg (by rw[Zi];lia) F with⟨g1,V⟩|⟨i,hi,g1,V,g3⟩
   ·rw[U g1,iq gS,zb];refine ih _ ⟨R,σ,n,c+1,pv,O,T,d,E.skip u λi h3 h4=> ?_⟩ (by show w-((c:J)+1).toNat<w-(c:J).toNat;lia);have g4:=V ((Za (N-n) w<|λi=>R<|σ<|n+i).getD (i-n) [])<|Yq (by rw[Zi];lia) [];rw[vW W,uZ u,(W:n+(i-n)=i)]at g4;show R (σ i) c=0;simpa using g4
   ·rw[Zi]at hi;rw[vW hi,uZ u]at V;have G:R (σ<|n+i) c≠0:=by simpa using V
    have⟨τ,v⟩:∃τ:K->K,τ=λs=>if s=n+i then σ n else if s=n then σ (n+i)else σ s:=⟨_,O⟩;have hm:τ n=σ (n+i):=by
     rw[v];show(if n=n+i then σ n else if n=n then σ (n+i)else σ n)=_;by_cases e:n=n+i
     ·rw[iq e];exact kW σ e
     ·rw[ir e,iq O]
    have hc:Ps N τ:=by
     have hd:∀s,τ s=σ (if s=n+i then n else if s=n then n+i else s):=λs=>by
      rw[v];show(if s=n+i then σ n else if s=n then σ (n+i)else σ s)=_;by_cases e1:s=n+i
      ·rw[iq e1,iq e1]
      ·rw[ir e1,ir e1];by_cases h:s=n
       ·rw[iq h,iq h]
       ·rw[ir h,ir h]
     refine⟨λs hs=> ?_,λs t hs ht e=> ?_⟩
     ·rw[hd];refine d.lt _ ?_;split<;>(try split)<;>lia
     ·rw[hd,hd]at e;have:=d.ij _ _ (by split<;>(try split)<;>lia) (by split<;>(try split)<;>lia) e;split at this<;>(try split at this)<;>(try split at this)<;>(try split at this)<;>lia
    have hn:Cq p N w M (λj=>R<|τ j) n c pv:=E.swap (a:=n+i) W W λj o=>by
     rw[v];show R (if j=n+i then σ n else if j=n then σ (n+i)else σ j)=if j=n then R (σ<|n+i)else if j=n+i then R (σ n)else R (σ j);by_cases h:j=n+i
     ·rw[iq h];by_cases e1:j=n
      ·rw[iq e1];have e3:n+i=n:=W
       rw[e3]
      ·rw[ir e1,iq h]
     ·rw[ir h];by_cases e1:j=n
      ·rw[iq e1,iq e1]
      ·rw[ir e1,ir e1,ir h]
    have hk:=hc.lt n h1;have⟨y1,y2⟩:=T (τ n) hk c;have⟨q,q1,q2,q3,q4⟩:=Kf (fu:=fu) (a:=R (τ n) c) hp (by rw[hm]at y1 y2⊢;lia) y2 F;have e1:(n:J)+(i:J)=((n+i:K):J):=W
    have ho:(Uz N σ).set n (σ<|n+i)=Uz N λs=>if s=n then σ (n+i)else σ s:=Bl;rw[U g1,zB,e1,zb,zb,zY,zf,uD,zo h1,zf,uD h1,zo h1,zf,Bl,Wg,zY,zf,Bl,Wg];rw[show(λs=>if s=n+i then σ n else if s=n then σ (n+i)else σ s)=τ from v.symm];rw[zo h1,zf,uD h1,vW hk,z6,zo u,zf,ke u,U q1];simp only;rw[zo h1,zf,uD h1,U<|zga (fu:=fu) (n:=n) (r:=τ n) (q:=q) Q p2 T hk O h1 q2 q3 hw _ O _ O F];simp only;have⟨S1,Y⟩:∃S1:K->S,S1=λs=>if s=τ n then λk=>(R (τ n) k*q)%p else R s:=⟨_,O⟩;rw[<-Y];have r1:∀s,s<N->∀k,0<=S1 s k/\S1 s k<p:=λs hs k=>by
     rw[Y];show 0<=(if s=τ n then λk=>(R (τ n) k*q)%p else R s) k/\(if s=τ n then λk=>(R (τ n) k*q)%p else R s) k<p;by_cases e:s=τ n
     ·rw[iq e];exact xe (W:0<p)
     ·rw[ir e];exact T s hs k
    have a0:S1 (τ n)=λk=>(R (τ n) k*q)%p:=by rw[Y];exact iq O
    have H:∀j,j<N->j≠n->S1 (τ j)=R (τ j):=λj o G=>by rw[Y];exact ir λe=>G<|hc.ij _ _ o h1 e
    have⟨S2,t1,r2,t2⟩:=GU (fu:=fu) (a:=c) (lo:=0) (n:=n) (t:=n) Q p2 r1 hc h1 (.inr W) W hN hw u F;have⟨S3,t3,r3,t4⟩:=GU (fu:=fu) (a:=c) (lo:=n+1) (n:=N-(n+1)) (t:=n) Q p2 r2 hc h1 (.inl W) W hN hw u F;have P:S2 (τ n)=S1 (τ n):=by rw[t2 n h1,zB]
    have D:S3 (τ n)=S1 (τ n):=by rw[t4 n h1,zB,P]
    have h:(n:J)+1=((n+1:K):J):=W
    rw[Wg,zo h1,zf,uD h1,yR,yV,U t1,zo h1,zf,uD h1,h,zb,yR,yV,U t3,zb,zb];refine ih _ ⟨S3,τ,n+1,c+1,λi=>if i=n then c else pv i,O,r3,hc,?_⟩ (by show w-((c:J)+1).toNat<w-(c:J).toNat;lia);refine hn.step (q:=q) Q h1 u q4 (D.trans a0) λj o G=> ?_;show S3 (τ j)=stk p c (S3<|τ n) (R<|τ j);by_cases hu:j<n
    ·rw[t4 j o,zB,t2 j o,UT ⟨W,W⟩,D,H j o G]
    ·rw[t4 j o,UT ⟨W,W⟩,P,t2 j o,zB,D,H j o G]
  ·rw[zB];exact⟨_,O,R,σ,n,c,pv,O,d,E,.inr W⟩
 ·rw[zB];exact⟨_,O,R,σ,n,c,pv,O,d,E,.inl W⟩
def ph(hp:vF p=wF)(hd:X m=N)(D:N<=64)(o:∀r∈m,X r=w/\Rl r)(t:w<=64)(b:3000000<=fu):
 ∃(A:K->S) (n c:K) (pv:K->K),uU fu m p=Z (Za n w A,0)/\Cq p N w (λi=>C<|m.getD i []) A n c pv/\(n=N\/c=w):=by
 have⟨V,E⟩:=zz hp;unfold uU;rw[U<|aW hp W (λr F=>(o r F).1) t b,iq O];have⟨M,u⟩:∃M:K->S,M=λi=>C (m.getD i []):=⟨_,O⟩;rw[<-u];rw[U (v:=(Za N w<|λi k=>M i k%p,Uz N λi=>i))]
 ·show∃A n c pv,Y (zg (zhf fu p) fu ((Za N w<|λi k=>M i k%p,Uz N λi=>i),0,0)) _=_/\_;obtain⟨y,G,R,σ,n,c,pv,rfl,d,z,H⟩:=zeO (fu:=fu) (M:=M) hp D t b (x:=((Za N w<|λi k=>M i k%p,Uz N λi=>i),0,0)) ⟨_,_,0,0,λ_=>0,O,λs _ k=>xe,⟨λi hi=>hi,λi j _ _ h=>h⟩,zoH W⟩;have hn:=z.hn;refine⟨λi=>R<|σ i,n,c,pv,?_,z,H⟩;rw[U G];simp only;rw[yR,zfJ d.lt,Zi,xB hn,zf,zgb hn]
 ·refine zA (λx:(xS (xS J)×xS K)×J=>∃i:K,i<=N/\x=((Za i w<|λi k=>M i k%p,Uz i λi=>i),(i:J))) (λx=>N-x.2.toNat) _ ?_ _ _ ⟨0,xai _,O⟩ (by show N-0<fu;lia);rintro x L ⟨i,hi,rfl⟩ P;simp only;by_cases h:i<N
  ·have hc:=Yq (l:=m) (i:=i) W [];have⟨e1,Q⟩:=o _ hc;have T:YQ fu (m.getD i []) p=Z (zl w<|λk=>M i k%p):=by rw[Ao W E Q W b,e1,u]
   rw[zT,zY,zf,U T,Wg,yV,zf,Zi,zf,zb];refine P _ ⟨i+1,W,?_⟩ (by show N-((i:J)+1).toNat<N-(i:J).toNat;lia);rw[<-Pq,<-zdv];rfl
  ·rw[zB];obtain rfl:i=N:=W
   rfl
end
section
variable{fu w i N c0:wr}{p:wl}{M A:wr->Pz}
def cH{n c:K}{pv:K->K}(h:Cq p N w M A n c pv)(hi:i<n)(q:w<=64)(k:3000000<=fu):Vg fu (zl w<|A i)=Z (pv i:J):=by
 have hc:=h.lt i hi;have hd:=h.hc;unfold Vg;have m:∀z,(λd=>ZH fu d) z=Z (!decide (z=0)):=λz=>by
  show ZH fu z=_;unfold ZH;by_cases e:z=0
  ·simp_all
  ·simp_all
 have f:=h.on i hi;rcases zcQ (fu:=fu) (l:=zl w<|A i) (b:=λz=> !decide (z=0)) m (by rw[z6];lia) k with⟨g1,a⟩|⟨j,g,g1,a,o⟩
 ·exfalso;have:=a (pv i) (by rw[z6];lia);rw[uZ W,f]at this;simp_all
 ·rw[z6]at g;rw[uZ g]at a;have e:j=pv i:=by
   rcases Nat.lt_trichotomy j (pv i)with h1|h1|h1
   ·rw[h.ld i hi j h1]at a;exact wR a gS
   ·exact h1
   ·have:=o (pv i) h1;rw[uZ W,f]at this;simp_all
  rw[U g1,e]
def pS(n:K)(pv:K->K)(c:K):wW:=(xaH n).all λi=> !E (pv i) c
theorem gP{n c:K}{pv:K->K}:pS n pv c=wF↔∀i,i<n->pv i≠c:=by grind [pS,Nat.beq_refl,xcP]
theorem Ru{n c:K}{pv:K->K}(h:Cq p N w M A n c0 pv)(m:N<=64)(f:w<=64)(d:3000000<=fu):xN fu (Za n w A) (λz=>qN fu z (c:J))=Z (!pS n pv c):=by
 have hn:=h.hn;unfold xN;have g:∀i,i<n->qN fu (zl w<|A i) (c:J)=Z (decide<|pv i=c):=λi hi=>by
  unfold qN;rw[U<|cH h hi f d];by_cases e:pv i=c
  ·simp_all
  ·grind
 have⟨b,j⟩:∃b:xS J->wW,b=λz=>match qN fu z (c:J)with
  |some x=>x
  |none=>I:=⟨_,O⟩
 have hc:∀i,i<n->b (zl w<|A i)=decide (pv i=c):=λi hi=>by rw[j];simp only[g i hi]
 have k:∀z∈Za n w A,(λz=>qN fu z (c:J)) z=Z (b z):=λz l=>by
  obtain⟨i,hi,rfl⟩:=xat.1 l;simp_all
 rcases Nu (fu:=fu) k (by rw[Zi];lia) d with⟨g1,a⟩|⟨i,hi,g1,a,o⟩
 ·rw[U g1,ir gS];have:pS n pv c=wF:=gP.2 λi hi e=>by
   have:=a _ (xbI (xbe.2 hi):zl w (A i)∈Za n w A);grind
  rw[this];rfl
 ·rw[Zi]at hi;rw[vW hi,hc i hi]at a;rw[U g1,zT];have:pS n pv c=I:=by
   cases hd:pS n pv c with
   |false=>rfl
   |true=>exact wR (Wl a)<|gP.1 hd i hi
  rw[this];rfl
def AI(p:J)(A:K->S)(pv:K->K)(c:K):K->S
 |0=>λk=>if k=c then 1 else 0
 |i+1=>Y8 (AI p A pv c i) (pv i) (-A i c%p)
theorem zme{n c:K}{pv:K->K}{t2:xS (xS J)}{i4:J}(h1:2<=p)(b:p<=65521)(h:Cq p N w M A n c0 pv)(g:N<=64)(d:w<=64)(hc:c<w)(e:3000000<=fu):
 zg (Km fu (c:J) (w:J) p (Za n w A) i4) fu (0,t2,zl w<|AI p A pv c 0)=Z (t2,zl w<|AI p A pv c n):=by
 have hn:=h.hn;have j:=h.hc;refine zA (λs:J×xS (xS J)×xS J=>∃i:K,i<=n/\s=((i:J),t2,zl w<|AI p A pv c i)) (λs=>n-s.1.toNat) _ ?_ _ _ ⟨0,xai _,O⟩ (by show n-0<fu;lia);rintro s L ⟨i,hi,rfl⟩ f;unfold Km;simp only;have hd:∀{β:Type} (x:β) (k:β->V (xS (xS J)×xS J)),Y (Z x) k=k x:=λ_ _=>O;by_cases a:i<n
 ·have l:=h.lt i a;have⟨m,o⟩:=h.rg i W c;rw[iq (by rw[Zi];lia),hd];simp only[uL];rw[zo (by rw[Zi];exact a),zf,vW a,U<|cH h a d e,zo (by rw[z6];exact hc),zf,ke hc,zb,U<|Yr W b ⟨W,W⟩,zo (by rw[z6];lia),zf,Zu,zb];refine f _ ⟨i+1,W,?_⟩ (by show n-((i:J)+1).toNat<n-(i:J).toNat;lia);rw[xfX];rfl
 ·rw[ir (by rw[Zi];lia),hd];grind
def oV(n:K)(pv:K->K)(w:K):xS K:=(xaH w).filter<|pS n pv
theorem DN(n:K)(pv:K->K)(w:K):oV n pv (w+1)=if pS n pv w=wF then oV n pv w++[w]else oV n pv w:=by grind [oV,xdl]
def zdo(n:K)(pv:K->K)(w:K):X (oV n pv w)<=w:=by
 have:=xfI (pS n pv)<|xaH w;rw[xep]at this;exact this
def Bu{m:xS (xS J)}(hp:vF p=wF)(l:X m=N)(e:N<=64)(f:∀r∈m,X r=w/\Rl r)(a:w<=64)(b:3000000<=fu):
 ∃(A:K->S) (n c:K) (pv:K->K),W5 fu m (w:J) p=Z ((oV n pv w).map λc=>zl w<|AI p A pv c n,0)/\Cq p N w (λi=>C<|m.getD i []) A n c pv/\(n=N\/c=w):=by
 have⟨o,q⟩:=zz hp;have⟨A,n,c,pv,e1,d,t⟩:=ph (fu:=fu) hp l e f a b;refine⟨A,n,c,pv,?_,d,t⟩;have hn:=d.hn;unfold W5;rw[U (v:=Sum.inl ())]
 ·simp only;rw[U e1];simp only;rw[U (v:=(oV n pv w).map λc=>zl w<|AI p A pv c n)];refine zA (λs:xS (xS J)×J=>∃k:K,k<=w/\s=((oV n pv k).map λc=>zl w<|AI p A pv c n,(k:J))) (λs=>w-s.2.toNat) _ ?_ _ _ ⟨0,xai _,O⟩ (by show w-0<fu;lia);rintro s L ⟨k,z,rfl⟩ g;unfold gF;simp only;have h:∀{β:Type} (x:β) (k:β->V (xS<|xS J)),Y (Z x) k=k x:=λ_ _=>O;by_cases hc:k<w
  ·rw[zT,h];simp only[uL];rw[U<|Ru (c:=k) d e a b]
   cases hd:pS n pv k with
   |false=>
    rw[show(!I)=wF from O,iq O,zb];refine g _ ⟨k+1,W,?_⟩ (by show w-((k:J)+1).toNat<w-(k:J).toNat;lia);rw[DN,ir<|by rw[hd];decide];rfl
   |true=>
    have B:=zdo n pv k;have u:zl w (Y8 (λ_=>0) k 1)=zl w (AI p A pv k 0):=yU λj _=>by unfold Y8;rfl
    rw[show(!wF)=I from O,ir gS,yR,yV,zf,cZ,zo (by rw[z6];exact hc),zf,Zu,u,U<|zme (i4:=(w:J)) o q d e a hc b];simp only;rw[xB (by rw[xbd];simp;lia),zf,zb];refine g _ ⟨k+1,W,?_⟩ (by show w-((k:J)+1).toNat<w-(k:J).toNat;lia);rw[DN,iq hd,xaW];rfl
  ·rw[zB,h];simp only[xak,ut];obtain rfl:k=w:=W
   rfl
 ·rw[U<|aW hp W (λr y=>(f r y).1) a b,iq O,zB,zB];by_cases h0:0<X m
  ·have D:=(f _<|Yq h0 []).1;rw[zT,zj5 h0,zf,zT]
  ·rw[zB]
def pk{p:J}{A:K->S}{pv:K->K}{c k:K}:∀{n:K},(∀i,i<n->pv i≠k)->AI p A pv c n k=if k=c then 1 else 0
 |0,_=>rfl
 |n+1,h=>by
  show Y8 (AI p A pv c n) (pv n) _ k=_;unfold Y8;rw[ir<|λe=>h n W e.symm];exact pk λi hi=>h i W
def AV{p:J}{A:K->S}{pv:K->K}{c i:K}:∀{n:K},i<n->(∀j,j<n->j≠i->pv j≠pv i)->AI p A pv c n (pv i)= -A i c%p
 |0,h,_=>by lia
 |n+1,h,hd=>by
  show Y8 (AI p A pv c n) (pv n) _ (pv i)=_;unfold Y8;by_cases e:i=n
  ·simp_all
  ·rw[ir<|λa=>hd n W (λb=>e b.symm) a.symm];exact AV W λj f d=>hd j W d
def Cq.pv_ne{n c:K}{pv:K->K}(h:Cq p N w M A n c pv){j:K}(hi:i<n)(a:j<n)(b:j≠i):pv j≠pv i:=λe=>by
 have h1:=h.on i hi;have hn:=h.hn;have f:=h.no j a i W λd=>b d.symm;simp_all
def zbt{p:J}(hp:2<=p){A:K->S}{pv:K->K}{c:K}:∀(n k:K),0<=AI p A pv c n k/\AI p A pv c n k<p
 |0,k=>by
  show 0<=(if k=c then 1 else 0)/\(if k=c then 1 else 0)<p;lia
 |n+1,k=>by
  show 0<=Y8 (AI p A pv c n) (pv n) (-A n c%p) k/\Y8 (AI p A pv c n) (pv n) (-A n c%p) k<p;unfold Y8;split
  ·exact xe
  ·exact zbt hp n k
theorem zbV(n:K)(pv:K->K)(F:K->J):∀w,yi (X (oV n pv w)) (λj=>F<|(oV n pv w).getD j 0)=yi w λc=>if pS n pv c=wF then F c else 0
 |0=>rfl
 |w+1=>by
  have a:=zbV n pv F w;show _=yi w _+(if pS n pv w=wF then F w else 0);rw[DN];by_cases h:pS n pv w=wF
  ·rw[iq h,xap,<-a];show yi (X (oV n pv w)) _+F ((oV n pv w++[w]).getD (X (oV n pv w)) 0)=_;congr 1
   ·exact yq λj b=>by grind
   ·simp_all
  ·simp_all
def zf5{n c:K}{pv:K->K}(h:Cq p N w M A n c pv)(hi:i<n)(e:K->J):dt w (A i) e=e (pv i)+yi w λk=>if pS n pv k=wF then A i k*e k else 0:=by
 have l:=h.lt i hi;have m:=h.hc;have hn:=h.hn;have h1:dt w (A i) e=yi w (λk=>(if k=pv i then e k else 0)+if pS n pv k=wF then A i k*e k else 0):=by
  refine yq λk f=> ?_;by_cases e1:k=pv i
  ·have a:=λa=>gP.1 a i hi e1.symm;rw[iq e1,ir a,e1,h.on i hi,xcY,xbZ]
  ·rw[ir e1];by_cases a:pS n pv k=wF
   ·simp_all
   ·rw[ir a,xbZ];have⟨j,d,b⟩:∃j,j<n/\pv j=k:=by
     apply xae;intro hc;exact a<|gP.2 λj d b=>hc ⟨j,d,b⟩
    have hd:i≠j:=λg=>by rw[<-g]at b;exact e1 b.symm
    rw[<-b,h.no j d i W hd,xba]
 rw[h1,YB,wG<|λk f=>ir f,zT,iq O]
def zlB(hp:2<=p){n:K}{pv:K->K}(h:Cq p N w M A n c0 pv)(hd:n=N\/c0=w){c:K}(hc:c<w)(hl:pS n pv c=wF):Kr p N w M (AI p A pv c n):=(h.kr _).1 λi hi=>by
 by_cases a:i<n
 ·rw[zf5 h a,AV a λj f l=>h.pv_ne (i:=i) (j:=j) a f l];have m:yi w (λk=>if pS n pv k=wF then A i k*AI p A pv c n k else 0)=A i c:=by
   rw[yq (g:=λk=>if k=c then A i k else 0) λk b=>by
    by_cases d:pS n pv k=wF
    ·rw[iq d,pk<|gP.1 d];by_cases e:k=c
     ·simp_all
     ·simp_all
    ·rw[ir d];by_cases e:k=c
     ·simp_all
     ·rw[ir e],wG (i:=c)<|λk b=>ir b,iq hc,iq O]
  rw[m];refine xaB ?_;rw[Int.emod_add_emod,(W:-A i c+A i c=0),xas]
 ·obtain he|he:=hd
  ·lia
  ·have:dt w (A i) (AI p A pv c n)=0:=by
    unfold dt;rw[yT λk b=>by rw[h.zr i W hi k W,xba]]
   simp_all
theorem ziu(hp:2<=p){n:K}{pv:K->K}(h:Cq p N w M A n c0 pv){e:K->J}(f:Kr p N w M e){k:K}(l:k<w):
 e k%p=yi (X (oV n pv w)) (λj=>e ((oV n pv w).getD j 0)*AI p A pv ((oV n pv w).getD j 0) n k)%p:=by
 rw[zbV n pv (λc=>e c*AI p A pv c n k) w];by_cases d:pS n pv k=wF
 ·congr 1;rw[yq (g:=λc=>if c=k then e c else 0) λc hc=>by
   rw[pk<|gP.1 d];by_cases e1:c=k
   ·simp_all
   ·rw[ir e1,ir (λh:k=c=>e1 h.symm),xaz,ite_self],wG (i:=k)<|λc hc=>ir hc,iq l,iq O]
 ·obtain⟨i,hi,rfl⟩:∃i,i<n/\pv i=k:=by
   apply xae;intro hd;exact d<|gP.2 λj b m=>hd ⟨j,b,m⟩
  have hn:=h.hn;have h1:=(h.kr e).2 f i W;rw[zf5 h hi]at h1;have o:yi w (λc=>if pS n pv c=wF then e c*AI p A pv c n (pv i)else 0)%p=(-(yi w λk=>if pS n pv k=wF then A i k*e k else 0))%p:=by
   have q: -(yi w λk=>if pS n pv k=wF then A i k*e k else 0)=yi w λk=> -1*(if pS n pv k=wF then A i k*e k else 0):=by rw[uy];lia
   rw[q];refine eT λc hc=> ?_;by_cases a:pS n pv c=wF
   ·rw[iq a,iq a,AV hi λj b hl=>h.pv_ne (i:=i) (j:=j) hi b hl,xck,xaT,<-xck];grind
   ·rw[ir a,ir a,xaz]
  rw[o];refine xaI.2<|xaw ?_;rw[Int.sub_neg];exact h1
end
section
variable{N w r fu P:wr}{R:wr->Pz}{m:xS wl}
def ME(h:r<N):(([]:xS J)::Za N w R).getD (r+1) []=zl w (R r):=vW h
theorem zhl{g:S}:(([]:xS J)::Za N w R).set (r+1) (zl w g)=[]::Za N w λs=>if s=r then g else R s:=by grind [IY]
theorem zlG{c:K}{h:xS J}(f:w<=64)(hc:c<w)(hl:X h<=w)(b:J)(d:b=(c:J))(g:3000000<=fu):
 zg (λL (y:(xS (xS J)×xS K)×J)=>
 if y.2<(X h:J)then
  zD y.2 (X h) λj=>
  B (h.getD j 0) λv=>
  zD y.2 (X y.1.2) λj=>
  B (y.1.2.getD j 0) λr=>
  zD b (X (y.1.1.getD r [])) λj=>
  B (y.1.1.set r<|(y.1.1.getD r []).set j v) λa=>
  Q (y.2+1) λi=>L ((a,y.1.2),i)
 else Z y.1) fu (([]::Za w w R,Uz w λi=>i+1),0)=Z ([]::Za w w λs=>if s<X h then Y8 (R s) c (C h s)else R s,Uz w λi=>i+1):=by
 subst d;refine zA (λy:(xS (xS J)×xS K)×J=>∃i:K,i<=X h/\y=(([]::Za w w λs=>if s<i then Y8 (R s) c (C h s)else R s,Uz w λi=>i+1),(i:J))) (λy=>X h-y.2.toNat) _ ?_ _ _ ⟨0,xai _,by rw[Zh (R:=R) (S:=λs=>if s<0 then Y8 (R s) c (C h s)else R s) λs _ k _=>by rw[zB]];rfl⟩ (by show X h-0<fu;lia);rintro y L ⟨i,hi,rfl⟩ e;simp only;by_cases h1:i<X h
 ·rw[zT,zo h1,zf,Vp,Wg,zY,zf,uD,ME W,z6,zo hc,zf,Zu,zhl,zB,zb];refine e _ ⟨i+1,W,?_⟩ (by show X h-((i:J)+1).toNat<X h-(i:J).toNat;lia);grind
 ·grind
def Jc(a:K->xS J)(c:K):K->S:=λi k=>if k<c then C (a k) i-(if i=k then 1 else 0)else 0
def BS{a b:xS J}{p:J}(hp:vF p=wF)(e:Fp p a)(c:vd p b)(hc:X a<=90000)(hd:X b<=90000)(f:3000000<=fu):
 ∃q r,jN fu a b p=Z (q,r,0)/\Fp p r/\Cg p (C a) (C q*C b+C r)/\X r<X b:=by
 have⟨j,d⟩:=zz hp;have⟨q,r,e1,k,g,h,i,l⟩:=xA hp e c.fm c.ln hc hd f;refine⟨q,r,?_,g,h,i⟩;unfold jN;rw[U<|ui hp,iq O,U<|zN W d (c.fm.rl d) W f,c.fm.pm,zB,U<|zN W d (e.rl d) W f,e.pm,U e1]
def zd7(fu:K)(f:xS J)(p n:J):(((xS (xS J)×xS K)×xS J×xS J×J)->V (xS (xS J)×xS K))->((xS (xS J)×xS K)×xS J×xS J×J)->V (xS (xS J)×xS K):=λL (x:(xS (xS J)×xS K)×xS J×xS J×J)=>if x.2.2.2<n then Y (zg (λL (y:(xS (xS J)×xS K)×J)=>if y.2<(X x.2.1:J)then zD y.2 (X x.2.1) λj=>B (x.2.1.getD j 0) λv=>zD y.2 (X y.1.2) λj=>B (y.1.2.getD j 0) λr=>zD x.2.2.2 (X (y.1.1.getD r [])) λj=>B (y.1.1.set r<|(y.1.1.getD r []).set j v) λa=>Q (y.2+1) λi=>L ((a,y.1.2),i)else Z y.1) fu (x.1,0)) λy=>zD x.2.2.2 (X y.2) λj=>B (y.2.getD j 0) λr=>zD x.2.2.2 (X (y.1.getD r [])) λj=>B ((y.1.getD r []).getD j 0) λv=>Q (v-1) λe=>zD x.2.2.2 (X (y.1.getD r [])) λj=>B (y.1.set r<|(y.1.getD r []).set j e) λa=>Y (jH fu x.2.1 x.2.2.1 p) λu=>Y (jN fu u.1 f p) λw=>Q (x.2.2.2+1) λi=>L ((a,y.2),w.2.1,x.2.2.1,i)else Z x.1
def zlJ:((Uz N λi=>i+1).map λr=>(([]:xS J)::Za N w R).getD r [])=Za N w R:=by
 show((xaH N).map λi=>i+1).map _=(xaH N).map _;rw[xdb];exact xci λi hi=>ME<|xbe.1 hi
def FxI(P:K)(m x:xS J)(w:K)(y:(xS (xS J)×xS K)×xS J×xS J×J):Prop:=
 ∃(a:K->xS J) (c:K),y=(([]::Za w w (Jc a c),Uz w λi=>i+1),a c,x,(c:J))/\c<=w/\∀k,k<=c->Fp (P:J) (a k)/\X (a k)<=w/\Em (P:J) m (pp (pp vx P) k) (C<|a k)
def zeV{x:xS J}(hp:vF (P:J)=wF)(o:vd (P:J) m)(hi:X m=w+1)(B:1<=w)(q:w<=64)(t:Fp (P:J) x)(hl:X x<=w)(hd:Em (P:J) m (pp vx P) (C x))(h:3000000<=fu){y:(xS (xS J)×xS K)×xS J×xS J×J}(j:FxI P m x w y):
 ∃r,zg (zd7 fu m P (w:J)) fu y=Z r/\∃a:K->xS J,r=([]::Za w w (Jc a w),Uz w λi=>i+1)/\∀k,k<=w->Fp (P:J) (a k)/\X (a k)<=w/\Em (P:J) m (pp (pp vx P) k) (C<|a k):=by
 have⟨D,E⟩:=zz hp;refine ya (FxI P m x w) (λy=>w-y.2.2.2.toNat) _ ?_ _ _ j (by obtain⟨a,c,rfl,_⟩:=j;show w-(c:J).toNat<fu;lia);rintro y L ⟨a,c,rfl,hc,d⟩ u;unfold zd7;simp only;by_cases h1:c<w
 ·have⟨k1,k2,v⟩:=d c<|Nm _;have F:=k1.nn c;have hn:=k1.lt c;have⟨R,f⟩:∃R:K->Pz,R=λs=>if s<X (a c) then Y8 (Jc a c s) c (C (a c) s)else Jc a c s:=⟨_,O⟩;have l:∀s,R s c=C (a c) s:=λs=>by
   rw[f];show(if s<X (a c) then Y8 (Jc a c s) c (C (a c) s)else Jc a c s) c=_;by_cases e:s<X (a c)
   ·rw[iq e];exact iq O
   ·rw[ir e,yh W];exact zB
  have z:∀s k,k≠c->R s k=Jc a c s k:=λs k g=>by
   rw[f];show(if s<X (a c) then Y8 (Jc a c s) c (C (a c) s)else Jc a c s) k=_;by_cases e:s<X (a c)
   ·rw[iq e];exact ir g
   ·rw[ir e]
  have G:=jc (P:J) (a c) x;have⟨q2,r2,d1,d2,d3,d4⟩:=BS (fu:=fu) hp (qH (p:=(P:J)) W (a c) x) o W W h;rw[zT,U<|zlG (fu:=fu) (R:=Jc a c) q h1 k2 _ O h,<-f];simp only;rw[Wg,zo h1,zf,uD h1,ME h1,z6,zo h1,zf,ke h1,l,zb,zo h1,zf,Zu,zhl,U<|uk hp k1 t,U d1];simp only;rw[zb];refine u _ ⟨λk=>if k=c+1 then r2 else a k,c+1,?_,W,λk g=> ?_⟩ (by show w-((c:J)+1).toNat<w-(c:J).toNat;lia)
  ·show _=((_,_),(if c+1=c+1 then r2 else a (c+1)),x,_);rw[iq O,Zh (S:=Jc (λk=>if k=c+1 then r2 else a k)<|c+1) λs H k g=>by
    show(if s=c then Y8 (R c) c (C (a c) c-1)else R s) k=if k<c+1 then C (if k=c+1 then r2 else a k) s-(if s=k then 1 else 0)else 0;by_cases e1:k=c
    ·rw[e1,show(if c<c+1 then C (if c=c+1 then r2 else a c) s-(if s=c then(1:J)else 0)else 0)=C (a c) s-(if s=c then(1:J)else 0)by rw[zT,zB]];by_cases b:s=c
     ·rw[iq b,iq b,b];exact iq O
     ·rw[ir b,ir b,l,xdc]
    ·have A:(if s=c then Y8 (R c) c (C (a c) c-1)else R s) k=R s k:=by
      by_cases b:s=c
      ·rw[iq b,b];exact ir e1
      ·rw[ir b]
     rw[A,z s k e1];unfold Jc;by_cases n:k<c
     ·rw[iq n,show(if k<c+1 then C (if k=c+1 then r2 else a k) s-(if s=k then(1:J)else 0)else 0)=C (a k) s-(if s=k then(1:J)else 0)by rw[zT,zB]]
     ·rw[ir n,ir (W:¬k<c+1)]]
   rfl
  ·show Fp (P:J) (if k=c+1 then r2 else a k)/\X (if k=c+1 then r2 else a k)<=w/\Em (P:J) m (pp (pp vx P) k) (C (if k=c+1 then r2 else a k));by_cases e:k=c+1
   ·rw[iq e,e];refine⟨d2,W,?_⟩;show Em (P:J) m (pp (pp vx P) c*pp vx P) (C r2);exact(Em.mul ((Fs.vx.pp P).pp c) (Fs.ci x) v hd).trans<|(Em.cg (Ze (P:J) (a c) x).symm).trans<|Em.rest d3
   ·rw[ir e];exact d k W
 ·rw[zB];obtain rfl:c=w:=W
  exact⟨_,O,a,O,d⟩
def nW(hp:vF (P:J)=wF)(d:vd (P:J) m)(j:X m=w+1)(hc:1<=w)(l:w<=64)(c:3000000<=fu):
 ∃b:K->xS J,Y4 fu m P=Y (W5 fu (Za w w<|Jc b w) (w:J) P) (λr=>Z r.1)/\∀k,k<=w->Fp (P:J) (b k)/\X (b k)<=w/\Em (P:J) m (pp (pp vx P) k) (C<|b k):=by
 have⟨z,A⟩:=zz hp;have cx:C [0,1]=vx:=by
  funext k
  match k with
  |0=>rfl
  |1=>rfl
  |k+2=>rw[yh gT];exact(show(if k+2=1 then(1:J)else 0)=0 from zB).symm
 have fx:Fp (P:J) [0,1]:=⟨λk=>by rw[cx];show 0<=(if k=1 then(1:J)else 0);split<;>lia,λk=>by rw[cx];show(if k=1 then(1:J)else 0)<P;split<;>lia,.inr gS⟩;have n:Fp (P:J) [1]:=VN;have⟨x,o,p,B,f⟩:=J7 (fu:=fu) (w:=[0,1]) (a:=m) (E:=P) hp fx d gS W W W c;rw[cx]at f;have hd:Za w w (Jc (λ_=>[1]) 0)=Za w w (λ_ _=>0):=Zh λs _ k _=>zB;obtain⟨r,g,b,rfl,q⟩:=zeV (fu:=fu) hp d j hc l p W f c (y:=(([]::Za w w (Jc (λ_=>[1]) 0),Uz w λi=>i+1),[1],x,0)) ⟨λ_=>[1],0,O,xai _,λk D=>⟨n,by simp;lia,by
  obtain rfl:k=0:=W
  show Em (P:J) m (F 1) (C [1]);rw[qV];exact Em.rfl⟩⟩
 rw[hd]at g;refine⟨b,?_,q⟩;unfold Y4;rw[zb,(W:(X m:J)-1=(w:J)),yR,yV,zf,U (v:=([]::Za w w (λ_ _=>0),Uz w λi=>i+1))]
 ·rw[U<|ym ⟨W,W⟩ c,U o];show Y (zg (zd7 fu m P (w:J)) fu (([]::Za w w (λ_ _=>0),Uz w λi=>i+1),[1],x,0)) _=_;rw[U g];simp only;rw[zlJ]
 ·have t:xac w 0=Uz w λs=>if s<0 then s+1 else 0:=by
   unfold Uz;rw[show(λs=>if s<0 then s+1 else 0)=λ_=>0 from qR λs=>zB,List.map_const',xep]
  rw[t];refine zA (λx:(xS (xS J)×xS K)×J=>∃i:K,i<=w/\x=(([]::Za i w (λ_ _=>0),Uz w λs=>if s<i then s+1 else 0),(i:J))) (λx=>w-x.2.toNat) _ ?_ _ _ ⟨0,xai _,O⟩ (by show w-0<fu;lia);rintro x L ⟨i,hi,rfl⟩ u;simp only;rw[Wg];by_cases h1:i<w
  ·rw[zT,yR,yV,zf,cZ,Wg,zo h1,zf,xbF,Pq i w<|λ_ _=>0,zf,Bl,xau,Zi,zb];refine u _ ⟨i+1,W,?_⟩ (by show w-((i:J)+1).toNat<w-(i:J).toNat;lia);have:(λs=>if s=i then i+1 else if s<i then s+1 else 0)=λs=>if s<i+1 then s+1 else 0:=qR λs=>by
    by_cases e:s=i
    ·rw[iq e,zT,e]
    ·rw[ir e];by_cases h:s<i
     ·rw[iq h,zT]
     ·rw[ir h,zB]
   rw[this];rfl
  ·rw[zB];obtain rfl:i=w:=W
   congr 2;unfold Uz;exact xci λs b=>iq<|xbe.1 b
end
section
variable{m:xS wl}{P w:wr}
def Di.short{p:J}(hp:2<=p)(a:vd p m){f:S}(b:∀k,X m-1<=k->f k=0)(h:Di p (C m) f):Cg p f (F 0):=by
 have⟨q,fq,hc⟩:=h;have:=a.mn.zero hp fq λk c=>by rw[<-hc k,b k c,xas]
 exact hc.trans<|this.mul_zero_r _
def Ma(F:K->S)(k:K):∀n,smP n F k=yi n λi=>F i k
 |0=>by show pc 0 k=0;unfold pc;split<;>rfl
 |n+1=>by
  show(smP n F+F n) k=yi n (λi=>F i k)+F n k;rw[zK,Ma F k n]
def Em.smP{p:J}{a:N J}{F G:K->S}:∀n,(∀i,i<n->Em p a (F i) (G i))->Em p a (smP n F) (smP n G)
 |0,_=>Em.rfl
 |n+1,h=>(Di.add (Em.smP n λi hi=>h i W)<|h n W).cg (Cg.of (qR λk=>by
  show(Go.Proofs.YtoegnnjcmlghhaaGreat.smP n F k-Go.Proofs.YtoegnnjcmlghhaaGreat.smP n G k)+(F n k-G n k)=(Go.Proofs.YtoegnnjcmlghhaaGreat.smP n F k+F n k)-(Go.Proofs.YtoegnnjcmlghhaaGreat.smP n G k+G n k);lia))
theorem zam{a:K->N J}(hp:vF (P:J)=wF)(o:vd (P:J) m)(hc:X m=w+1)(d:∀k,k<=w->Fp (P:J) (a k)/\X (a k)<=w/\Em (P:J) m (pp (pp vx P) k) (C<|a k)){e:Pz}(f:∀k,w<=k->e k=0):
 Di (P:J) (C m) (pp e P-e)↔∀s,s<w->(P:J)∣dt w (Jc a w s) e:=by
 have⟨q,r⟩:=zz hp;have hn:=XW hp;rw[xbc]at hn;let S:Pz:=smP w λi=>F (e i)*C (a i)
 have h1:Em (P:J) m (pp e P) S:=(Em.cg<|znu W hn f).trans<|Em.smP w λi hi=>Em.mul (Fs.pc _) (Fs.ci _) Em.rfl (d i W).2.2;have j:∀k,w<=k->(S-e) k=0:=λk b=>by
  show S k-e k=0;rw[f k b,show S k=yi w λi=>(F (e i)*C (a i)) k from Ma _ k w,yT λi hi=>by rw[zP,yh (by have:=(d i W).2.1;lia),xaz]];rfl
 have l:∀s,s<w->dt w (Jc a w s) e=(S-e) s:=λs c=>by
  show yi w (λk=>(if k<w then C (a k) s-(if s=k then 1 else 0)else 0)*e k)=S s-e s;rw[show S s=yi w λi=>(F (e i)*C (a i)) s from Ma _ s w,yq (g:=λk=>(F (e k)*C (a k)) s+(if k=s then-e k else 0)) λk b=>by
   rw[iq b,zP];by_cases h:k=s
   ·grind
   ·rw[ir<|λg=>h g.symm,ir h,xdc,xbZ,xbw],YB,wG (i:=s)<|λk b=>ir b,iq c,iq O]
  lia
 have p:Di (P:J) (C m) (pp e P-e)↔Di (P:J) (C m) (S-e):=⟨λh=>(h1.symm.trans (show Em _ _ _ e from h):Em _ _ _ e),λh=>(h1.trans (show Em _ _ _ e from h):Em _ _ _ e)⟩;rw[p];constructor
 ·intro h s c;have:=Di.short W o (λk b=>j k W) h;rw[l s c];have n:=this s;rw[zJ,xas]at n;exact xaB n
 ·intro h;refine(Di.zero _ _).cg λs=> ?_;rw[zJ,xas];symm;by_cases c:s<w
  ·rw[<-l s c];exact xaw<|h s c
  ·rw[j s W,xas]
def zim(hp:vF (P:J)=wF):P=2\/P%2=1:=by
 have⟨a,b⟩:=zz hp;have hn:=XW hp;by_cases h:P=2
 ·lia
 ·have:=hn 2 W;by_cases c:4<=P
  ·lia
  ·lia
def Ax{fu:K}(hp:vF (P:J)=wF)(x:vd (P:J) m)(hn:X m=w+1)(V:1<=w)(z:w<=64)(D:3000000<=fu):
 ∃bs,Y4 fu m P=Z bs/\1<=X bs/\X bs<=w/\(∀v∈bs,Rl v/\X v=w)/\Bs P m (λi=>C<|bs.getD i []) (X bs)/\∃c:J,Cg (P:J) (C<|bs.getD 0 []) (pc c):=by
 have⟨p1,p2⟩:=zz hp;have⟨b,h1,t⟩:=nW (fu:=fu) hp x hn V z D;have Y:∀s k,Jx (Jc b w s k):=λs k=>by
  show Jx (if k<w then C (b k) s-(if s=k then 1 else 0)else 0);by_cases h:k<w
  ·rw[iq h];have f:=(t k W).1;have f1:=f.nn s;have f2:=f.lt s;split
   ·exact⟨W,W⟩
   ·exact⟨W,W⟩
  ·rw[ir h];exact⟨W,W⟩
 have⟨A,n,c,pv,e1,o,e3⟩:=Bu (fu:=fu) (N:=w) (w:=w) (m:=Za w w<|Jc b w) hp (Zi _ _ _) z (λr E=>by
  unfold Za at E;obtain⟨s,_,rfl⟩:=xat.1 E;refine⟨z6 _ _,λk=> ?_⟩;by_cases a:k<w
  ·rw[uZ a];exact Y s k
  ·rw[yh<|by rw[z6];lia];exact⟨W,W⟩) z D
 have B:∀e:S,Kr (P:J) w w (λi=>C<|(Za w w<|Jc b w).getD i []) e↔∀s,s<w->(P:J)∣dt w (Jc b w s) e:=λe=>forall_congr' λs=>imp_congr_right λhc=>by rw[show dt w (C<|(Za w w<|Jc b w).getD s []) e=dt w (Jc b w s) e from yq λk a=>by rw[vW hc,uZ a]]
 let F:K->xS J:=λc=>zl w<|AI (P:J) A pv c n
 have G:∀i,i<X (oV n pv w)->(oV n pv w).getD i 0<w/\pS n pv ((oV n pv w).getD i 0)=wF:=λi hi=>by
  rw[H1,xah hi,xeS];have:=xbE hi;have d:=xcj.1 this;exact⟨xbe.1 d.1,d.2⟩
 have q:∀i,i<X (oV n pv w)->((oV n pv w).map F).getD i []=F ((oV n pv w).getD i 0):=λi hi=>by rw[H1,H1,xcg,xah hi];rfl
 have H:∀i,i<w->(P:J)∣A i 0:=by
  have h0:Kr (P:J) w w A λk=>if k=0 then 1 else 0:=(o.kr _).2 ((B _).2 λs hc=>by
   show(P:J)∣yi w λk=>Jc b w s k*(if k=0 then 1 else 0);rw[wG (i:=0) (λk a=>by rw[ir a,xaz]),zT,iq O,xcZ];show(P:J)∣(if 0<w then C (b 0) s-(if s=0 then 1 else 0)else 0);rw[zT];have g:=(t 0<|xai _).2.2;have g1:Cg (P:J) (pc 1-C (b 0)) (pc 0):=Di.short W x (λk a=>by
    rw[yx,yh (by have:=(t 0<|xai _).2.1;lia)];show pc 1 k-0=0;unfold pc;rw[zB];rfl) g
   have L:=g1 s;rw[yx,zJ,xas]at L;have M:=xaB L;have g4:(pc 1 s:J)=if s=0 then 1 else 0:=O;rw[g4]at M;have:=Int.dvd_neg.2 M;rw[Int.neg_sub]at this;exact this)
  intro i hi;have:(P:J)∣yi w λk=>A i k*(if k=0 then 1 else 0):=h0 i hi;rw[wG (i:=0) (λk a=>by rw[ir a,xaz]),zT,iq O,xcZ]at this;exact this
 have Q:pS n pv 0=wF:=gP.2 λi hi h=>by
  have d:=o.on i hi;rw[h]at d;have R:=H i (by have:=o.hn;lia);rw[d]at R;have:=Int.le_of_dvd W R;lia
 have hy:∃l,oV n pv w=0::l:=by
  obtain⟨u,rfl⟩:∃u,w=u+1:=⟨w-1,W⟩;unfold oV;rw[List.range_succ_eq_map,xfK,iq Q];exact⟨_,O⟩
 have⟨l,hl⟩:=hy;refine⟨(oV n pv w).map F,by rw[h1,U e1],by rw[hl];simp,by rw[xbd];exact zdo n pv w,λv hv=> ?_,⟨zim hp,W,λe he hd=> ?_,λi hi k a=> ?_,λi hi=> ?_⟩,1,?_⟩
 ·obtain⟨c,_,rfl⟩:=xat.1 hv;refine⟨λk=> ?_,z6 _ _⟩;by_cases a:k<w
  ·show Jx (C (zl w _) k);rw[uZ a];have:=zbt (p:=(P:J)) W (A:=A) (pv:=pv) (c:=c) n k;exact⟨W,W⟩
  ·rw[yh (by show(zl w _).length<=k;rw[z6];lia)];exact⟨W,W⟩
 ·have T:∀k,w<=k->e k=0:=λk a=>he k W;refine⟨λi=>e<|(oV n pv w).getD i 0,λk=> ?_⟩;rw[Ma,xbd];by_cases a:k<w
  ·rw[ziu W o ((B e).2<|(zam hp x hn t T).1 hd) a];congr 1;refine yq λi hi=> ?_;rw[zP,q i hi];show _=_*C (zl w _) k;rw[uZ a]
  ·rw[T k W,yT λi hi=>by
    rw[zP,q i hi];show _*C (zl w _) k=0;rw[yh (by rw[z6];lia),xaz]]
 ·rw[xbd]at hi;rw[q i hi];exact yh (by show(zl w _).length<=k;rw[z6];lia)
 ·rw[xbd]at hi;have hz:∀k,w<=k->C (((oV n pv w).map F).getD i []) k=0:=λk a=>by
   rw[q i hi];exact yh (by show(zl w _).length<=k;rw[z6];lia)
  refine(zam hp x hn t hz).2<|(B _).1 ?_;have:=zlB W o e3 (G i hi).1 (G i hi).2;intro s hc;have d:=this s hc;rw[show dt w _ (C<|((oV n pv w).map F).getD i [])=dt w _ (AI (P:J) A pv ((oV n pv w).getD i 0) n)from yq λk a=>by
   rw[q i hi];show _*C (zl w _) k=_;rw[uZ a]]
  exact d
 ·intro k;rw[q 0 (by rw[hl];simp),hl];show C (zl w<|AI (P:J) A pv 0 n) k%P=(if k=0 then(1:J)else 0)%P;by_cases a:k<w
  ·rw[uZ a];by_cases y:pS n pv k=wF
   ·rw[pk<|gP.1 y]
   ·have:∃i,i<n/\pv i=k:=xae λh=>y<|gP.2 λi hi d=>h ⟨i,hi,d⟩;obtain⟨i,hi,rfl⟩:=this;rw[AV hi λj hj hA=>o.pv_ne (i:=i) (j:=j) hi hj hA];have h0:pv i≠0:=λh=>by rw[h]at y;exact y Q
    rw[ir h0,xas];have h5:=H i (by have:=o.hn;lia);exact xaw<|xaB<|by rw[xcL _<|xed _];exact xaw<|Int.dvd_neg.2 h5
  ·rw[yh (by rw[z6];lia),zB]
end
section
section
variable{α:Type}
def iB1(d:α)(cmp:α->α->V J):((J×J×J×N α)->V (J×J×N α))->(J×J×J×N α)->V (J×J×N α):=λL (i2,a,i4,t2)=>
 if i2<i4 then
 zD i4 (X t2) λb=>
 B ((t2.getD b d)) λt3=>
 Q (i4-(1:J)) λc=>
 zD c (X t2) λe=>
 B ((t2.getD e d)) λt4=>
 Y (cmp t3 t4) λf=>
 if f<(0:J)then
 Q (i4-(1:J)) λg=>
 Q (i4-(1:J)) λh=>
 zD h (X t2) λi=>
 B ((t2.getD i d)) λt5=>
 zD i4 (X t2) λj=>
 B ((t2.getD j d)) λt6=>
 zD i4 (X t2) λk=>
 B (t2.set k t5) λt7=>
 zD g (X t7) λl=>
 B (t7.set l t6) λt8=>
 Q (i4-(1:J)) λm=>
 L (i2,a,m,t8)
 else
 Z (i2,a,t2)
 else
 Z (i2,a,t2)
def iB0(fu:K)(d:α)(b a:J)(cmp:α->α->V J):((J×N α)->V (N α))->(J×N α)->V (N α):=λL (i1,t1)=>
 if i1<a then
 Y (zg (iB1 d cmp) fu (b,a,i1,t1)) λ(e,f,t9)=>
 Q (i1+(1:J)) λc=>
 L (c,t9)
 else
 Z t1
structure Od3(c:α->α->J)(S:α->Prop):Prop where
 tr:∀x y z,S x->S y->S z->¬c y x<0->¬c z y<0->¬c z x<0
 an:∀x y,S x->S y->c x y<0->¬c y x<0
def zai(d x:α):∀(a b:N α),(a++x::b).getD (X a) d=x
 |[],_=>rfl
 |_::a,b=>zai d x a b
def HL(d y x:α):∀(a b:N α),(a++y::x::b).getD (X a+1) d=x
 |[],_=>rfl
 |_::a,b=>HL d y x a b
def zgQ(x z:α):∀(a b:N α),(a++x::b).set (X a) z=a++z::b
 |[],_=>rfl
 |h::a,b=>kW (h:: ·)<|zgQ x z a b
def zaP(y x z:α):∀(a b:N α),(a++y::x::b).set (X a+1) z=a++y::z::b
 |[],_=>rfl
 |h::a,b=>kW (h:: ·)<|zaP y x z a b
def zbW{l:N α}(h:0<X l):∃a y,l=a++[y]:=⟨l.dropLast,l.getLast (λe=>by rw[e]at h;exact wR h<|Nat.lt_irrefl _),(List.dropLast_concat_getLast _).symm⟩
def zoO{fu:K}{d:α}{cmp:α->α->V J}{c:α->α->J}{S:α->Prop}(hc:∀x y,S x->S y->cmp x y=Z (c x y)){s rest:xS α}{x:α}(j:∀y∈s,S y)(k:S x)(hn:X (s++x::rest)<=1000)(o:3000000<=fu){N:J}:
 ∃r,zg (iB1 d cmp) fu (0,N,(X s:J),s++x::rest)=Z r/\∃r1 r2,s=r1++r2/\r=(0,N,r1++x::(r2++rest))/\(∀y∈r2,c x y<0)/\∀a y,r1=a++[y]->¬c x y<0:=by
 rw[xap,xau]at hn;refine ya (λt:J×J×J×xS α=>∃r1 r2,s=r1++r2/\t=(0,N,(X r1:J),r1++x::(r2++rest))/\∀y∈r2,c x y<0) (λt=>t.2.2.1.toNat) _ ?_ fu _ ⟨s,[],(xbP s).symm,O,λy g=>by simp at g⟩ (by show(X s:J).toNat<fu;lia);rintro t L ⟨r1,r2,e,rfl,i⟩ l;unfold iB1;simp only;have hl:X s=X r1+X r2:=by rw[e,xap]
 by_cases h:0<X r1
 ·obtain⟨a,y,rfl⟩:=zbW h;have m:X (a++[y])=X a+1:=gT
  have h1:a++[y]++x::(r2++rest)=a++y::x::(r2++rest):=gT
  have n:X (a++y::x::(r2++rest))=X a+2+X r2+X rest:=by simp;lia
  have g:S y:=j y (by rw[e];simp);rw[h1,m,zT,n,zY,zf,HL,zb,(W:((X a+1:K):J)-1=(X a:J)),zY,zf,zai,U<|hc x y k g];by_cases f:c x y<0
  ·rw[iq f,zb,zb,zY,zf,zai,zY,zf,HL,zY,zf,zaP,xap,zo gT,zf,zgQ,zb];refine l _ ⟨a,y::r2,by rw[e];simp,O,λz hz=> ?_⟩ (by show(X a:J).toNat<(X (a++[y]):J).toNat;lia);obtain rfl|hz:=xaa.1 hz
   ·exact f
   ·exact i z hz
  ·rw[ir f];refine⟨_,O,a++[y],r2,e,by rw[h1],i,λb z hz=> ?_⟩;have:=List.append_inj' hz O;rw[List.singleton_inj.1 this.2]at f;exact f
 ·rw[zB];obtain rfl:r1=[]:=xbs.1 W;exact⟨_,O,[],r2,e,O,i,λb z hz=>by
   have:=kW xaF hz;simp at this⟩
def zht{fu:K}{d:α}{cmp:α->α->V J}{c:α->α->J}{S:α->Prop}(hc:∀x y,S x->S y->cmp x y=Z (c x y)){t:xS α}(p:∀y∈t,S y)(hn:X t<=1000:=by lia)(q:3000000<=fu:=by lia):
 ∃r,zg (iB0 fu d 0 (X t:J) cmp) fu (1,t)=Z r/\r.Perm t/\(Od3 c S->r.Pairwise λa b=>¬c b a<0):=by
 cases t with
 |nil=>
  refine ya (λx:J×xS α=>x=(1,[])) (λ_=>0) _ ?_ fu _ O W;rintro x L rfl k;exact⟨[],O,xdy _,λ_=>xft⟩
 |cons z t=>
  refine ya (λx:J×xS α=>∃s rest,x=((X s:J),s++rest)/\(s++rest).Perm (z::t)/\(Od3 c S->s.Pairwise λa b=>¬c b a<0)) (λx=>X (z::t)-x.1.toNat) _ ?_ fu _ ⟨[z],t,O,xdy _,λ_=>xfl _ _⟩ (by show(z::t).length-1<fu;lia);rintro x L ⟨s,rest,rfl,f,l⟩ k;unfold iB0;simp only;have hl:=f.length_eq;rw[xap]at hl;have m:∀y∈s++rest,S y:=λy e=>p y<|f.mem_iff.1 e
  cases rest with
  |nil=>
   rw[ir<|by simp at hl;simp;lia];rw[xbP]at f;exact⟨s,by rw[xbP],f,l⟩
  |cons x rest=>
   rw[xau]at hl;rw[zT];have g:∀y∈s,S y:=λy e=>m y<|xcM _ e;have i:S x:=m x gT;obtain⟨r,e1,r1,r2,rfl,rfl,u,v⟩:=zoO (fu:=fu) (d:=d) (N:=(X (z::t):J)) (rest:=rest) hc g i (by rw[xap,xau];lia) q;rw[U e1];simp only;rw[zb];have A:(r1++x::(r2++rest)).Perm (r1++r2++x::rest):=by
    rw[xaf];refine xbL r1 ?_;rw[<-xbF];have:(x::r2++rest).Perm (r2++x::rest):=xcn.symm;exact this
   refine k _ ⟨r1++x::r2,rest,?_,?_,λj=> ?_⟩ ?_
   ·rw[show((X (r1++x::r2):K):J)=(X (r1++r2):J)+1 by simp;lia,xaf,xbF]
   ·rw[xaf,xbF];exact A.trans f
   ·have hp:=xdp.1<|l j;have hd:∀y∈r1,¬c x y<0:=λy e=>by
     obtain⟨a,w,rfl⟩:=zbW<|xfr e;have n:=v a w O;obtain h|h:=So.1 e
     ·have B:=xdp.1 hp.1;exact j.tr y w x (g y<|by simp[h]) (g w gT) i (B.2.2 y h w gT) n
     ·rw[xad.1 h];exact n
    refine xdp.2 ⟨hp.1,xbQ.2 ⟨λy e=>j.an x y i (g y<|by simp[e])<|u y e,hp.2.1⟩,λa o b hb=> ?_⟩;obtain rfl|hb:=xaa.1 hb
    ·exact hd a o
    ·exact hp.2.2 a o b hb
   ·show(z::t).length-((X (r1++r2):J)+1).toNat<X (z::t)-(X (r1++r2):J).toNat;lia
end
def EK{fu:K}{cmp:N J->N J->V J}{c:N J->N J->J}{S:N J->Prop}(hc:∀x y,S x->S y->cmp x y=Z (c x y)){t:N (N J)}(d:∀y∈t,S y)(hn:X t<=12)(h:3000001<=fu):
 ∃r,xZ fu t cmp=Z r/\r.Perm t/\(Od3 c S->r.Pairwise λa b=>¬c b a<0):=by
 obtain⟨g,rfl⟩:∃g,fu=g+2:=⟨fu-2,W⟩;obtain⟨r,h1,e,f⟩:=zht (fu:=g+1) hc d;refine⟨r,?_,e,f⟩;unfold xZ kt;rw[zf,U<|U<|qJ<|by unfold DE;lia];refine U<|U ?_;rw[kf];unfold qw;simp only;rw[zb,zT];refine U ?_;exact U h1
def LY{fu:K}{cmp:N M->N M->V J}{c:N M->N M->J}{S:N M->Prop}(hc:∀x y,S x->S y->cmp x y=Z (c x y)){t:N (N M)}(d:∀y∈t,S y)(hn:X t<=12)(h:3000001<=fu):
 ∃r,yC fu t cmp=Z r/\r.Perm t/\(Od3 c S->r.Pairwise λa b=>¬c b a<0):=by
 obtain⟨g,rfl⟩:∃g,fu=g+2:=⟨fu-2,W⟩;obtain⟨r,h1,e,f⟩:=zht (fu:=g+1) hc d;refine⟨r,?_,e,f⟩;unfold yC kt;rw[zf,U<|U<|qJ<|by unfold DE;lia];refine U<|U ?_;rw[kf];unfold vA;simp only;rw[zb,zT];refine U ?_;exact U h1
end
section
variable{p:wl}{m a:xS wl}{fu:wr}
def oO{p:J}:∀{l1 c:N S},List.Sublist l1 c->(∀w∈c,Fs w)->Di p (prZ l1) (prZ c)
 |_,_,.slnil,_=>Di.refl _ _
 |_,_,.cons a h,b=>Di.mul a (b a<|FS)<|oO h λw d=>b w<|UV _ d
 |_,_,.cons_cons a h,b=>by
  obtain⟨q,fq,hc⟩:=oO h λw d=>b w<|UV _ d;refine⟨q,fq,((Cg.rfl).mul hc).trans<|Cg.of ?_⟩;exact zC _ _ _
def Fs.dvp{f:S}(h:Fs f):Fs (dvp f):=by
 have⟨n,hn⟩:=h;exact⟨n,λk b=>by show _*f (k+1)=0;rw[hn _ W,xaz]⟩
def jF.sq(hp:2<=p){u:N J}(c:VT p u)(hc:jF p (C m) (dvp<|C m))(h:Di p (C u*C u) (C m)):V6:=by
 have⟨q,fq,b⟩:=h;have h1:Di p (C u) (C m):=⟨q*C u,fq.mul<|Fs.ci u,b.trans<|Cg.of (zd _ _ _).symm⟩;have d:Di p (C u) (dvp<|C m):=⟨dvp q*C u+(q*dvp (C u)+q*dvp (C u)),(fq.dvp.mul<|Fs.ci u).add<|(fq.mul (Fs.ci u).dvp).add<|fq.mul (Fs.ci u).dvp,(zd2 b).trans<|Cg.of<|by rw[VZ,VZ,yF,yF,zd,zd,xH,zk (C u)<|dvp<|C u]⟩;have⟨s,t,fs,e,f⟩:=hc;exact c.ne hp<|(Di.add (Di.mul s fs h1)<|Di.mul t e d).cg f
def zoz(hp:vF p=wF)(e:vd p m)(hl:X m<=290)(hc:jF p (C m) (dvp<|C m)):∃us,Sf p m us:=by
 have⟨i,j⟩:=zz hp;have⟨us,h1,f⟩:=zn3 hp (X m) O hl e;refine⟨us,hp,e,hl,λu g=>⟨(h1 u g).1,by have:=(h1 u g).2;lia⟩,?_,f⟩;refine xdr.2 λ{a b} c=> ?_;have d:a∈us:=c.subset gT;have h:b∈us:=c.subset gT;refine(h1 a d).1.cop hp (h1 b h).1 (by have:=(h1 a d).2;lia) (by have:=(h1 b h).2;lia) λhd=> ?_;subst hd;have:=oO (p:=p) (c.map C) UQ;refine jF.sq i (h1 a d).1 hc<|(Di.cg ?_ f.symm);refine Di.trans ?_ this;refine⟨F 1,Fs.pc 1,Cg.of ?_⟩;show C a*(C a*F 1)=_;rw[ye,zw]
def mH(hp:vF p=wF)(c:vd p m)(hl:X m<=290)(d:3000000<=fu):∃b,qW fu m p=Z (m,0)/\Yw fu m p=Z (b,0)/\(b=wF↔jF p (C m) (dvp<|C m)):=by
 have⟨f,n⟩:=zz hp;have hd:=c.ln;have⟨x,x0,i,e,e1⟩:=XN (fu:=fu) hp c.fm c.ln W d;rw[c.top,xcZ,xaL W i]at e;subst e;rw[zfv W c.fm]at e1;have⟨g,s,t,g1,j,k⟩:=QO (fu:=fu) hp c.fm (zeZ (p:=p) W m) W (by have:=zlo p m;lia) d;have l:jF p (C m) (dvp<|C m)↔X g=1:=by
  rw[zba f j k];exact⟨λh=>h.congr Cg.rfl (zgj p m).symm,λh=>h.congr Cg.rfl<|zgj p m⟩
 refine⟨decide<|X g=1,e1,?_,by rw[l];exact decide_eq_true_iff⟩;unfold Yw Qx;rw[U e1];simp only[uL];rw[zB,U O];simp only[uL];rw[U<|ra hp c.fm W d];simp only;rw[U g1];simp only;by_cases hc:X g=1
 ·simp_all
 ·rw[zB,uT hc]
theorem pV(hp:vF p=wF)(e:Fp p a)(h0:0<X a)(hl:X a<=65)(f:3000000<=fu):
 ∃m b,zgJ p a m/\vd p m/\Yw fu m p=Z (b,0)/\(b=wF↔jF p (C m) (dvp<|C m))/\kK fu a p=if b=wF then Z (m,0)else Z ([],1):=by
 have⟨g,k⟩:=zz hp;have⟨x,x0,d,h,e1⟩:=XN hp e h0 W f;have c:=PY g e h0 h;have⟨m,hc⟩:∃m,m=xD p a [x]:=⟨_,O⟩;rw[<-hc]at c e1;have hd:=c.ln;have i:vd p m:=⟨c.fm,W,c.top⟩;have⟨b,_,b1,b2⟩:=mH hp i W f;unfold kK ae;have j:(Y (qW fu a p) λ(t1,d)=>if d=(0:J)then if(X t1:J)=(0:J)then Z (([],(8:J)))else if(65:J)<(X t1:J)then Z (([],6))else Z ((t1,0))else Z ([],d))=Z (m,0):=by
  rw[U e1];grind
 rw[U j];simp only;rw[U b1];grind
def fU{b:N J}(j:X a<=1000)(l:X b<=1000)(n:3000000<=fu):∃c,vk fu a b=Z c:=by
 unfold vk;by_cases h:X a=X b
 ·rw[zT,zb];have⟨r,e,_⟩:=ya (f:=XO fu a b) (λi:J=> -1<=i/\i<X a) (λi=>(i+1).toNat) (λ_=>XS) (by
   rintro i L ⟨h1,o⟩ g;unfold XO;by_cases d:0<=i
   ·obtain⟨k,rfl⟩:=xaA d;rw[iq d,zY,zf,zY,zf];split
    ·simp_all
    ·rw[zY,zf,zY,zf];split
     ·simp_all
     ·rw[zb];exact g _ ⟨W,W⟩ W
   ·rw[ir d];exact⟨_,O,wS⟩) fu ((X a:J)-1) ⟨W,W⟩ W
  rw[U e]
  cases r with
  |inl _=>exact⟨_,O⟩
  |inr i=>exact⟨i,O⟩
 ·rw[zB,zb];exact⟨_,O⟩
def PZ{l1 b:N S}(h:l1.Perm b):prZ l1=prZ b:=by
 induction h with
 |nil=>rfl
 |cons x _ c=>show x*prZ _=x*prZ _;rw[c]
 |swap x y l=>show y*(x*prZ l)=x*(y*prZ l);rw[zC]
 |trans _ _ h1 d=>rw[h1,d]
def Rl.take{l:N J}(h:Rl l)(n:K):Rl (l.take n):=λk=>by
 by_cases b:k<n
 ·have:C (l.take n) k=C l k:=by
   show(l.take n).getD k 0=l.getD k 0;simp_all
  rw[this];exact h k
 ·rw[yh<|by rw[xax];lia];exact⟨W,W⟩
def tS{P:K}{ds:N J}(hp:vF (P:J)=wF)(G:Fp (P:J) a)(h0:1<X a)(hl:X a<=13)(hd:Rl ds)(hn:X ds<=1000)(o:3000001<=fu){b:wW}(q:zgJ (P:J) a m)(k:vd (P:J) m)(s:kK fu a P=Z (m,0))(hc:jF (P:J) (C m) (dvp<|C m)):
 ∃l us,Xk fu a P ds=Z (l,0)/\Sf (P:J) m us/\Pl (P:J) m l/\∀g∈l,VT (P:J) g:=by
 have⟨H,L⟩:=zz hp;have M:=q.ln;have⟨us,e⟩:=zoz hp k W hc;have⟨bs,e1,b1,b2,b3,n,c,u⟩:=Ax (fu:=fu) (w:=X m-1) hp k W W W W;have Q:=n.le e;have hi:Rl (ds.take<|min (X ds) 64):=hd.take _;have⟨l,z,d,A⟩:=rQ (fu:=fu) (bs:=bs) (ds:=ds.take<|min (X ds) 64) e W W O b1 W hi (by rw[xax];lia) (λv hv=>⟨(b3 v hv).1,by have:=(b3 v hv).2;lia⟩) W;have B:=Pl.done e n d ⟨c,u⟩ A;have⟨vs,v1,D,v3⟩:=e.pick d.mn<|(Di.refl _ _).cg d.pr.symm;have R:=bE D λv hv=>(v3 v hv).1;have E:∀g∈l,X g<=290:=λg f=>e.len (d.mn g f).1<|d.dv f;have⟨r,F,h,_⟩:=EK (fu:=fu) (cmp:=λi j=>vk fu i j) (c:=λx y=>(vk fu x y).getD 0) (S:=λx=>X x<=290) (λx y T V=>by
  have⟨c,hc⟩:=fU (fu:=fu) (a:=x) (b:=y) W W W;show vk fu x y=Z ((vk fu x y).getD 0);rw[hc];rfl) (t:=l) E W o
 refine⟨r,us,?_,e,⟨λg f=>d.mn g<|h.mem_iff.1 f,d.pr.trans ?_⟩,λg f=>B g<|h.mem_iff.1 f⟩
 ·unfold Xk;rw[U s];simp only;rw[iq wS,zB,U e1,zf,(W:min (X ds:J) 64=((min (X ds) 64:K):J)),yR,yV,zf,U z,U F]
 ·exact Cg.of<|PZ<|h.symm.map C
end
section
variable{fu K:wr}{a b:Zr}
def SD(x y:J):J:=if y=0 then 0 else if x%y=0 then x/y else 0
def exE(x y:J):J:=if y=0 then 3 else if x%y=0 then 0 else 4
def kz(f:a8 a)(c:a8 b)(d:3000000<=fu):xY fu a b=Z (yp<|SD (zv a)<|zv b,exE (zv a)<|zv b):=by
 unfold xY SD exE;rw[U<|KK f c d];unfold Lj;by_cases h0:zv b=0
 ·rw[iq h0,iq h0,iq h0];rfl
 ·rw[ir h0,ir h0,ir h0];simp only[uL];have g:Bz (X b.2) (zv a%zv b):=by
   unfold Bz;have h1:=xcT (zv a) h0;have i:=Int.emod_lt (zv a) h0;have h:=Bz.of c.1;unfold Bz at h;lia
  rw[U O,ir gS,U<|xn (g.ok (by have:=c.2;lia)) d,zn];by_cases h1:zv a%zv b=0
  ·rw[iq<|xi.2 h1,iq h1,iq h1]
  ·rw[ir<|λe=>h1<|xi.1 e,ir h1,ir h1];rfl
def Um(f:a8 a)(c:a8 b)(d:3000000<=fu):WE fu a b=Z (yp<|SD (zv a)<|zv b,exE (zv a)<|zv b):=by
 unfold WE SD exE;rw[U<|cW f c d];unfold Lj;by_cases h0:zv b=0
 ·rw[iq h0,iq h0,iq h0];rfl
 ·rw[ir h0,ir h0,ir h0];simp only[uL];have g:Bz (X b.2) (zv a%zv b):=by
   unfold Bz;have h1:=xcT (zv a) h0;have i:=Int.emod_lt (zv a) h0;have h:=Bz.of c.1;unfold Bz at h;lia
  rw[U<|kv (g.ok (by have:=c.2;lia)) d,zn];by_cases h1:zv a%zv b=0
  ·rw[iq<|xi.2 h1,iq h1,iq h1]
  ·rw[ir<|λe=>h1<|xi.1 e,ir h1,ir h1];rfl
def zb7{n:wr}(h:n<18446744073709551616^K):bl n<=64*K:=JD<|by rw[xcz];exact h
def Ks(e:zm a.2)(f:zm b.2)(j:X a.2<=K)(hi:X b.2<=K)(p:K<=10000)(k:3000000<=fu):XP fu a b=Z (yp (xdq (zv a).natAbs (zv b).natAbs:wr)):=by
 unfold XP;rw[U<|Wj e,U<|Wj f,vO,vO];have c:nv a.2<18446744073709551616^K:=xao (vH e)<|xav gS j;have g:nv b.2<18446744073709551616^K:=xao (vH f)<|xav gS hi;generalize nv a.2=A at*
 generalize nv b.2=B at*
 have l:xdq A B<18446744073709551616^K:=by
  by_cases h:A=0
  ·simp_all
  ·exact xaK (Nat.gcd_le_left _ W) c
 have hc:∀{n:wr},n<18446744073709551616^K->X (yB n)<=K:=λ{n} h=>(zL _ _).2 h;rw[U (v:=yB<|xdq A B)]
 ·have hl:=hc l;rw[U (yD (zu _) W W),yg];rfl
 ·refine zA (λs:N wr×N wr=>∃x y:wr,s=(yB x,yB y)/\x<18446744073709551616^K/\y<18446744073709551616^K/\xdq x y=xdq A B) (λs=>bl (nv s.1)+bl (nv s.2)+if nv s.1<nv s.2 then 1 else 0) _ ?_ _ _ ⟨A,B,O,c,g,O⟩ ?_
  ·rintro s L ⟨x,y,rfl,m,i,d⟩ o;unfold oe;simp only;have q:=hc m;have r:=hc i;by_cases h0:y=0
   ·subst h0;rw[ir<|by rw[bu];decide];rw[Nat.gcd_zero_right]at d;rw[d]
   ·have hp:=vD (n:=y) W;rw[zT,U<|mI (zu x) (zu y) W W k,yg,yg,ir h0];simp only;have t:=xaS x (W:0<y);refine o _ ⟨y,x%y,O,i,W,?_⟩ ?_
    ·rw[<-d,xdF y,<-Nat.gcd_rec,xdF]
    ·simp only[yg];rw[zB];by_cases hd:x<y
     ·rw[iq hd,xam hd];lia
     ·have:=LP (r0:=x) (r1:=y);lia
  ·simp only[yg];have h1:=zb7 c;have u:=zb7 g;split<;>lia
def bL(c:zm a.2)(hl:X a.2<=200000)(d:3000000<=fu):Vf fu a=Z (yp ((zv a).natAbs:wr)):=by
 unfold Vf;rw[U<|yM (z:=(I,a.2)) c hl d,vO];rfl
def BA(d:zm a.2)(f:zm b.2)(hd:X a.2<=K)(k:X b.2<=K)(p:K<=10000)(c:3000000<=fu):JE fu a b=Z (yp (xdq (zv a).natAbs (zv b).natAbs:wr)):=by
 unfold JE;rw[U<|bL d W c,U<|bL f W c,vO,vO];have g:nv a.2<18446744073709551616^K:=xao (vH d)<|xav gS hd;have h:nv b.2<18446744073709551616^K:=xao (vH f)<|xav gS k;generalize nv a.2=A at*
 generalize nv b.2=B at*
 rw[U (v:=yp (xdq A B:wr))];refine zA (λs:M×M=>∃x y:wr,s=(yp (x:wr),yp (y:wr))/\x<18446744073709551616^K/\y<18446744073709551616^K/\xdq x y=xdq A B) (λs=>bl (zv s.1).natAbs+bl (zv s.2).natAbs+if(zv s.1).natAbs<(zv s.2).natAbs then 1 else 0) _ ?_ _ _ ⟨A,B,O,g,h,O⟩ ?_
 ·rintro s L ⟨x,y,rfl,l,i,m⟩ n;unfold gR;simp only;have o:=Bz.nat l;have j:=Bz.nat i;rw[U<|kv (j.ok W) c,zn];by_cases h0:y=0
  ·subst h0;rw[iq<|xi.2 (show((0:wr):J)=0 from O)];simp_all
  ·rw[ir<|λe=>h0 (by have:=xi.1 e;lia),U<|cW (o.okS W) (j.okS W) c,zn,zn];unfold Lj;rw[zB];simp only;have hi:=xaS x (W:0<y);rw[show((x:J)%(y:J))=((x%y:wr):J)from O];refine n _ ⟨y,x%y,O,i,W,?_⟩ ?_
   ·rw[<-m,xdF y,<-Nat.gcd_rec,xdF]
   ·simp only[zn,xbh];rw[zB];by_cases hc:x<y
    ·rw[iq hc,xam hc];lia
    ·have:=LP (r0:=x) (r1:=y);lia
 ·simp only[zn,xbh];have h1:=zb7 g;have q:=zb7 h;split<;>lia
def p8{x:J}(h0:0<=x)(h:x<9223372036854775808)(e:3000000<=fu):kJ fu (yp x)=Z (x,wF):=by
 have c:Bz 1 x:=by unfold Bz;lia
 unfold kJ;rw[U<|yM (yG x) (by have:=c.len;lia) e,zn];have f:(yp x).1=I:=by unfold yp;simp;lia
 by_cases d:x=0
 ·subst d;rfl
 ·have hc:=eK.2 d;have hd:=c.len;obtain⟨n,rfl⟩:=xaA h0;have g:(yp n).2.getD 0 0=n:=by
   show(yB<|(n:J).natAbs).getD 0 0=n;rw[xbh,ZA,xdK,xam W]
  rw[zB,zB,show 0=((0:wr):J)from O,zY,zf,f,ir gS,iq gS,g,zT,zf,sw]
end
section
variable{K fu:wr}{a:xS Zr}
def XD(f:wr->J):wr->wr
 |0=>0
 |n+1=>xdq (XD f n) (f n).natAbs
def CX(f:wr->J):∀n k,k<n->XD f n∣(f k).natAbs
 |0,k,h=>wR h<|xbn _
 |n+1,k,h=>by
  by_cases e:k=n
  ·rw[e];exact xdx _ _
  ·exact Nat.dvd_trans (xfM _ _)<|CX f n k W
theorem AZ(f:wr->J){K:wr}(h:∀k,Bz K<|f k):∀n,XD f n<18446744073709551616^K
 |0=>xaU gS
 |n+1=>by
  show xdq (XD f n) (f n).natAbs<_;by_cases e:XD f n=0
  ·rw[e,Nat.gcd_zero_left];exact h n
  ·exact xaK (Nat.gcd_le_left _ W)<|AZ f h n
def yn(a:N M):J:=if G (zQ a) (X (zQ a)-1)<0 then-((XD (G a) (X (zQ a)):wr):J)else((XD (G a) (X (zQ a)):wr):J)
def UX(a:N M):zQ a=wk (X (zQ a)) (G<|zQ a):=kZ _ _
def Hy(a:N M):zQ (zQ a)=zQ a:=(UX a).symm
theorem CU(h:yH K a):Bz K (yn a):=by grind [yn,AZ,yH.bz,Bz.nat,Bz.neg]
theorem XE(a:N M)(k:wr):yn a∣G a k:=by
 have h:((XD (G a) (X (zQ a)):wr):J)∣G a k:=by
  by_cases b:k<X (zQ a)
  ·exact xcq.1<|by skip;exact CX (G a) _ k b
  ·rw[<-kP,zW W];exact xdE _
 unfold yn;split
 ·simp_all
 ·exact h
def mC(h:X (zQ a)≠0):yn a≠0:=by
 intro e;have h1:=YX (UX a) h;rw[kP]at h1;have b:=XE a<|X (zQ a)-1;simp_all
def jS(c:yH K a)(g:K<=9999:=by lia)(hl:X a<=1000000:=by lia)(b:3000000<=fu:=by lia):x9 fu a=Z (yp<|yn a):=by
 unfold x9;have hn:=Ku c;have hd:=j7 a;have hc:=AZ (G a) c.bz;rw[U<|zI c W hl b,show wk (X a) (G a)=zQ a from O,U<|ym gS b,U (v:=(zQ a,(I,[]),yp ((XD (G a) (X (zQ a)):wr):J)))]
 ·simp only;by_cases h0:X (zQ a)=0
  ·rw[zB];unfold yn;rw[h0];show Z (yp ((0:wr):J))=Z (yp (if G (zQ a) 0<0 then-(((0:wr):J))else((0:wr):J)));simp_all
  ·rw[zT,(W:((X (zQ a):wr):J)-1=((X (zQ a)-1:wr):J)),zb,zY,zf,BD<|UX a];unfold yn;by_cases h1:G (zQ a) (X (zQ a)-1)<0
   ·rw[iq<|(Wh _).2 h1,iq h1,U<|KI ((Bz.nat<|hc _).ok W) b,zn]
   ·rw[ir<|λe=>h1<|(Wh _).1 e,ir h1]
 ·refine zA (λs:J×N M×M×M=>∃i:wr,i<=X (zQ a)/\s=((i:J),zQ a,(I,[]),yp ((XD (G a) i:wr):J))) (λs=>X (zQ a)-s.1.toNat) _ ?_ _ _ ⟨0,xai _,O⟩ (by show(zQ a).length-0<fu;lia);rintro s L ⟨i,hi,rfl⟩ f;unfold JV;simp only;by_cases h:i<X (zQ a)
  ·have d:=hn.get i;rw[zT,U O];simp only[uL];rw[zo h,zf,U<|Ks (yG _) d.1 (Bz.nat<|hc i).len d.2 W b,zn,xbh,Z8,kP,zb];exact f _ ⟨i+1,W,O⟩ (by show(zQ a).length-((i:J)+1).toNat<X (zQ a)-(i:J).toNat;lia)
  ·rw[zB,U O];simp only[xak,ut];obtain rfl:i=X (zQ a):=W
   rfl
def zcl(a:N M):yn (zQ a)=yn a:=by
 unfold yn;rw[Hy,show G (zQ a)=G a from qR (kP a)]
def ll(b:yH K a)(g:K<=9999)(hl:X a<=1000000)(c:3000000<=fu):ZN fu a=Z (yp<|yn a):=by
 unfold ZN;have hn:=Ku b;have hd:=j7 a;have hc:=AZ (G a) b.bz;rw[U<|y9 b W hl c,show wk (X a) (G a)=zQ a from O,U (ZB gS),U (v:=yp ((XD (G a) (X (zQ a)):wr):J))]
 ·by_cases h0:X (zQ a)=0
  ·rw[zB];unfold yn;rw[h0];show Z (yp ((0:wr):J))=Z (yp (if G (zQ a) 0<0 then-(((0:wr):J))else((0:wr):J)));simp_all
  ·rw[zT,(W:((X (zQ a):wr):J)-1=((X (zQ a)-1:wr):J)),zb,zY,zf,BD<|UX a];unfold yn;by_cases h1:G (zQ a) (X (zQ a)-1)<0
   ·rw[iq<|(Wh _).2 h1,iq h1,U<|dK ((Bz.nat<|hc _).ok W) c,zn]
   ·rw[ir<|λe=>h1<|(Wh _).1 e,ir h1]
 ·refine zA (λs:J×M=>∃i:wr,i<=X (zQ a)/\s=((i:J),yp ((XD (G a) i:wr):J))) (λs=>X (zQ a)-s.1.toNat) _ ?_ _ _ ⟨0,xai _,O⟩ (by show(zQ a).length-0<fu;lia);rintro s L ⟨i,hi,rfl⟩ f;unfold JT;simp only;by_cases h:i<X (zQ a)
  ·have d:=hn.get i;rw[zT,zo h,zf,U<|BA (yG _) d.1 (Bz.nat<|hc i).len d.2 W c,zn,xbh,Z8,kP,zb];exact f _ ⟨i+1,W,O⟩ (by show(zQ a).length-((i:J)+1).toNat<X (zQ a)-(i:J).toNat;lia)
  ·rw[zB];obtain rfl:i=X (zQ a):=W
   rfl
def y7(a:N M):N M:=wk (X a)<|λk=>G a k/yn a
theorem uJ(a:N M)(k:wr):G (y7 a) k=G a k/yn a:=jo (λk b=>by rw[zW b,xef]) k
def n8(h:yH K a):yH K (y7 a):=yN λk=>(h.bz k).le<|xbG _ _
theorem zml{x c:J}(hd:c∣x)(b:x≠0):x/c≠0:=λe=>by
 have:=xeY hd;simp_all
theorem kF(a:N M):X (y7 a)=X (zQ a):=by grind [zQ,y7,xw,J5,qg,Vy,zml,XE,Vv,xef]
theorem zgz(a:N M):y7 a=zi (X (zQ a)) (λk=>G a k/yn a):=by grind [wk,y7,kF,xw]
def wI(b:yH K a)(d:K<=9999:=by lia)(hl:X a<=1000000:=by lia)(c:3000000<=fu:=by lia):xk fu a=Z (y7 a):=by
 unfold xk;have hn:=Ku b;have hd:=j7 a;have hc:=CU b;rw[U<|jS b d hl,U<|zI b W hl c,show wk (X a) (G a)=zQ a from O,U<|A7 W W λj e=> ?_,zgz];unfold Jf;rw[U<|kz (hn.okS W j) (hc.okS W) c,zn,Z8,kP];unfold SD;rw[ir (mC W),iq<|xaw<|XE a j]
def Pj(c:yH K a)(R:K<=9985)(hl:X a<=1000)(h0:X (zQ a)≠0)(f:3000000<=fu):jL fu (zQ a) [yp<|yn a]=Z (y7 a,0):=by
 unfold jL;have hn:=Ku c;have S:=j7 a;have hc:=CU c;have i:=mC h0;have x:=hc.len;have l:yH K [yp<|yn a]:=λz o=>by
  obtain rfl:=xad.1 o;exact⟨yG _,x⟩
 have y:wk [yp<|yn a].length (G [yp<|yn a])=[yp<|yn a]:=by
  show wk 1 _=_;unfold wk;rw[show dg (G [yp<|yn a]) 1=1 from cn (m:=0) (by show zv (yp<|yn a)≠0;rw[zn];exact i)];show[yp<|zv<|yp<|yn a]=_;rw[zn]
 have r:∀k,G [yp<|yn a] k=if k=0 then yn a else 0:=λk=>by
  by_cases b:k=0
  ·rw[iq b,b];exact zn _
  ·rw[ir b];exact zW<|by simp;lia
 rw[U<|y9 l W gT f,y,ir (gT:¬((X ([yp<|yn a]:N M):wr):J)=0),U<|y9 hn W W f,show wk (X (zQ a)) (G<|zQ a)=zQ a from(UX a).symm];have⟨n,t⟩:∃n,n=X a:=⟨_,O⟩;rw[U (v:=.inl<|y7 a)];refine zA (λs:N M×N M×N M=>∃m:wr,m<=n/\s=([yp<|yn a],wk m<|G a,wk n (λk=>if m<=k then G a k/yn a else 0))) (λs=>X s.2.1) _ ?_ _ _ ⟨n,Nm _,?_⟩ (by show(zQ a).length<fu;lia)
 ·rintro s L ⟨m,T,rfl⟩ A;unfold Wb;simp only;have V:=qg (G a) m;have h:X (wk m<|G a)=dg (G a) m:=xw _ _;have B:∀k,G (wk m<|G a) k=if k<m then G a k else 0:=λk=>by
   have e:wk m (G a)=wk m (λk=>if k<m then G a k else 0):=XM λk b=>by rw[iq b]
   rw[e,jo λk b=>zB]
  by_cases h1:0<dg (G a) m
  ·have⟨d,hd⟩:∃d,dg (G a) m=d+1:=⟨dg (G a) m-1,W⟩;have Y:G a d≠0:=by have:=Vv (G a) m W;rw[hd]at this;exact this
   have C:(wk m<|G a).getD d (I,[])=yp (G a d):=by
    unfold wk;rw[hd];exact ZY W
   have hv:SD (G a d) (yn a)=G a d/yn a:=by
    unfold SD;rw[ir i,iq<|xaw<|XE a d]
   have D:exE (G a d) (yn a)=0:=by
    unfold exE;rw[ir i,iq<|xaw<|XE a d]
   have E:Bz K (G a d/yn a):=(c.bz d).le<|xbG _ _;have hp:xac d (I,[])++[yp<|G a d/yn a]=zi (d+1) (mono d<|G a d/yn a):=by
    rw[az,<-mN];congr 1
    ·exact y6 λk b=>by unfold mono;rw[zB]
    ·unfold mono;rw[iq O]
   have q:yH K (zi (d+1)<|mono d<|G a d/yn a):=Yf λj=>by
    unfold mono;split
    ·exact E
    ·exact Bz.zero _
   have F:yH K (wk n (λk=>if m<=k then G a k/yn a else 0)):=yN λj=>by
    split
    ·exact(c.bz j).le<|xbG _ _
    ·exact Bz.zero _
   have hJ:X (wk n (λk=>if m<=k then G a k/yn a else 0))<=n:=by rw[xw];exact qg _ _
   have H:yH K (wk m<|G a):=yN c.bz;have u:=ZO q l;have w:=qB (zi (d+1)<|mono d<|G a d/yn a) [yp<|yn a];rw[yc]at w u;rw[iq (by rw[h];lia),h,hd,show(X ([yp<|yn a]:N M):wr)=1 from O,(W:((d+1:wr):J)-((1:wr):J)=(d:J)),zb,(W:((d+1:wr):J)-1=(d:J)),zb,zY,zf,C,show((1:wr):J)-1=((0:wr):J)by rfl,zb,zY,zf,show([yp<|yn a]:N M).getD 0 (I,[])=yp (yn a)from O,U<|Um ((c.bz d).okS W) (hc.okS W) f,zn,zn,hv,D];simp only[uL];rw[zB,yR,yV,zf,xB (by simp;lia),zf,hp,U<|Y6 F q W W (by rw[yc];lia) f,U<|QT q l (by rw[yc];lia) gT f,U<|dh (k:=K+K+(d+1)) (H.mono W) u W W (by simp at w;lia) f];have e1:KH (wk m<|G a) (yS (zi (d+1)<|mono d<|G a d/yn a) [yp<|yn a])=wk d (G a):=by
    unfold KH;have P:wk d (G a)=wk d (λk=>if k<d then G a k else 0):=XM λk b=>by rw[iq b]
    rw[P];refine YM (λk b=>by rw[zW W,zW W];rfl) (λk b=>zB) λk=> ?_;rw[zcx,B];unfold NZ;by_cases b:k<d
    ·rw[zT,iq b,zB,xaz,xdc]
    ·rw[ir b];by_cases hi:k=d
     ·subst hi;rw[zT,iq<|Nm _,r,zT,xeY<|XE a k];lia
     ·have o:(if k<m then G a k else 0)=0:=by
       split
       ·exact Vy (G a) m k W W
       ·rfl
      rw[o,zT,r,zB,xaz];rfl
   have Q:wk (max (X (wk n (λk=>if m<=k then G a k/yn a else 0))) (X (zi (d+1)<|mono d<|G a d/yn a))) (λj=>G (wk n (λk=>if m<=k then G a k/yn a else 0)) j+G (zi (d+1)<|mono d<|G a d/yn a) j)=wk n (λk=>if d<=k then G a k/yn a else 0):=by
    refine YM (λk b=>by rw[zW W,zW W];rfl) (λk b=>by rw[zW (p:=a) W,xef,ite_self]) λk=> ?_;rw[jo (λk b=>by rw[zW (p:=a) W,xef,ite_self]),Jz<|λk b=>by unfold mono;rw[zB]];unfold mono;by_cases b:k<d
    ·rw[ir (W:¬m<=k),ir (W:¬k=d),ir (W:¬d<=k)];rfl
    ·by_cases hi:k=d
     ·subst hi;rw[ir (W:¬m<=k),iq O,iq<|Nm _,xcE]
     ·rw[ir hi,iq (W:d<=k),xbZ];by_cases g:m<=k
      ·rw[iq g]
      ·rw[ir g,Vy (G a) m k W W,xef]
   show L ([yp<|yn a],_,_)=_;rw[e1,Q];exact A _ ⟨d,W,O⟩ (by show(wk d<|G a).length<X (wk m<|G a);rw[h,xw];have:=qg (G a) d;lia)
  ·rw[ir<|by rw[h];lia];congr 2;unfold y7;rw[<-t];refine XM λk b=> ?_;by_cases g:m<=k
   ·rw[iq g]
   ·rw[ir g,Vy (G a) m k W W,xef]
 ·rw[t];congr 2
  ·have e:wk (X a) (λk=>if X a<=k then G a k/yn a else 0)=wk (X a) (λ_=>0):=XM λk b=>zB;rw[e];have:dg (λ_=>(0:J)) (X a)=0:=J5 (xai _) (λ_ _ _=>O) (.inl O);unfold wk;rw[this];rfl
def VJ(b:yH K a)(d:K<=9985)(hl:X a<=1000:=by lia)(c:3000000<=fu:=by lia):Zc fu a=Z (y7 a):=by
 unfold Zc;have hc:=j7 a;rw[U<|y9 b W W c,show wk (X a) (G a)=zQ a from O];by_cases h0:X (zQ a)=0
 ·skip;have:=kF a;simp_all
 ·rw[zB,U<|ll (Ku b) W W c,zcl,U<|Pj b d hl h0 c]
end
section
variable{a:xS Zr}{fu K:wr}{s:wl}
def zhJ{x:wr}:x/2^1=x/2:=by rw[Nat.pow_one]
def zi6{n:wr}(h:0<n):bl (n/2)<bl n:=by rw[de h];omega
def zbK{a b:wr}(h:a<=b):bl a<=bl b:=JD<|xaK h<|B7 b
def zil{y:J}(b:Bz K y)(d:K<=10000)(c:3000000<=fu):zg (Wm fu 2<|yp y) fu (2,yp s,0,yp 1)=Z (2,yp s,yp<|y*y):=by
 have⟨n,hn⟩:∃n,fu=n+3:=⟨fu-3,gC⟩;have h:zg (Wm fu 2<|yp y) (n+3) (2,yp s,0,yp 1)=Z (2,yp s,yp<|y*y):=by
  have b1:=Bz.one'<|Nm _;rw[kf];unfold Wm;simp only;rw[U<|yv (b1.ok gS) (b.ok gC) c,zn,zn,xcY,lu gS,kf];simp only;rw[U<|yv (b.ok gC) (b.ok gC) c,zn];rfl
 simp_all
def BX(u:0<=s)(j:Bz K s)(E:K<=1000)(i:3000000<=fu):∃r:wr,J8 fu (yp s) 2=Z (yp (r:J),0)/\Bz (K+1) (r:J)/\r*r<=s.toNat/\s.toNat<(r+1)*(r+1):=by
 unfold J8;obtain⟨S,rfl⟩:=xaA u;have F:=j.len;have hv:bl S<=64*K:=zb7 (by unfold Bz at j;rwa[xbh]at j);have hn:nv (yp (S:J)).2=S:=by show nv (yB<|(S:J).natAbs)=S;rw[yg,xbh]
 have v:xct ((bl S:wr):J) 2=((bl S/2:wr):J):=by rw[xeM gC];omega
 have n:bl S/2<=32*K:=gC
 have w:min (((bl S/2:wr):J)+1) (262144:J)=((bl S/2+1:wr):J):=gC
 rw[ir gS,ir gS,U<|xn (j.ok gC) i,zn,ir (λe=>by
  unfold jt at e;rw[zB]at e;split at e<;>exact wR e gS),U (ym gS i),U (WC (yG _) gC gC),hn,xB gS,v,zb,zb,zf,w,U (Qq (a:=[1]) (zm.cons gS zm.nil) gS gC gC)]
 simp only;have⟨H,l⟩:∃H,H=1*2^(bl S/2+1):=⟨_,O⟩;have m:H<18446744073709551616^(K+1):=by
  rw[l,xcy,(gS:(18446744073709551616:wr)=2^64),<-xcz];exact xeP gS gC
 have G:1<=H:=by rw[l,xcy];exact xaU gS
 have N:=zb7 m;have x:S<H*H:=by
  refine xao (B7 S) ?_;rw[l,xcy,<-xbz];exact xav gS gC
 rw[show nv [1]=1 from O,<-l,U<|yD (zu _) (by have:=(zL (K+1) H).2 m;omega) (by have:=(zL (K+1) H).2 m;omega),yg,ir gS];obtain⟨r,l1,R,rfl,P,hp,y⟩:=ya (f:=Kz fu (yp (S:J)) 2) (λz:M×M×M=>∃lo hi:wr,z=((I,[]),yp (lo:J),yp (hi:J))/\lo<hi/\hi<=H/\lo*lo<=S/\S<hi*hi) (λz=>bl<|(zv z.2.2).natAbs-(zv z.2.1).natAbs-1) (λr=>∃R:wr,r=yp (R:J)/\R<=H/\R*R<=S/\S<(R+1)*(R+1)) (by
  rintro z L ⟨lo,hi,rfl,h1,n,i1,i2⟩ o;unfold Kz;simp only;have g:Bz (K+1) (lo:J):=Bz.nat gC;have k:Bz (K+1) (hi:J):=Bz.nat gC;have A:nv (yp<|(lo:J)+(hi:J)).2=lo+hi:=by
   show nv (yB<|((lo:J)+(hi:J)).natAbs)=lo+hi;rw[yg];omega
  have p:=(g.add k).len;have c:Bz (K+1) (((lo+hi)/2:wr):J):=Bz.nat gC;have Q:X (yB<|(lo+hi)/2)<=K+1:=(zL _ _).2 gC;rw[U<|qL (g.ok gC) (k.ok gC) i,zn,zn,show(1:J)=((1:wr):J)from O,U (mi (yG _) gC gS gC),A,zhJ,U (yD (zu _) gC gC),yg,ir gS,U<|ZC (c.ok gC) (g.ok gC) i (by have:=c.len;omega) (by have:=g.len;omega),zn,zn];by_cases q:(lo+hi)/2=lo
  ·rw[iq<|xi.2 gC];obtain rfl:hi=lo+1:=gC
   exact⟨_,O,lo,O,gC,i1,i2⟩
  ·rw[ir<|λe=>q (by have:=xi.1 e;omega),show(((1:wr):J))=1 from O,U<|ym gS i,U<|zil c gC i];simp only;have B:=(c.mul c).len;rw[U<|ZC ((c.mul c).ok gC) (j.ok gC) i gC gC];have hd:0<hi-lo-1:=gC
   have t:∀d,d<=(hi-lo-1)/2->bl d<bl (hi-lo-1):=λd C=>xaK (zbK C)<|zi6 hd;have⟨b,D⟩:∃b,b=(lo+hi)/2:=⟨_,O⟩;rw[<-D]at q⊢;have hl:jt ((b:J)*(b:wr)) (S:J)<=0↔b*b<=S:=by
    rw[(gT:(b:J)*(b:wr)=((b*b:wr):J))];unfold jt;split
    ·exact⟨λ_=>by omega,λ_=>by decide⟩
    ·split
     ·exact⟨λh=>wR h gS,λh=>by omega⟩
     ·exact⟨λ_=>by omega,λ_=>by decide⟩
   by_cases hc:b*b<=S
   ·rw[zn,zn,iq<|hl.2 hc];exact o _ ⟨_,hi,O,gC,n,hc,i2⟩<|by simp only[zn,xbh];exact t _ gC
   ·rw[zn,zn,ir λh=>hc<|hl.1 h];exact o _ ⟨lo,_,O,gC,gC,i1,gC⟩<|by simp only[zn,xbh];exact t _ gC) fu ((I,[]),yp 0,yp (H:J)) ⟨0,H,O,gC,Nm _,xai _,x⟩ (by
   simp only[zn,xbh];have:=zbK (gC:H-Int.natAbs 0-1<=H);omega)
 rw[U l1];exact⟨R,O,Bz.nat gC,by rw[xbc];exact hp,by rw[xbc];exact y⟩
def nZ(a:N M):J:=if(zQ a).length=0 then 8 else if 65<X (zQ a) then 6 else 0
theorem VA(b:yH K a)(c:K<=40000)(hl:X a<=1000000)(d:3000000<=fu):Xi fu a=Z (nZ a):=by grind [Xi,nZ,zQ,U,zI]
def pQ(f:wr->J)(n:wr):J:=yi n<|λk=>f k*f k
def Yi(x:J):0<=x*x:=by
 obtain h|h:=Int.le_total 0 x
 ·exact xcJ h h
 ·exact Int.mul_nonneg_of_nonpos_of_nonpos h h
def iK(f:wr->J):∀n,0<=pQ f n
 |0=>xfy _
 |n+1=>Int.add_nonneg (iK f n)<|Yi _
theorem zfK{f:wr->J}(h:∀k,Bz K<|f k):∀n,n<=18446744073709551615->Bz (K+K+1) (pQ f n):=by
 have h1:∀n:wr,(pQ f n).natAbs<=n*18446744073709551616^(K+K):=by
  intro n
  induction n with
  |zero=>exact xai _
  |succ n d=>
   have c:(pQ f<|n+1).natAbs<=(pQ f n).natAbs+(f n*f n).natAbs:=Int.natAbs_add_le _ _;have b:=(h n).mul<|h n;unfold Bz at b;grind
 intro n hn;unfold Bz;have c:=h1 n;have hp:0<18446744073709551616^(K+K):=xaU gS;have b:n*18446744073709551616^(K+K)<=18446744073709551615*18446744073709551616^(K+K):=xan _ hn;omega
def LK{f:wr->J}:∀{n},(∃k,k<n/\f k≠0)->1<=pQ f n
 |0,⟨k,h,_⟩=>wR h<|xbn _
 |n+1,⟨k,h,b⟩=>by
  show 1<=pQ f n+f n*f n;have h1:=iK f n;have d:=Yi<|f n;by_cases e:k=n
  ·have g:f n*f n≠0:=λc=>by
    obtain h4|h4:=xeI.1 c<;>exact b<|by rw[e];exact h4
   omega
  ·have:=LK (n:=n) ⟨k,gC,b⟩;omega
def aL(c:yH K a)(p:K<=300)(hl:X a<=1000000)(b:3000000<=fu):∃y,ve fu a=Z (y,nZ a)/\(nZ a=0->∃r:wr,y=yp (((r+1)*2^(X (zQ a)-1):wr):J)/\r*r<=(-1+pQ (G a) (X (zQ a))).toNat/\(-1+pQ (G a) (X (zQ a))).toNat<(r+1)*(r+1)):=by
 unfold ve;rw[U<|VA c gC hl b];by_cases h0:nZ a=0
 ·have hc:X (zQ a)≠0/\X (zQ a)<=65:=by
   unfold nZ at h0;split at h0
   ·cases h0
   ·omega
  have hn:=Ku c;have e:=λn hn=>zfK (K:=K) (f:=G a) c.bz n hn;have q:=LK (f:=G a) (n:=X (zQ a)) ⟨X (zQ a)-1,gC,by have:=YX (UX a) hc.1;rwa[kP]at this⟩;have hd:∀n,n<=18446744073709551615->Bz (K+K+1+1) (-1+pQ (G a) n):=λn hn=>by
   have:=(e n hn).add (Bz.one (k:=K+K+1) gC);rwa[xfc]at this
  rw[iq h0,U<|zI c gC hl b,show wk (X a) (G a)=zQ a from O,U<|ym gS b,U (v:=(zQ a,(I,[]),yp (-1+pQ (G a) (X (zQ a)))))]
  ·simp only;have⟨r,r1,r2,g,l⟩:=BX (fu:=fu) (s:= -1+pQ (G a) (X (zQ a))) gC (hd _ gC) gC b;have b1:Bz 1 1:=Bz.one'<|Nm _;have b2:=(r2.add<|b1.mono (by omega:1<=K+K+1+1+1)).len;rw[U r1];simp only;rw[U<|ym gS b,U<|qL (r2.ok gC) (b1.ok gS) b,zn,zn,(gC:((X (zQ a):wr):J)-1=((X (zQ a)-1:wr):J)),zb,U<|Qq (yG _) gC gC gC];simp only;have t:X (yB<|nv (yp<|(r:J)+1).2*2^(X (zQ a)-1))<=K+K+1+1+1+1+2:=by
    refine Yl (j:=K+K+1+1+1+1) (k:=2) ?_ ?_
    ·rw[show nv (yp<|(r:J)+1).2=((r:J)+1).natAbs from yg _];exact b2
    ·refine(zL _ _).2 ?_;exact xaK (xav gS (gC:X (zQ a)-1<=64)) gS
   rw[U<|ZT ⟨zu _,by show(yB _).length<=100000;omega⟩ b];refine⟨_,by rw[h0],λ_=>⟨r,?_,g,l⟩⟩;congr 1;show(if I=wF then _ else((nv (yB _):wr):J))=_;rw[yg,show nv (yp<|(r:J)+1).2=((r:J)+1).natAbs from yg _,(gC:((r:J)+1).natAbs=r+1)];rfl
  ·refine zA (λs:J×N M×M×M=>∃i:wr,i<=X (zQ a)/\s=((i:J),zQ a,(I,[]),yp (-1+pQ (G a) i))) (λs=>X (zQ a)-s.1.toNat) _ ?_ _ _ ⟨0,xai _,O⟩ (by show(zQ a).length-0<fu;omega);rintro s L ⟨i,hi,rfl⟩ m;unfold bJ;simp only;by_cases h:i<X (zQ a)
   ·have d:=hn.okZ gC i;have o:=(c.bz i).mul<|c.bz i;rw[zT,U O];simp only[uL];rw[zo h,zf,U<|yv d d b,Z8,kP,U<|qL ((hd i gC).ok gC) (o.ok gC) b,zn,zn,zb,show-1+pQ (G a) i+G a i*G a i= -1+pQ (G a) (i+1)by show _= -1+(pQ (G a) i+G a i*G a i);omega];exact m _ ⟨i+1,gC,O⟩ (by show(zQ a).length-((i:J)+1).toNat<X (zQ a)-(i:J).toNat;omega)
   ·rw[zB,U O];simp only[xak,ut];obtain rfl:i=X (zQ a):=gC
    rfl
 ·rw[ir h0];exact⟨_,O,λh=>wR h h0⟩
end
section
variable{f g q u v w a b:Pz}{m:wr}
def CQ{m:J}{f:K->J}:∀{n j:K},j<n->(∀k,k<n->k≠j->m∣f k)->m∣yi n f-f j
 |0,j,h,_=>wR h<|xbn _
 |n+1,j,h,hd=>by
  show m∣yi n f+f n-f j;by_cases e:j=n
  ·subst e;rw[(W:yi j f+f j-f j=yi j f)];exact dE λk c=>hd k W W
  ·have h1:=CQ (n:=n) W λk c d=>hd k W d;have i:=hd n W W;rw[(W:yi n f+f n-f j=(yi n f-f j)+f n)];exact Int.dvd_add h1 i
theorem Vz{n:K}(c:∀k,n<k->f k=0)(d:∀k,m<k->g k=0):(f*g) (n+m)=f n*g m:=by
 have h:=Int.zero_dvd.1 (CQ (f:=λi=>f i*g (n+m-i)) (n:=n+m+1) (j:=n) W λk e l=>by
  by_cases hc:k<n
  ·grind
  ·rw[c k W,xba];exact xed 0)
 rw[(W:n+m-n=m)]at h;rw[wM];lia
def Tp(f:S)(n:K):Prop:=f n≠0/\∀k,n<k->f k=0
def Nz(f:S):Prop:=∃k,f k≠0
def Nz.not(h:¬Nz f)(k:K):f k=0:=xae λe=>h ⟨k,e⟩
def Tp.ex(c:Fs f)(h0:Nz f):∃n,Tp f n:=by
 have⟨N,i⟩:=c;have⟨j,d⟩:=h0;have h1:dg f N≠0:=λe=>by
  by_cases h:j<N
  ·exact d<|Vy f N j W h
  ·simp_all
 refine⟨dg f N-1,Vv f N h1,λk l=> ?_⟩;by_cases hc:k<N
 ·exact Vy f N k W hc
 ·simp_all
def Tp.mul{n:K}(c:Tp f n)(d:Tp g m):Tp (f*g) (n+m):=
 ⟨by rw[Vz c.2 d.2];exact xcG c.1 d.1,λk h=>kL (n:=n+1) (m:=m+1) (λj e=>c.2 j W)<|λj e=>d.2 j W⟩
def Tp.uniq{n:K}(h:Tp f n)(g:Tp f m):n=m:=by
 by_cases h1:n<m
 ·exact wR (h.2 m h1) g.1
 ·by_cases c:m<n
  ·exact wR (g.2 n c) h.1
  ·lia
def Tp.nz{n:K}(h:Tp f n):Nz f:=⟨n,h.1⟩
def Tp.fs{n:K}(h:Tp f n):Fs f:=⟨n+1,λk c=>h.2 k W⟩
def Nz.mul{f g:S}(c:Fs f)(d:Fs g)(e:Nz f)(h:Nz g):Nz (f*g):=by
 have⟨n,hn⟩:=Tp.ex c e;have⟨m,i⟩:=Tp.ex d h;exact(hn.mul i).nz
def C5(d:Fs f)(e:Fs g)(fq:Fs q)(i:Nz q)(h:f*q=g*q):f=g:=by
 by_cases c:Nz (f-g)
 ·have h1:=Nz.mul (d.subt e) fq c i;have⟨k,j⟩:=h1;rw[qp,h,yx]at j;lia
 ·funext k;have:=Nz.not c k;rw[yx]at this;lia
def zcL{c:J}(hc:c≠0)(h:F c*f=F c*g):f=g:=qR λk=>by
 have:=Wf h k;rw[zP,zP]at this;exact Int.eq_of_mul_eq_mul_left hc this
def Zd(u v:S):Prop:=∃q:S,Fs q/\v=q*u
def Zd.refl(u:S):Zd u u:=⟨F 1,Fs.pc 1,(zw u).symm⟩
def Zd.trans(h:Zd u v)(g:Zd v w):Zd u w:=by
 obtain⟨q,fq,rfl⟩:=h;obtain⟨r,fr,rfl⟩:=g;exact⟨r*q,fr.mul fq,(zd r q u).symm⟩
def Zd.add{u v w:S}(h:Zd u v)(g:Zd u w):Zd u (v+w):=by
 obtain⟨q,fq,rfl⟩:=h;obtain⟨r,fr,rfl⟩:=g;exact⟨q+r,fq.add fr,(yF q r u).symm⟩
def Zd.sub(h:Zd u v)(g:Zd u w):Zd u (v-w):=by
 obtain⟨q,fq,rfl⟩:=h;obtain⟨r,fr,rfl⟩:=g;exact⟨q-r,fq.subt fr,(qp q r u).symm⟩
def Zd.mul{u v:S}(w:S)(c:Fs w)(h:Zd u v):Zd u (w*v):=by
 obtain⟨q,fq,rfl⟩:=h;exact⟨w*q,c.mul fq,(zd w q u).symm⟩
def Zd.left(c:Fs v):Zd u (u*v):=⟨v,c,zk u v⟩
def Pm(f:S):Prop:=∀d:K,(∀k,(d:J)∣f k)->d=1
def Pm.nz(h:Pm f):Nz f:=xae λhn=>wR (h 0 λk=>by rw[Nz.not hn k];exact xdE _) gS
def zo0:∀(n d:K),d<=n->2<=d->∃P,2<=P/\jx P/\P∣d
 |0,d,h,i=>by lia
 |n+1,d,h,i=>by
  by_cases hd:jx d
  ·exact⟨d,i,hd,Nat.dvd_refl d⟩
  ·have:∃e,2<=e/\e*e<=d/\d%e=0:=xae λhn=>hd λe e1 j c=>hn ⟨e,e1,j,c⟩;have⟨e,e1,j,c⟩:=this;have p:e<d:=by
    have:e*2<=e*e:=xaD e e1;lia
   have⟨P,k,l,o⟩:=zo0 n e W e1;exact⟨P,k,l,Nat.dvd_trans o<|Nat.dvd_of_mod_eq_zero c⟩
theorem zkE{Q:K->Prop}(h:∃i,Q i):∃i,Q i/\∀k,k<i->¬Q k:=by
 have⟨i,hi⟩:=h
 induction i using xdz with
 |ind i c=>
  by_cases hc:∃k,k<i/\Q k
  ·grind
  ·grind
def Gh{P:K}(hp:2<=P)(hn:jx P){f g:S}{i:K}(hi:¬(P:J)∣f i)(c:∀k,k<i->(P:J)∣f k)(h:∀k,(P:J)∣(f*g) k):∀n j,j<n->(P:J)∣g j
 |0,j,d=>wR d<|xbn _
 |n+1,j,d=>by
  have p:=Gh hp hn hi c h n;by_cases hd:j<n
  ·simp_all
  ·have e:(P:J)∣yi (i+j+1) (λa=>f a*g (i+j-a))-f i*g (i+j-i):=CQ (m:=(P:J)) (f:=λa=>f a*g (i+j-a)) (n:=i+j+1) (j:=i) W λk r s=>by
    show(P:J)∣f k*g (i+j-k);by_cases hc:k<i
    ·exact xbp (c k hc)<|xcc _ _
    ·exact xbp (p _ W)<|xcx _ _
   have l:=h<|i+j;rw[wM]at l;rw[(W:i+j-i=j)]at e;have o:=xdw l e;rw[show∀x y:J,x-(x-y)=y by intro x y;lia]at o;obtain h5|h5:=HG hp hn o
   ·lia
   ·exact h5
def zp8{P:K}(hp:2<=P)(hn:jx P)(h:∀k,(P:J)∣(f*g) k):(∀k,(P:J)∣f k)\/∀k,(P:J)∣g k:=by
 by_cases c:∀k,(P:J)∣f k
 ·simp_all
 ·have⟨i,h1,d⟩:=zkE<|Classical.not_forall.1 c;exact .inr λk=>Gh hp hn h1 (λk e=>Classical.not_not.1<|d k e) h (k+1) k<|xbS k
def Pm.mul(c:Pm f)(i:Pm g):Pm (f*g):=λd hd=>by
 by_cases h1:d=1
 ·exact h1
 ·have:∃P,2<=P/\jx P/\P∣d:=by
   by_cases h0:d=0
   ·exact⟨2,gS,λe e1 o=>by have:2*2<=e*e:=xbo e1 e1;lia,by rw[h0];exact⟨0,O⟩⟩
   ·exact zo0 d d (Nm d) W
  have⟨P,j,l,n⟩:=this;rcases zp8 j l λk=>xbp (xcF.2 n) (hd k)with h|h
  ·have:=c P h;lia
  ·have:=i P h;lia
def Pm.left(h:Pm (u*v)):Pm u:=λd hd=>h d λk=>by
 exact dE λi _=>xbp (hd i)<|xcc _ _
def H5{f:K->J}{d:K}:∀n,(∀k,k<n->d∣(f k).natAbs)->d∣XD f n
 |0,_=>⟨0,O⟩
 |n+1,h=>Nat.dvd_gcd (H5 n λk c=>h k W)<|h n W
def Pv{f:K->J}{c g:K}:∀n,(∀k,k<n->c∣g*(f k).natAbs)->c∣g*XD f n
 |0,_=>⟨0,O⟩
 |n+1,h=>by
  show c∣g*xdq (XD f n) (f n).natAbs;rw[<-Nat.gcd_mul_left];exact Nat.dvd_gcd (Pv n λk d=>h k W)<|h n W
def nH{n:K}(h:∀k,n<=k->f k=0)(k:K):((XD f n:K):J)∣f k:=by
 by_cases c:k<n
 ·exact xcq.1<|by skip;exact CX f n k c
 ·simp_all
def Pm.ex(p:Fs f)(h0:Nz f):∃(c:K) (g:S),c≠0/\Fs g/\Pm g/\f=F c*g:=by
 have⟨n,hn⟩:=p;have h:=nH hn;have⟨c,hc⟩:∃c,c=XD f n:=⟨_,O⟩;rw[<-hc]at h;have r:c≠0:=λe=>by
  have⟨j,t⟩:=h0;have:=h j;rw[e]at this;lia
 have i:=Me<|Cg.of_dvd h;refine⟨c,pdv c f,r,IZ ⟨n,hn⟩,λd hd=> ?_,i.symm⟩;have h1:=H5 n λk _=>by
  have l:=Wf i k;rw[zP]at l;have o:=xfT (xed c)<|hd k;rw[l]at o;have x:=xcq.2 o;assumption
 rw[<-hc]at h1;have s:c*d∣c*1:=by rw[xdU];exact h1
 exact Nat.dvd_one.1<|Nat.dvd_of_mul_dvd_mul_left W s
def zo4{c:J}(fq:Fs q)(e:Pm q)(i:Fs w)(h:∀k,c∣(w*q) k)(k:K):c∣w k:=by
 by_cases h0:Nz w
 ·obtain⟨g,v,g0,j,hv,rfl⟩:=Pm.ex i h0;have⟨n,hn⟩:=j.mul fq;have l:=(hv.mul e) _<|nH hn;have d:=Pv n λk _=>by
   have:=xcq.2<|h k;rw[zd,zP,xcC,xbh]at this;exact this
  rw[l,xdU]at d;rw[zP];have o:c∣g:=xcq.1 (by skip;exact d);exact xbp o<|xcc _ _
 ·rw[Nz.not h0 k];exact xdE c
def Zd.pm{c:J}(fq:Fs q)(i:Pm q)(hc:c≠0)(h:Zd q (F c*v)):Zd q v:=by
 have⟨w,d,e⟩:=h;have h1:=zo4 fq i d λk=>by rw[<-e,zP];exact xcc _ _
 have j:=Me<|Cg.of_dvd h1;refine⟨pdv c w,IZ d,zcL hc ?_⟩;rw[e,<-zd,j]
theorem zdR{b:S}{m:K}(d:Tp b m):∀(n:K) (a:S),(∀k,n<=k->a k=0)->∃(c:J) (q r:S),c≠0/\Fs q/\(∀k,m<=k->r k=0)/\F c*a=q*b+r
 |0,a,h=>⟨1,F 0,F 0,gS,Fs.pc 0,λk _=>zJ k,qR λk=>by rw[zK,yf,zJ,zP,h k W];rfl⟩
 |n+1,a,h=>by
  by_cases hn:n+1<=m
  ·exact⟨1,F 0,a,gS,Fs.pc 0,λk i=>h k W,qR λk=>by rw[zK,yf,zJ,xcE,zw]⟩
  ·have⟨c,q,r,hc,fq,l,j⟩:=zdR d n (F (b m)*a-mono (n-m) (a n)*b) λk i=>by
    rw[yx,jj,zP];unfold sh;rw[zT];by_cases e:k=n
    ·grind
    ·rw[h k W,d.2 (k-(n-m)) W];lia
   refine⟨c*b m,q+F c*mono (n-m) (a n),r,xcG hc d.1,fq.add<|(Fs.pc c).mul ⟨n+1,λk i=>zB⟩,l,?_⟩;rw[yF,<-qf,zd (F c) (F<|b m) a,zd (F c) _ b];rw[wm]at j;funext k;have:=Wf j k;simp only[zK,yx]at this⊢;lia
def zkn(c:Nz a)(e:∀k,b k=0):∃(d s t:S) (α β:J),Nz d/\Fs s/\Fs t/\d=s*a+t*b/\α≠0/\β≠0/\Zd d (F α*a)/\Zd d (F β*b):=
 ⟨a,F 1,F 0,1,1,c,Fs.pc 1,Fs.pc 0,qR λk=>by rw[zK,zw,yf,zJ,xbZ],gS,gS,⟨F 1,Fs.pc 1,O⟩,⟨F 0,Fs.pc 0,qR λk=>by rw[zP,e k,yf,zJ];rfl⟩⟩
def zpN:∀(n:K) (a b:S),Fs a->Nz a->(∀k,n<=k->b k=0)->∃(d s t:S) (α β:J),Nz d/\Fs s/\Fs t/\d=s*a+t*b/\α≠0/\β≠0/\Zd d (F α*a)/\Zd d (F β*b):=by
 intro n
 induction n with
 |zero=>intro a b p l j;exact zkn l λk=>j k<|xai k
 |succ n B=>
  intro a b p l j;by_cases nb:Nz b
  ·have x:Fs b:=⟨n+1,j⟩;have⟨m,y⟩:=Tp.ex x nb;have L:m<=n:=by
    by_cases h:m<=n
    ·exact h
    ·exact wR (j m W) y.1
   have⟨N,C⟩:=p;have⟨c,q,r,hc,fq,D,z⟩:=zdR y N a C;have⟨d,s,t,α,β,E,fs,A,hd,i,o,h1,G⟩:=B b r x nb λk M=>D k W;have H:r=F c*a-q*b:=qR λk=>by
    have:=Wf z k;simp only[zK,yx]at this⊢;lia
   refine⟨d,t*F c,s-t*q,α*β*c,α,E,A.mul<|Fs.pc c,fs.subt<|A.mul fq,?_,xcG (xcG i o) hc,i,?_,h1⟩
   ·rw[hd,H,wm,qp,<-zd,<-zd];funext k;simp only[zK,yx];lia
   ·have e:F (α*β*c)*a=(F β*q)*(F α*b)+F α*(F β*r):=by rw[<-qf (α*β) c,zd (F<|α*β) (F c) a,z,xH,<-qf α β,zd (F β) q,zC q (F α) b,zC (F β)<|F α,zd (F α)<|F β,zd (F α)<|F β]
    rw[e];exact(h1.mul _<|(Fs.pc β).mul fq).add<|G.mul _<|Fs.pc α
  ·exact zkn l<|Nz.not nb
def zkH(k:Fs a)(r:Nz a)(x:Fs b):∃(g s t:S) (γ:J),Fs g/\Pm g/\Fs s/\Fs t/\γ≠0/\F γ*g=s*a+t*b/\Zd g a/\Zd g b:=by
 have⟨n,hn⟩:=x;have⟨d,s,t,α,β,y,fs,l,hd,e,h,h1,z⟩:=zpN n a b k r hn;have A:Fs d:=by rw[hd];exact(fs.mul k).add<|l.mul ⟨n,hn⟩
 have⟨c,g,hc,i,j,o⟩:=Pm.ex A y;have p:Zd g d:=⟨F c,Fs.pc c,o⟩;exact⟨g,s,t,c,i,j,fs,l,W,o.symm.trans hd,Zd.pm i j e<|p.trans h1,Zd.pm i j h<|p.trans z⟩
def KC(u:S):Prop:=∀k,1<=k->u k=0
def KC.ex(h:KC u):∃c,u=F c:=⟨u 0,qR λk=>by
 unfold F;by_cases e:k=0
 ·simp_all
 ·rw[ir e];exact h k W⟩
def KC.pc(c:J):KC (F c):=λk d=>by unfold Go.Proofs.YtoegnnjcmlghhaaGreat.pc;rw[zB]
def DT{c:J}(h:Pm (F c)):c=1\/c= -1:=by
 have h1:=h c.natAbs λk=>by
  unfold F;split
  ·exact Int.natAbs_dvd.2<|xed _
  ·simp_all
 lia
structure Ir(q:S):Prop where
 fs:Fs q
 pm:Pm q
 dg:¬KC q
 ir:∀u v,Fs u->Fs v->q=u*v->KC u\/KC v
def Ir.prime(d:Ir q)(fu:Fs u)(k:Fs v)(h:Zd q (u*v)):Zd q u\/Zd q v:=by
 have⟨g,s,t,γ,l,n,fs,o,i,p,⟨w,r,j⟩,x,fx,y⟩:=zkH d.fs d.pm.nz fu;obtain hc|hc:=d.ir w g r l j
 ·left;obtain⟨c,rfl⟩:=hc.ex;have z:=(j▸d.pm:Pm (F c*g)).left;refine⟨x*F c,fx.mul<|Fs.pc c,?_⟩;have hd:c*c=1:=by obtain e|e:=DT z<;>rw[e]<;>rfl
  rw[j,zd,<-zd (F c) (F c) g,qf,hd,zw,y]
 ·right;obtain⟨c,rfl⟩:=hc.ex;have A:c≠0:=λe=>by
   have:=DT n;lia
  refine Zd.pm d.fs d.pm (xcG i A) ?_;rw[<-qf,p,yF];refine Zd.add ⟨s*v,fs.mul k,?_⟩ ?_
  ·rw[zd,zd,zk q v]
  ·rw[zd];exact h.mul t o
def Po(q:S):Prop:=∃n,0<q n/\∀k,n<k->q k=0
def Po.tp(h:Po q):∃n,Tp q n/\0<q n:=by
 have⟨n,h1,c⟩:=h;exact⟨n,⟨W,c⟩,h1⟩
def Ir.eq{r:S}(i:Ir q)(j:Ir r)(o:Po q)(pr:Po r)(h:Zd q r):q=r:=by
 have⟨w,p,d⟩:=h;obtain hc|hc:=j.ir w q p i.fs d
 ·obtain⟨c,rfl⟩:=hc.ex;have s:=(d▸j.pm:Pm (F c*q)).left;obtain e|e:=DT s
  ·rw[d,e,zw]
  ·have⟨n,h1,z⟩:=o.tp;have⟨m,t,x⟩:=pr.tp;have l:Tp (F c*q) n:=⟨by rw[zP,e];lia,λk y=>by rw[zP,h1.2 k y,xaz]⟩;rw[<-d]at l;obtain rfl:=l.uniq t;rw[d,zP,e]at x;lia
 ·exact wR hc i.dg
def KC.tp{n:K}(h:Tp u n):KC u↔n=0:=⟨λhc=>xae λe=>h.1 (hc n W),λe k c=>h.2 k W⟩
def Po.or(fu:Fs u)(h:Nz u):Po u\/Po (F (-1)*u):=by
 have⟨n,hn⟩:=Tp.ex fu h;have:=hn.1;by_cases hp:0<u n
 ·exact .inl ⟨n,hp,hn.2⟩
 ·exact .inr ⟨n,by rw[zP];lia,λk c=>by rw[zP,hn.2 k c,xaz]⟩
def Pm.neg(h:Pm u):Pm (F (-1)*u):=λd hd=>h d λk=>by
 have:=hd k;rw[zP]at this;simp_all
def Ir.neg{u:S}(h:Ir u):Ir (F (-1)*u):=by
 refine⟨(Fs.pc _).mul h.fs,h.pm.neg,λhc=>h.dg λk c=> ?_,λa b d i e=> ?_⟩
 ·have:=hc k c;rw[zP]at this;lia
 ·have:u=(F (-1)*a)*b:=by
   rw[zd,<-e,<-zd,qf];exact(zw u).symm
  rcases h.ir _ b ((Fs.pc _).mul d) i this with hc|hc
  ·left;intro k c;have:=hc k c;rw[zP]at this;lia
  ·simp_all
def Ir.ex:∀(n:K) {f:S}{m:K},m<=n->Tp f m->Pm f->1<=m->∃q,Ir q/\Po q/\Zd q f
 |0,f,m,h,_,_,h1=>by lia
 |n+1,f,m,h,d,hp,h1=>by
  by_cases hi:Ir f
  ·obtain h2|h2:=Po.or hi.fs hp.nz
   ·exact⟨f,hi,h2,Zd.refl f⟩
   ·refine⟨_,hi.neg,h2,F (-1),Fs.pc _,?_⟩;rw[<-zd,qf];exact(zw f).symm
  ·have:∃u v,Fs u/\Fs v/\f=u*v/\¬KC u/\¬KC v:=xae λhn=>hi ⟨d.fs,hp,λhc=>by have:=(KC.tp d).1 hc;lia,λu v fu c e=>xae λhc=>hn ⟨u,v,fu,c,e,λh=>hc (.inl h),λh=>hc (.inr h)⟩⟩;have⟨u,v,fu,c,e,o,cv⟩:=this;have k:=(e▸hp:Pm (u*v)).left;have hv:Pm v:=by rw[e,zk]at hp;exact hp.left
   have⟨a,i⟩:=Tp.ex fu k.nz;have⟨b,l⟩:=Tp.ex c hv.nz;have j:=(i.mul l);rw[<-e]at j;have j:=j.uniq d;have hd:b≠0:=λh=>cv<|(KC.tp l).2 h;have r:a≠0:=λh=>o<|(KC.tp i).2 h;have⟨q,q1,q2,p⟩:=Ir.ex n W i k W;exact⟨q,q1,q2,p.trans<|by rw[e];exact Zd.left c⟩
end
section
variable{q f:Pz}{m:wr}{l:xS (xS Zr×wl)}{a b:xS Zr}
def Pm.one:Pm (F 1):=λd hd=>by
 have:=hd 0;exact Nat.dvd_one.1<|xcF.1 this
def Pm.pp{q:S}(h:Pm q):∀n,Pm (pp q n)
 |0=>Pm.one
 |n+1=>(Pm.pp h n).mul h
def Po.one:Po (F 1):=⟨0,gS,λk c=>by unfold F;rw[zB]⟩
def Ir.one(h:Ir q):¬Zd q (F 1):=λ⟨w,d,e⟩=>by
 have⟨a,c⟩:=Tp.ex h.fs h.pm.nz;have g:Nz w:=xae λhn=>by
  have:=Wf e 0;rw[wM,yT λk _=>by rw[Nz.not hn k,xba]]at this;exact wR this gS
 have⟨b,i⟩:=Tp.ex d g;have h1:=i.mul c;rw[<-e]at h1;have j:=h1.uniq (m:=0) ⟨gS,λk n=>by unfold F;rw[zB]⟩;exact h.dg<|(KC.tp c).2 W
def Mu(q f:S)(n:K):Prop:=∃u,Fs u/\f=u*pp q n/\¬Zd q u
def Mu.ex{q:S}(c:Ir q)(m:K):∀{f:S},Tp f m->∃n,n<=m/\Mu q f n:=by
 induction m using xdz with
 |ind m j=>
  intro f d;by_cases hd:Zd q f
  ·have⟨u,fu,e⟩:=hd;have o:Nz u:=xae λhn=>by
    refine d.1 ?_;rw[e,wM,yT λk _=>by rw[Nz.not hn k,xba]]
   have⟨a,g⟩:=Tp.ex fu o;have⟨b,i⟩:=Tp.ex c.fs c.pm.nz;have h1:=g.mul i;rw[<-e]at h1;have h1:=h1.uniq d;have hc:b≠0:=λh=>c.dg<|(KC.tp i).2 h;have⟨n,hn,v,p,r,hv⟩:=j a W g;refine⟨n+1,W,v,p,?_,hv⟩;show f=v*(pp q n*q);rw[e,r,zd]
  ·exact⟨0,xai m,f,d.fs,(ye f).symm,hd⟩
theorem Mu.mul{q f g:S}{n m:K}(d:Ir q)(e:Mu q f n)(i:Mu q g m):Mu q (f*g) (n+m):=by
 obtain⟨u,fu,rfl,j⟩:=e;obtain⟨v,c,rfl,hv⟩:=i;refine⟨u*v,fu.mul c,?_,λh=> ?_⟩
 ·rw[Ed,zd,zd,zC<|pp q n]
 ·obtain h|h:=d.prime fu c h
  ·grind
  ·grind
def Mu.lt{n:K}(c:Ir q)(h:Mu q f n)(g:Mu q f m):¬n<m:=λk=>by
 have⟨u,fu,e1,i⟩:=h;have⟨v,e,j,hv⟩:=g;obtain⟨d,rfl⟩:∃d,m=d+1+n:=⟨m-1-n,W⟩;refine i ⟨v*pp q d,e.mul<|c.fs.pp d,?_⟩;refine C5 fu ((e.mul<|c.fs.pp d).mul c.fs) (c.fs.pp n) (c.pm.pp n).nz ?_;rw[<-e1,j,Ed,zd<|v*pp q d,zd v];show v*(pp q d*q*pp q n)=_;rw[zd<|pp q d]
def Mu.uniq{n:K}(c:Ir q)(h:Mu q f n)(g:Mu q f m):n=m:=by
 have:=h.lt c g;have:=g.lt c h;lia
def Mu.zero(c:Fs f)(h:¬Zd q f):Mu q f 0:=⟨f,c,(ye f).symm,h⟩
def Mu.dvd{n:K}(c:Fs q)(h:Mu q f n)(hn:1<=n):Zd q f:=by
 obtain⟨u,fu,rfl,_⟩:=h;obtain⟨k,rfl⟩:∃k,n=k+1:=⟨n-1,W⟩;exact⟨u*pp q k,fu.mul<|c.pp k,by rw[zd];rfl⟩
def Mu.self(c:Ir q)(n:K):Mu q (pp q n) n:=⟨F 1,Fs.pc 1,(zw _).symm,c.one⟩
def Ir.pp{q r:S}(c:Ir q)(d:Fs r):∀n,Zd q (pp r n)->Zd q r
 |0,h=>wR h c.one
 |n+1,h=>by
  rcases c.prime (d.pp n) d h with h|h
  ·exact Ir.pp c d n h
  ·exact h
theorem Ir.prz{q:S}(d:Ir q):∀{l:N S},(∀r∈l,Fs r)->Zd q (prZ l)->∃r,r∈l/\Zd q r
 |[],_,h=>wR h d.one
 |r::l,hl,h=>by
  rcases d.prime (hl r<|FS) (Fs.prZ λx c=>hl x<|UV _ c) h with h|h
  ·simp_all
  ·have⟨x,c,h⟩:=Ir.prz d (λx c=>hl x<|UV _ c) h;grind
def prM:N (S×K)->S
 |[]=>F 1
 |x::r=>pp x.1 x.2*prM r
def L8:∀{l:N (S×K)},(∀x∈l,Fs x.1)->Fs (prM l)
 |[],_=>Fs.pc 1
 |x::r,h=>((h x<|FS).pp _).mul<|L8 λy c=>h y<|UV _ c
def zgh{q:S}(c:Ir q)(e:Po q):∀{l:N (S×K)},(∀x∈l,Ir x.1/\Po x.1/\q≠x.1)->¬Zd q (prM l)
 |[],_,h=>c.one h
 |x::r,hl,h=>by
  have⟨h1,i,j⟩:=hl x<|FS;have g:=λy d=>hl y<|UV _ d;rcases c.prime (h1.fs.pp _) (L8 λy d=>(g y d).1.fs) h with h|h
  ·exact j<|c.eq h1 e i<|c.pp h1.fs _ h
  ·exact zgh c e g h
def mus{f:S}(d:Fs f)(g:Nz f):∀{l:N (S×K)},l.Pairwise (λx y=>x.1≠y.1)->(∀x∈l,Ir x.1/\Po x.1/\Mu x.1 f x.2)->∃u,Fs u/\f=u*prM l/\∀x∈l,¬Zd x.1 u
 |[],_,_=>⟨f,d,(ye f).symm,λ_ h=>wR h IR⟩
 |x::r,hp,h=>by
  have⟨h1,o,p⟩:=h x<|FS;rw[xbQ]at hp;have c:=λy hy=>h y<|UV _ hy;have⟨u,fu,e,s⟩:=mus d g hp.2 c;have t:Nz u:=xae λhn=>by
   have⟨k,v⟩:=g;rw[e,wM,yT λk _=>by rw[Nz.not hn k,xba]]at v;lia
  have⟨m,z⟩:=Tp.ex fu t;have⟨n,_,hn⟩:=Mu.ex h1 m z;have A:=Mu.zero (L8 λy hy=>(c y hy).1.fs)<|zgh h1 o λy hy=>⟨(c y hy).1,(c y hy).2.1,hp.1 y hy⟩;have i:=hn.mul h1 A;rw[<-e]at i;obtain rfl:n=x.2:=(i.uniq h1 p);have⟨w,B,j,C⟩:=hn;refine⟨w,B,?_,λy hy=> ?_⟩
  ·show f=w*(pp x.1 x.2*prM r);rw[<-zd,<-j,e]
  ·obtain rfl|hy:=xaa.1 hy
   ·exact C
   ·exact λD=>s y hy<|by rw[j,zk];exact D.mul _<|h1.fs.pp _
theorem ziJ(o:Fs f)(j:Nz f){l:N (S×K)}(hp:l.Pairwise λx y=>x.1≠y.1)(h:∀x∈l,Ir x.1/\Po x.1/\Mu x.1 f x.2)(p:∀q,Ir q->Po q->Zd q f->∃x∈l,x.1=q):∃c,c≠0/\f=F c*prM l:=by
 have⟨u,fu,e,A⟩:=mus o j hp h;have r:Nz u:=xae λhn=>by
  have⟨k,s⟩:=j;rw[e,wM,yT λk _=>by rw[Nz.not hn k,xba]]at s;lia
 obtain⟨c,g,hc,t,i,rfl⟩:=Pm.ex fu r;have⟨m,n⟩:=Tp.ex t i.nz;by_cases h1:1<=m
 ·have⟨q,q1,q2,v⟩:=Ir.ex m (Nm m) n i h1;have w:Zd q (F c*g):=v.mul _<|Fs.pc _;obtain⟨x,B,rfl⟩:=p q q1 q2 (by rw[e,zk];exact w.mul _<|L8 λy z=>(h y z).1.fs);grind
 ·obtain⟨d,rfl⟩:=((KC.tp n).2 W).ex;refine⟨c*d,xcG W ?_,by rw[e,qf]⟩;have:=DT i;lia
def tV(f g:K->J):K->J
 |0=>0
 |n+1=>if f n=g n then tV f g n else if f n<g n then-1 else 1
theorem OC(f g:K->J):∀n,tV g f n= -tV f g n
 |0=>rfl
 |n+1=>by
  unfold tV;by_cases h:f n=g n
  ·rw[iq h,iq h.symm];exact OC f g n
  ·lia
theorem NJ(f g:K->J):∀n,tV f g n=0->∀k,k<n->f k=g k
 |0,_,k,h=>wR h<|xbn _
 |n+1,h,k,c=>by
  unfold tV at h;by_cases h1:f n=g n
  ·rw[iq h1]at h;by_cases e:k=n
   ·grind
   ·exact NJ f g n h k W
  ·lia
def GD(f g h:K->J):∀n,tV f g n<=0->tV g h n<=0->tV f h n<=0
 |0,_,_=>xfy 0
 |n+1,h1,c=>by
  unfold tV at h1 c⊢;by_cases e1:f n=g n
  ·rw[iq e1]at h1;by_cases d:g n=h n
   ·rw[iq d]at c;rw[iq<|e1.trans d];exact GD f g h n h1 c
   ·lia
  ·lia
def qi(a b:N M):J:=if X a=X b then tV (G a) (G b) (X a) else if X a<X b then-1 else 1
theorem kG(a b:N M):qi b a= -qi a b:=by grind [qi,OC]
def Bw{c:N M}(h1:qi a b<=0)(d:qi b c<=0):qi a c<=0:=by
 unfold qi at h1 d⊢;by_cases e1:X a=X b
 ·rw[iq e1]at h1;by_cases e:X b=X c
  ·rw[iq e,<-e1]at d;rw[iq<|e1.trans e];exact GD _ _ _ _ h1 d
  ·lia
 ·lia
def Jy(d:zQ a=a)(e:zQ b=b)(h:∀k,G a k=G b k):a=b:=by
 rw[<-d,<-e];exact YM (λk c=>zW c) (λk c=>zW c) h
def pT(c:zQ a=a)(d:zQ b=b)(h:qi a b=0):a=b:=by
 unfold qi at h;by_cases e:X a=X b
 ·rw[iq e]at h;have h1:=NJ _ _ _ h;refine Jy c d λk=> ?_;by_cases g:k<X a
  ·simp_all
  ·rw[zW W,zW W]
 ·lia
theorem Cw{α:Type}{R:α->α->Prop}(g:∀x y,R x y->¬R y x):∀{l m:N α},l.Pairwise R->m.Pairwise R->(∀x,x∈l↔x∈m)->l=m
 |[],[],_,_,_=>rfl
 |[],y::m,_,_,h=>wR ((h y).2<|FS) IR
 |x::l,[],_,_,h=>wR ((h x).1<|FS) IR
 |x::l,y::m,hl,d,h=>by
  rw[xbQ]at hl d;have e:x=y:=by
   rcases xaa.1 ((h x).1<|FS)with e|e
   ·exact e
   ·rcases xaa.1 ((h y).2<|FS)with e2|e2
    ·simp_all
    ·grind
  subst e;rw[Cw g hl.2 d.2 λz=>⟨λc=>by
   rcases xaa.1 ((h z).1<|UV _ c)with e|e
   ·grind
   ·exact e,λc=>by
   rcases xaa.1 ((h z).2<|UV _ c)with e|e
   ·grind
   ·exact e⟩]
structure FL(f:S)(l:N (N M×J)):Prop where
 el:∀x∈l,zQ x.1=x.1/\Ir (G x.1)/\Po (G x.1)/\1<=x.2/\Mu (G x.1) f x.2.toNat
 al:∀q,Ir q->Po q->Zd q f->∃x∈l,G x.1=q
 so:l.Pairwise λx y=>qi x.1 y.1<0
theorem FL.sub{m:N (N M×J)}(h:FL f l)(g:FL f m){x:N M×J}(j:x∈l):x∈m:=by
 have⟨h1,c,n,p,d⟩:=h.el x j;have⟨y,o,e⟩:=g.al _ c n (d.dvd c.fs W);have⟨g1,r,s,t,i⟩:=g.el y o;have e1:=Jy g1 h1 λk=>Wf e k;rw[e1]at i;have u:=i.uniq c d;grind
def FL.uniq{m:N (N M×J)}(h:FL f l)(g:FL f m):l=m:=
 Cw (λx y h1 d=>by rw[kG]at d;lia) h.so g.so λx=>⟨λc=>h.sub g c,λc=>g.sub h c⟩
end
section
variable{a b k:wr}{p:wl}{f u v g q:Pz}
def zj6{A B:S}{d e:K}(c:Mn A d)(h:Mn B e):Mn (A*B) (d+e):=
 ⟨by rw[Vz c.2 h.2,c.1,h.1];rfl,λk l=>kL (n:=d+1) (m:=e+1) (λj i=>c.2 j W)<|λj i=>h.2 j W⟩
def zdT:∀{l:N S},(∀A∈l,∃d,Mn A d)->∃d,Mn (prZ l) d
 |[],_=>⟨0,O,λk j=>by show F 1 k=0;unfold F;rw[zB]⟩
 |A::l,h=>by
  have⟨d,hd⟩:=h A<|FS;have⟨e,c⟩:=zdT λB i=>h B<|UV _ i;exact⟨d+e,zj6 hd c⟩
def iQ{α:Type}(F:α->S)(P:α->wW):∀l:N α,prZ (l.map F)=prZ ((l.filter P).map F)*prZ ((l.filter λx=> !P x).map F)
 |[]=>(ye _).symm
 |x::l=>by
  have c:=iQ F P l
  cases h:P x with
  |true=>
   rw[xfm h,xfn<|by rw[h];decide];show F x*_=F x*_*_;rw[c,zd]
  |false=>
   rw[xfn (by rw[h];decide),xfm<|by rw[h];rfl];show F x*_=_*(F x*_);rw[c,zC]
def Ta{P:J}(hp:vF P=wF){a b:S}{c:J}(s:Fs a)(t:Fs b)(h:Cg P (a*b) (F c))(hc:¬P∣c):∃x,Cg P a (F x):=by
 have⟨E,G⟩:=zz hp;obtain⟨Q,rfl⟩:=xaA (W:0<=P);have l:=XW hp;rw[xbc]at l;have d:∀f:S,Fs f->¬Cg (Q:J) f (F 0)->∃g n,Tp g n/\Cg (Q:J) g f/\¬(Q:J)∣g n:=λf w hn=>by
  have f2:Fs (λk=>f k%(Q:J)):=by
   have⟨n,hn⟩:=w;exact⟨n,λk y=>by show f k%_=0;rw[hn k y,xas]⟩
  have⟨n,h1⟩:=Tp.ex f2 (xae λz=>hn λk=>by
   have:=Nz.not z k;rw[zJ,xas];exact this)
  exact⟨_,n,h1,λk=>xaT _ _,λhd=>h1.1 (by
   show f n%_=0;have:=xaw hd;rwa[xaT]at this)⟩
 have A:¬Cg (Q:J) a (F 0):=λe=>hc (by
  have:=(h.symm.trans<|e.mul_zero_r b).dvd 0;unfold F at this;rwa[iq O]at this)
 have B:¬Cg (Q:J) b (F 0):=λe=>hc (by
  have:=(h.symm.trans<|e.mul_zero_l a).dvd 0;unfold F at this;rwa[iq O]at this)
 have⟨u,i,m,o,H⟩:=d a s A;have⟨v,j,v1,C,v3⟩:=d b t B;have h1:=(o.mul C).trans h;by_cases D:i=0
 ·subst D;obtain⟨x,rfl⟩:=((KC.tp m).2 O).ex;exact⟨x,o.symm⟩
 ·exfalso;have r:=h1<|i+j;rw[Vz m.2 v1.2,show F c (i+j)=0 from zB,xas]at r;rcases HG W l (xaB r)with h3|h3
  ·lia
  ·exact v3 h3
theorem o7{p a:J}(hp:vF p=wF)(d:a%p≠0):∀k,∃w,p^k∣w*a-1
 |0=>⟨0,by rw[xcl];exact Int.one_dvd _⟩
 |k+1=>by
  have⟨l,m⟩:=zz hp;by_cases i:k=0
  ·subst i;obtain⟨Q,rfl⟩:=xaA (W:0<=p);have⟨w,c⟩:=L9 hp λh=>d<|xaw h;grind
  ·have⟨w,c⟩:=o7 hp d k;refine⟨w*(2-w*a),?_⟩;have e:w*(2-w*a)*a-1= -((w*a-1)*(w*a-1)):=by grind
   rw[e];refine Int.dvd_neg.2<|xbp (eF (j:=k+k)) ?_;rw[Int.pow_add];exact xfT c c
abbrev Lx:=N M×N J
def pu(xs:N Lx):S:=prZ<|xs.map λx=>(G x.1:S)
def pl(xs:N Lx):S:=prZ<|xs.map λx=>(C x.2:S)
def zkA(xs:N Lx):Fs (pu xs):=Fs.prZ λf c=>by
 obtain⟨x,_,rfl⟩:=xat.1 c;exact Fs.cf _
def znK(xs:N Lx):Fs (pl xs):=Fs.prZ λf c=>by
 obtain⟨x,_,rfl⟩:=xat.1 c;exact Fs.ci _
structure Lc(p:J)(k:K)(f:S)(n:K)(xs:N Lx):Prop where
 hp:vF p=wF
 k1:1<=k
 el:∀x∈xs,Up p k x.1 x.2/\VT p x.2/\x.2.length<=66
 pw:xs.Pairwise λa b=>jF p (C a.2)<|C b.2
 tp:Tp f n
 nb:n<=64
 ps:0<f n
 lc:f n%p≠0
 pm:Pm f
 cg:Cg (p^k) f (F (f n)*pu xs)
def zn9{x:Lx}(h:Up p k x.1 x.2/\VT p x.2/\X x.2<=66):Mn (G x.1) (X x.2-1):=by
 have⟨h1,d,_⟩:=h;have c:=h1.top;rw[h1.len]at c;exact⟨c,λj e=>zW<|by rw[h1.len];lia⟩
def NN{p:J}{k:K}:∀{xs:N Lx},(∀x∈xs,Up p k x.1 x.2/\VT p x.2/\X x.2<=66)->Cg p (pu xs) (pl xs)
 |[],_=>Cg.rfl
 |x::xs,h=>(h x<|FS).1.cg.mul<|NN λy c=>h y<|UV _ c
def zpe{xs:N Lx}(h:∀x∈xs,Up p k x.1 x.2/\VT p x.2/\X x.2<=66):∃d,Mn (pu xs) d:=zdT λA c=>by
 obtain⟨x,e,rfl⟩:=xat.1 c;exact⟨_,zn9<|h x e⟩
def zeY{xs:N Lx}(h:∀x∈xs,Up p k x.1 x.2/\VT p x.2/\X x.2<=66):∃d,Mn (pl xs) d:=zdT λA c=>by
 obtain⟨x,e,rfl⟩:=xat.1 c;exact⟨_,(h x e).2.1.mn.mn⟩
def Lc.lcp{n:K}{xs:N Lx}(h:Lc p k f n xs):Cg p f (F (f n)*pl xs):=
 (h.cg.down<|km h.k1).trans (Cg.rfl.mul<|NN h.el)
def Lc.sf{n:K}{xs:N Lx}(h:Lc p k f n xs):∃(m:N J) (w:J),Sf p m (xs.map (·.2))/\Cg p (C m) (F w*f):=by
 have⟨A,B⟩:=zz h.hp;have⟨w,i⟩:=o7 h.hp h.lc 1;rw[xbY,xcl,xcY]at i;have o:∀k,n+1<=k->(λk=>(w*f k)%p) k=0:=λk D=>by
  show(w*f k)%p=0;rw[h.tp.2 k W,xaz,xas]
 have hc:(w*f n)%p=1:=by
  have:=(xcL (w*f n)<|xed p);have d:(w*f n)%p=1%p:=xaI.2<|xaw i;rw[d,xaL gS W]
 have c:=Dn o;have hd:=sZ (n+1)<|λk=>(w*f k)%p;have r:=Hg (n+1)<|λk=>(w*f k)%p;have⟨m,s⟩:∃m,m=nl (n+1) (λk=>(w*f k)%p):=⟨_,O⟩;rw[<-s]at c hd r;have t:X m=n+1:=by
  by_cases e:X m=n+1
  ·exact e
  ·have:=c n;rw[yh W]at this;lia
 have l:Cg p (C m) (F w*f):=λk=>by rw[c k,zP];exact xaT _ _
 refine⟨m,w,⟨h.hp,⟨⟨λk=>by rw[c k];exact(xe).1,λk=>by rw[c k];exact(xe).2,hd⟩,W,by rw[c];show(w*f (X m-1))%p=1;rw[t];exact hc⟩,by have:=h.nb;lia,λu y=> ?_,?_,?_⟩,l⟩
 ·obtain⟨x,z,rfl⟩:=xat.1 y;have⟨_,d,E⟩:=h.el x z;exact⟨d,W⟩
 ·exact xeq.2 h.pw
 ·refine l.trans<|(Cg.rfl.mul h.lcp).trans ?_;rw[<-zd,qf,xdb];refine Cg.trans (Cg.mul (f':=F 1) (λj=> ?_) Cg.rfl)<|Cg.of<|zw _;unfold F;split
  ·rw[hc];exact(xaL gS W).symm
  ·rfl
noncomputable def own(p:J)(u:S)(xs:N Lx):N Lx:=by
 classical exact xs.filter λx=>decide<|Di p (C x.2) u
noncomputable def RJ(p:J)(u:S)(xs:N Lx):N Lx:=by
 classical exact xs.filter λx=> !decide (Di p (C x.2) u)
theorem U6{xs:N Lx}{x:Lx}:x∈own p u xs↔x∈xs/\Di p (C x.2) u:=by grind [own]
def zbw(p:J)(u:S)(xs:N Lx):pu xs=pu (own p u xs)*pu (RJ p u xs)/\pl xs=pl (own p u xs)*pl (RJ p u xs):=by
 exact⟨iQ _ _ xs,iQ _ _ xs⟩
def Lc.or{n:K}{xs:N Lx}(h:Lc p k f n xs)(fu:Fs u)(d:Fs v)(l:∀j,b<=j->u j=0)(o:b<=290)(e:f=u*v){x:Lx}(c:x∈xs):(Di p (C x.2) u\/Di p (C x.2) v)/\¬(Di p (C x.2) u/\Di p (C x.2) v):=by
 have⟨m,w,r,s⟩:=h.sf;have⟨h1,t,D⟩:=h.el x c;have A:x.2∈xs.map (·.2):=xbI c;constructor
 ·obtain hd|hc:=t.or' h.hp W l o
  ·simp_all
  ·right;have i:Di p (C x.2) f:=by
    refine Di.cg ?_ h.lcp.symm;exact(UK (λy B=>by obtain⟨z,_,rfl⟩:=xat.1 B;exact Fs.ci _)<|xbI c).mul _<|Fs.pc _
   rw[e]at i;exact Di.euclid d hc i
 ·rintro⟨d1,d2⟩;exact r.apart fu d ⟨F w,Fs.pc w,by rw[<-e];exact s⟩ A d1 d2
def Lc.oth_own{n:K}{xs:N Lx}(h:Lc p k f n xs)(fu:Fs u)(c:Fs v)(d:∀j,b<=j->u j=0)(i:b<=290)(e:f=u*v):RJ p u xs=own p v xs:=by
 refine List.filter_congr λx l=> ?_;have⟨h1,m⟩:=h.or fu c d i e l;by_cases hd:Di p (C x.2) u
 ·simp_all
 ·simp_all
def Lc.pcop{n:K}{xs:N Lx}(h:Lc p k f n xs):(own p u xs).Pairwise (λa b=>jF p (C a.2)<|C b.2):=by
 exact h.pw.sublist List.filter_sublist
def Lc.odv{n:K}{xs:N Lx}(h:Lc p k f n xs)(fu:Fs u):Di p (pl<|own p u xs) u:=by
 refine Di.prz fu (λy c=>by obtain⟨z,_,rfl⟩:=xat.1 c;exact Fs.ci _) (xeq.2 h.pcop) λy c=> ?_;obtain⟨z,d,rfl⟩:=xat.1 c;exact(U6.1 d).2
def DA{n:K}{xs:N Lx}(h:Lc p k f n xs)(u:S):∀x∈own p u xs,Up p k x.1 x.2/\VT p x.2/\X x.2<=66:=λx c=>h.el x (U6.1 c).1
def Lc.loc{n:K}{xs:N Lx}(h:Lc p k f n xs)(c:Tp u a)(hv:Tp v b)(e:f=u*v):Cg p u (F (u a)*pl (own p u xs))/\Mn (pl<|own p u xs) a:=by
 have⟨t,G⟩:=zz h.hp;have fu:=c.fs;have o:=hv.fs;have w:a+b=n:=by
  have:=c.mul hv;rw[<-e]at this;exact this.uniq h.tp
 have y:f n=u a*v b:=by rw[<-w,e,Vz c.2 hv.2]
 have z:RJ p u xs=own p v xs:=h.oth_own fu o (b:=a+1) (λj H=>c.2 j W) (by have:=h.nb;lia) e;have⟨α,i,h1⟩:=h.odv fu;have⟨β,l,A⟩:=h.odv o;have⟨d0,hi⟩:=zeY h.el;have r:=(zbw p u xs).2;rw[z]at r;have B:Cg p ((α*β-F (f n))*pl xs) (F 0):=by
  rw[qp];refine Cg.iff_sub.1<|Cg.trans ?_ h.lcp;rw[e];refine Cg.trans (Cg.of ?_) (h1.mul A).symm;rw[r,zd α,zd α,zC (pl<|own p u xs) β]
 have C:=hi.zero t ((i.mul l).subt<|Fs.pc _) λj _=>by rw[B j,zJ,xas]
 have hc:¬p∣f n:=λhd=>h.lc<|xaw hd;have⟨x,D⟩:=Ta h.hp i l (Cg.iff_sub.2 C) hc;have m:Cg p u (F x*pl (own p u xs)):=h1.trans<|D.mul Cg.rfl;have⟨d,hd⟩:=zeY<|DA h u;have s:¬p∣u a:=λhd=>hc (by rw[y];exact xbp hd<|xcc _ _);have t1:=m a;have t2:=m d;rw[zP]at t1 t2;rw[hd.1,xcZ]at t2;have E:a=d:=by
  by_cases c1:a<d
  ·exfalso;rw[c.2 d c1,xas]at t2;refine s<|xaB ?_;rw[t1,xck,<-t2,xba,xas]
  ·by_cases c2:d<a
   ·exfalso;rw[hd.2 a c2,xaz,xas]at t1;exact s<|xaB t1
   ·lia
 subst E;refine⟨m.trans<|Cg.mul (λj=> ?_) Cg.rfl,hd⟩;unfold F;split
 ·exact t2.symm
 ·rfl
theorem Lc.up{n:K}{xs:N Lx}(h:Lc p k f n xs)(i:Tp u a)(hv:Tp v b)(e:f=u*v):Cg (p^k) u (F (u a)*pu (own p u xs)):=by
 have⟨R,p2⟩:=zz h.hp;have fu:=i.fs;have s:=hv.fs;have T:a+b=n:=by
  have:=i.mul hv;rw[<-e]at this;exact this.uniq h.tp
 have t:f n=u a*v b:=by rw[<-T,e,Vz i.2 hv.2]
 have L:¬p∣f n:=λhd=>h.lc<|xaw hd;have U:u a%p≠0:=λhd=>L (by rw[t];exact xbp (xaB hd)<|xcc _ _);have V:v b%p≠0:=λhd=>L (by rw[t];exact xbp (xaB hd)<|xcx _ _);have Y:RJ p u xs=own p v xs:=h.oth_own fu s (b:=a+1) (λj m=>i.2 j W) (by have:=h.nb;lia) e;have⟨l1,m1⟩:=h.loc i hv e;have⟨l2,m2⟩:=h.loc hv i (by rw[e,zk]);have⟨w,o⟩:=o7 h.hp U k;have⟨z,P⟩:=o7 h.hp V k;have C:=km (p:=p) h.k1;have one:∀{M c d:J},M∣c*d-1->Cg M (F c*F d) (F 1):=λ{M c d} hd j=>by
  rw[qf];unfold F;split
  ·exact xaI.2<|xaw hd
  ·rfl
 have hA:∃A:S,Mn A a/\Fs A/\Cg (p^k) A (F w*u):=by
  refine⟨λj=>if j=a then 1 else w*u j,⟨iq O,λj m=> ?_⟩,⟨a+1,λj m=> ?_⟩,λj=> ?_⟩
  ·show(if j=a then(1:J)else w*u j)=0;rw[zB,i.2 j m,xaz]
  ·show(if j=a then(1:J)else w*u j)=0;rw[zB,i.2 j W,xaz]
  ·show(if j=a then(1:J)else w*u j)%_=_;rw[zP];by_cases c:j=a
   ·rw[iq c,c];exact(xaI.2<|xaw o).symm
   ·rw[ir c]
 have⟨A,D,fA,E⟩:=hA;have⟨l,G⟩:=zpe<|DA h u;have H:=NN<|DA h u;have hB:=NN<|DA h v;have r:Cg p A (pl<|own p u xs):=by
  refine(E.down C).trans<|(Cg.rfl.mul l1).trans ?_;rw[<-zd];exact(Cg.mul (one<|xbp C o) Cg.rfl).trans<|Cg.of<|zw _
 have cv:Cg p (F z*v) (pl<|own p v xs):=by
  refine(Cg.rfl.mul l2).trans ?_;rw[<-zd];exact(Cg.mul (one<|xbp C P) Cg.rfl).trans<|Cg.of<|zw _
 have mu:Mn (pu<|own p u xs) a:=by
  have t1:=(H.trans r.symm) a;have t2:=(H.trans r.symm) l;rw[D.1]at t1;rw[G.1]at t2;have Q:(1:J)%p=1:=xaL gS W;have:l=a:=by
   by_cases c1:l<a
   ·rw[G.2 a c1,xas,Q]at t1;cases t1
   ·by_cases c2:a<l
    ·rw[D.2 l c2,xas,Q]at t2;cases t2
    ·lia
  rw[<-this];exact G
 have hn:jF p (pl<|own p u xs) (pl<|own p v xs):=by
  have:=GX (p:=p) (A:=(own p u xs).map (·.2)) (B:=(own p v xs).map (·.2)) λc hc d hd=>by
   obtain⟨x,hx,rfl⟩:=xat.1 hc;obtain⟨y,hy,rfl⟩:=xat.1 hd;have hi:=U6.1 hx;have hp:=U6.1 hy;have⟨_,i1,i2⟩:=h.el x hi.1;have⟨_,i3,i4⟩:=h.el y hp.1;refine i1.cop h.hp i3 W W λee=> ?_;have:=(h.or fu s (b:=a+1) (λj m=>i.2 j W) (by have:=h.nb;lia) e hi.1).2;exact this ⟨hi.2,by rw[ee];exact hp.2⟩
  rw[xdb,xdb]at this;exact this
 have hl:Cg (p^k) (A*(F z*v)) (pu (own p u xs)*pu (own p v xs)):=by
  have e1:=(zbw p u xs).1;rw[Y]at e1;rw[<-e1];refine(E.mul Cg.rfl).trans ?_;have e2:F w*u*(F z*v)=F w*(F z*f):=by rw[e,zd,zC u (F z) v]
  rw[e2];refine(Cg.mul Cg.rfl<|Cg.mul Cg.rfl h.cg).trans ?_;have e3:F w*(F z*(F (f n)*pu xs))=(F w*F (u a))*((F z*F (v b))*pu xs):=by
   rw[t,<-zd,<-zd,<-zd,qf,qf,qf,qf,qf];congr 2;grind
  rw[e3];exact(Cg.mul (one o)<|(Cg.mul (one P) Cg.rfl).trans<|Cg.of<|zw _).trans<|Cg.of<|zw _
 have⟨r1,_⟩:=RB R D mu fA (zkA _) ((Fs.pc z).mul s) (zkA _) (hn.congr r.symm cv.symm) (r.trans H.symm) (cv.trans hB.symm) k hl;refine Cg.trans ?_<|Cg.rfl.mul r1;refine Cg.trans ?_<|Cg.rfl.mul E.symm;rw[<-zd];refine Cg.symm<|(Cg.mul (one (d:=w) ?_) Cg.rfl).trans<|Cg.of<|zw _;rw[xbw];exact o
def Lc.step{n:K}{xs:N Lx}(h:Lc p k f n xs)(c:Tp g a)(d:Tp q b)(m:0<g a)(e:f=q*g):Lc p k q b (RJ p g xs):=by
 have i:f=g*q:=by rw[e,zk]
 have o:a+b=n:=by
  have:=c.mul d;rw[<-i]at this;exact this.uniq h.tp
 have l:f n=g a*q b:=by rw[<-o,i,Vz c.2 d.2]
 have r:=h.oth_own c.fs d.fs (b:=a+1) (λj s=>c.2 j W) (by have:=h.nb;lia) i;have hc:=h.ps;rw[r];refine⟨h.hp,h.k1,DA h q,h.pcop,d,by have:=h.nb;lia,?_,λhd=> ?_,?_,h.up d c e⟩
 ·rw[l]at hc;exact Int.pos_of_mul_pos_right hc m
 ·exact h.lc<|by rw[l];exact xaw<|xbp (xaB hd)<|xcx _ _
 ·have:=h.pm;rw[e]at this;exact this.left
def Lc.pick{n:K}{xs S:N Lx}(h:Lc p k f n xs)(o:∀x∈S,x∈xs)(L:Tp g a)(Y:Tp q b)(e:f=g*q){γ:J}(hc:Cg p (F γ*g) (F (f n)*pl S)){x:Lx}(r:x∈xs):Di p (C x.2) g↔x∈S:=by
 have⟨s,p2⟩:=zz h.hp;have D:¬p∣f n:=λhd=>h.lc<|xaw hd;have l:=λy i=>h.el y<|o y i;have⟨d,hd⟩:=zeY l;have m:¬p∣γ:=λhi=>D (by
  have t:=hc d;rw[zP,zP,hd.1,xcZ]at t;refine xaB ?_;rw[<-t];exact xaw<|xbp hi<|xcc _ _)
 have⟨_,i1,i2⟩:=h.el x r;have j:∀{c:J}{y:Pz},¬p∣c->Fs y->Di p (C x.2) (F c*y)->Di p (C x.2) y:=λ{c y} hc M hd=>by
  rcases i1.or' h.hp W (f:=F c) (n:=1) (λk hk=>by unfold F;rw[zB]) gS with h1|h1
  ·exact wR (i1.const s h1) hc
  ·exact Di.euclid M h1 hd
 constructor
 ·intro h1;have P:Di p (C x.2) (pl S):=j D (znK S)<|(h1.mul (F γ)<|Fs.pc γ).cg hc;have Q:=i1.mem h.hp (us:=S.map (·.2)) W (λw R=>by
   obtain⟨y,i,rfl⟩:=xat.1 R;have⟨_,T,j2⟩:=l y i;exact⟨T,W⟩) (by rw[xdb];exact P)
  have⟨y,i,U⟩:=xat.1 Q;have:x=y:=by
   by_cases E:x=y
   ·exact E
   ·exfalso;have Jc:=h.pw;have G:jF p (C x.2) (C y.2):=by
     have⟨A,B,V⟩:=xeg r;have H:=o y i;rw[V]at H Jc;rw[xdp,xbQ]at Jc;obtain h4|h4:=So.1 H
     ·exact(Jc.2.2 y h4 x<|FS).symm
     ·obtain h5|h5:=xaa.1 h4
      ·exact wR h5.symm E
      ·exact Jc.2.1.1 y h5
    rw[U]at G;exact i1.self s G
  rw[this];exact i
 ·intro h1;refine j m L.fs<|Di.cg ?_ hc.symm;exact(UK (λy i=>by obtain⟨z,_,rfl⟩:=xat.1 i;exact Fs.ci _)<|xbI (f:=λx:Lx=>(C x.2:Pz)) h1).mul _<|Fs.pc _
end
section
variable{f u v g q:Pz}{p:wl}{k N:wr}{xs:xS Lx}{a:xS wl}
theorem zoS{α:Type}{P Q R:α->wW}:∀{l:xS α},(∀x∈l,P x=wF->R x=wF)->(∀x∈l,Q x=wF->R x=wF)->(∀x∈l,¬(P x=wF/\Q x=wF))->X (l.filter P)+X (l.filter Q)<=X (l.filter R)
 |[],_,_,_=>Nm _
 |x::l,h1,c,d=>by
  have e:=zoS (λy b=>h1 y<|UV _ b) (λy b=>c y<|UV _ b) λy b=>d y<|UV _ b;grind
def Ls(p:J)(f:S)(xs:xS Lx)(c:K):Prop:=∀u v,Fs u->Fs v->f=u*v->¬KC u->c<=X (own p u xs)
def kT(c:Nz f)(e:f=u*v):Nz u/\Nz v:=by
 have⟨k,b⟩:=c;rw[e]at b;exact⟨xae λhn=>b (yT λi _=>by rw[Nz.not hn i,xba]),xae λhn=>b<|yT λi _=>by rw[Nz.not hn _,xaz]⟩
def Ls.one{n:K}(h:Lc p k f n xs):Ls p f xs 1:=λu v fu i e j=>by
 have⟨l,nv⟩:=kT h.tp.nz e;have⟨a,c⟩:=Tp.ex fu l;have⟨b,m⟩:=Tp.ex i nv;have⟨_,d⟩:=h.loc c m e
 cases o:own p u xs with
 |nil=>
  exfalso;rw[o]at d;have h1:=d.1;refine j<|(KC.tp c).2<|xae λh0=> ?_;rw[show pl [] a=0 from ir h0]at h1;cases h1
 |cons x r=>exact Nat.succ_le_succ<|xai _
def Ls.two{w:S}{n:K}(h:Lc p k f n xs)(fu:Fs u)(c:Fs v)(d:Fs w)(e:f=u*v*w):X (own p u xs)+X (own p v xs)<=X (own p (u*v) xs):=by
 classical
 have⟨n1,nw⟩:=kT h.tp.nz e;have⟨l,nv⟩:=kT n1 O;have⟨a,i⟩:=Tp.ex fu l;have⟨b,m⟩:=Tp.ex (c.mul d)<|Nz.mul c d nv nw;have hc:a+b=n:=by
  have:=i.mul m;rw[<-zd,<-e]at this;exact this.uniq h.tp
 refine zoS (λx _ h1=> ?_) (λx _ h1=> ?_) λx o ⟨h1,r⟩=> ?_
 ·refine Z3 ?_;rw[zk];exact(Wl h1).mul v c
 ·exact Z3<|(Wl h1).mul u fu
 ·refine(h.or fu (c.mul d) (b:=a+1) (λj s=>i.2 j W) (by have:=h.nb;lia) (by rw[e,zd]) o).2 ⟨Wl h1,?_⟩;rw[zk];exact(Wl r).mul w d
def Ls.ir{n c:K}(h:Lc p k f n xs)(hl:Ls p f xs c)(hc:1<=c)(i:Fs g)(fq:Fs q)(e:f=g*q)(pm:Pm g)(j:¬KC g)(hn:X (own p g xs)<2*c):Ir g:=by
 refine⟨i,pm,j,λu v fu b l=>xae λd=> ?_⟩;have m:=λh=>d (.inl h);have cv:=λh=>d (.inr h);subst l;have h1:=hl u (v*q) fu (b.mul fq) (by rw[e,zd]) m;have o:=hl v (u*q) b (fu.mul fq) (by rw[e,zd,zC]) cv;have r:=Ls.two h fu b fq e;lia
def Ls.step{n c:K}(h:Lc p k f n xs)(hl:Ls p f xs c)(d:Fs g)(fq:Fs q)(e:f=q*g):Ls p q (RJ p g xs) c:=λu v fu i m o=>by
 classical
 subst m;have h1:=hl u (v*g) fu (i.mul d) (by rw[e,zd]) o;have⟨n1,r⟩:=kT h.tp.nz e;have⟨a,l⟩:=Tp.ex d r;have⟨b,s⟩:=Tp.ex fq n1;have hc:b+a=n:=by
  have:=s.mul l;rw[<-e]at this;exact this.uniq h.tp
 have:own p u (RJ p g xs)=own p u xs:=by
  unfold own RJ;rw[List.filter_filter];refine List.filter_congr λx t=> ?_;by_cases hd:Di p (C x.2) u
  ·have w:=(h.or d fq (b:=a+1) (λj z=>l.2 j W) (by have:=h.nb;lia) (by rw[e,zk]) t).2;rw[Z3 hd,uT λy=>w ⟨y,by rw[zk];exact hd.mul v i⟩];rfl
  ·simp_all
 simp_all
structure Af(N c:K)(a:xS J):Prop where
 ln:a.length=c
 lo:∀i,i<c->(i:J)<=C a i
 hi:∀i,i<c->C a i+c<=N+i
 st:∀i,i+1<c->C a i<C a (i+1)
def Lt(f g:K->J)(c:K):Prop:=∃j,j<c/\f j<g j/\∀k,k<j->f k=g k
def DU(f g:K->J)(c:K):(∀k,k<c->f k=g k)\/Lt f g c\/Lt g f c:=by
 by_cases h:∃k,k<c/\f k≠g k
 ·have⟨j,⟨d,m⟩,i⟩:=zkE h;have e:=λk b=>xae λhn=>i k b ⟨W,hn⟩;by_cases l:f j<g j
  ·exact .inr (.inl ⟨j,d,l,e⟩)
  ·exact .inr (.inr ⟨j,d,W,λk b=>(e k b).symm⟩)
 ·simp_all
theorem Lt.asy{f g:K->J}{c:K}(h:Lt f g c)(b:Lt g f c):V6:=by
 have⟨i,i1,i2,d⟩:=h;have⟨j,l,m,n⟩:=b;by_cases e:i<j
 ·simp_all
 ·grind
def nxA(c k:K)(a:xS J):xS J:=zl c λi=>if i<k then C a i else C a k+1+((i:J)-k)
theorem Af.up{N c:K}{T:xS J}(b:Af N c T){i:K}:∀d,i+d<c->C T i+d<=C T (i+d)
 |0,_=>by rw[xbK];lia
 |d+1,h=>by
  have h1:=b.up (i:=i) d W;have e:=b.st (i+d) W;grind
def KA{c:K}{i:K}(h:i<c:=by lia):C (nxA c k a) i=if i<k then C a i else C a k+1+((i:J)-k):=uZ h
theorem Af.next{c:K}(h:Af N c a)(b:k<c)(h1:C a k+c<N+k):Af N c (nxA c k a):=by
 refine⟨z6 _ _,λi hi=> ?_,λi hi=> ?_,λi hi=> ?_⟩
 ·rw[KA hi];have:=h.lo i hi;have:=h.lo k b;lia
 ·rw[KA hi];have:=h.hi i hi;lia
 ·rw[KA,KA hi];by_cases e:i+1<k
  ·rw[zT,iq e];exact h.st i hi
  ·by_cases d:i<k
   ·have:=h.st i hi;grind
   ·lia
def zob{c:K}{T:xS J}(l:Af N c T)(r:k<c)(n:∀i,k<i->i<c->C a i+c=N+i)(h:Lt (C a) (C T) c):(∀i,i<c->C (nxA c k a) i=C T i)\/Lt (C<|nxA c k a) (C T) c:=by
 have⟨j,b,o,m⟩:=h;have hc:j<=k:=by
  by_cases e:j<=k
  ·exact e
  ·have:=n j W b;have:=l.hi j b;lia
 by_cases e:j<k
 ·exact .inr ⟨j,b,by rw[KA b,iq e];exact o,λi hi=>by rw[KA,zT];exact m i hi⟩
 ·obtain rfl:j=k:=W
  rcases DU (C<|nxA c j a) (C T) c with h1|h1|h1
  ·simp_all
  ·simp_all
  ·exfalso;have⟨i,i1,i2,s⟩:=h1;rw[KA i1]at i2;by_cases d:i<j
   ·rw[iq d,m i d]at i2;lia
   ·rw[ir d]at i2;have:=l.up (i:=j) (i-j) W;rw[(W:j+(i-j)=i)]at this;lia
def msr(N:K)(f:K->J):K->K
 |0=>0
 |n+1=>msr N f n*(N+1)+(N-(f n).toNat)
def ze1(N:K)(f:K->J):∀n,msr N f n+1<=(N+1)^n
 |0=>Nm _
 |n+1=>by
  have b:=xan (N+1)<|ze1 N f n;rw[xbb]at b;show msr N f n*(N+1)+(N-(f n).toNat)+1<=(N+1)^n*(N+1);lia
def zek{N:K}{f g:K->J}:∀n,(∀k,k<n->f k=g k)->msr N f n=msr N g n
 |0,_=>rfl
 |n+1,h=>by
  show msr N f n*(N+1)+_=msr N g n*(N+1)+_;rw[zek n λk b=>h k W,h n W]
def zeH{N:K}{f g:K->J}{j:K}(h0:∀k,k<j->f k=g k)(h1:0<=g j)(b:f j=g j+1)(c:f j<=N):∀d,msr N f (j+1+d)+1<=msr N g (j+1+d)
 |0=>by
  show msr N f j*(N+1)+_+1<=msr N g j*(N+1)+_;rw[zek j h0];lia
 |d+1=>by
  have e:=xan (N+1)<|zeH h0 h1 b c d;rw[xbb]at e;show msr N f (j+1+d)*(N+1)+(N-(f<|j+1+d).toNat)+1<=msr N g (j+1+d)*(N+1)+(N-(g<|j+1+d).toNat);lia
end
section
variable{B R Q:Pz}{la lb ql K J fu:wr}{b a:xS Zr}
structure DvZ(A B Q R:S)(la lb n ql K J:wr):Prop where
 eq:A=Q*B+R
 q1:∀k,k<n->Q k=0
 q2:∀k,ql<=k->Q k=0
 r:∀k,n+(lb-1)<=k->R k=0
 bz:∀k,Bz (K+(ql-n)*(J+1))<|R k
 bq:∀k,Bz (K+(ql-n)*(J+1))<|Q k
def Lr{n m:wr}(e:Tp B m)(h:Zd B R)(g:∀k,n+m<=k->R k=0):∃w:S,R=w*B/\∀k,n<=k->w k=0:=by
 obtain⟨w,f,rfl⟩:=h;refine⟨w,O,?_⟩;by_cases nw:Nz w
 ·have⟨d,hd⟩:=Tp.ex f nw;have h1:=(hd.mul e).1;intro k i;refine hd.2 k ?_;by_cases c:d<n
  ·lia
  ·simp_all
 ·exact λk _=>Nz.not nw k
def DvZ.step{A:S}{n:wr}(h:DvZ A B Q R la lb (n+1) ql K J)(f:Tp B (lb-1))(hn:n+1<=ql){c:wl}(hc:R (n+(lb-1))=c*B (lb-1))(i:∀k,Bz J<|B k):
 DvZ A B (Y8 Q n c) (λk=>R k-c*sh B n k) la lb n ql K J:=by
 have hd:Bz (K+(ql-(n+1))*(J+1)) c:=(h.bz<|n+(lb-1)).le (by
  rw[hc,xcC];exact xcf _ (by have:=f.1;lia))
 have g:K+(ql-n)*(J+1)=K+(ql-(n+1))*(J+1)+J+1:=by rw[(W:ql-n=ql-(n+1)+1),xbb];lia
 have e1:Y8 Q n c=Q+mono n c:=qR λk=>by
  rw[zK];unfold Y8 mono;by_cases e:k=n
  ·rw[iq e,iq e,e,h.q1 n W];lia
  ·lia
 refine⟨?_,λk d=> ?_,λk d=> ?_,λk d=> ?_,λk=> ?_,λk=> ?_⟩
 ·rw[e1,yF];funext k;have:=Wf h.eq k;rw[zK]at this;rw[zK,zK,jj];show _=_+_+(R k-c*sh B n k);lia
 ·unfold Y8;rw[zB];exact h.q1 k W
 ·unfold Y8;rw[zB];exact h.q2 k d
 ·show R k-c*sh B n k=0;unfold sh;rw[zT];by_cases e:k=n+(lb-1)
  ·rw[e,hc,(W:n+(lb-1)-n=lb-1)];lia
  ·rw[h.r k W,f.2 _ W];lia
 ·rw[g];refine Bz.sub ((h.bz k).mono W)<|hd.mul ?_;unfold sh;split
  ·exact i _
  ·exact Bz.zero _
 ·rw[g];unfold Y8;split
  ·exact hd.mono W
  ·exact(h.bq k).mono W
def zir{n:wr}{c:wl}(d:yH J b)(o:X b=lb)(hn:n+lb<=la)(hl:la<=1000)(i:∀k,Bz K<|R k)(hc:Bz K c)(p:K+J+1<=40000)(f:3000000<=fu):
 zg (Kp fu (n:wl) b) fu ((0:wl),b,zi la R,zi ql Q,yp c)=Z (b,zi la<|λk=>R k-c*sh (G b) n k,zi ql Q):=by
 refine zA (λs:wl×N M×N M×N M×M=>∃j:wr,j<=lb/\s=((j:wl),b,zi la (λk=>if k<n+j then R k-c*sh (G b) n k else R k),zi ql Q,yp c)) (λs=>lb-s.1.toNat) _ ?_ _ _ ⟨0,xai _,?_⟩ (by show lb-0<fu;lia)
 ·rintro s L ⟨j,q,rfl⟩ l;unfold Kp;simp only;by_cases h1:j<lb
  ·rw[zT,U O];simp only[uL];have hd:=d.get j;rw[zY,zf,(W:(n:wl)+(j:wl)=((n+j:wr):wl)),zb,zb,zo (by rw[yc];lia),zf,ZY W,zB,U<|yv (hc.ok W) (U7.of hd W) f,zn,Z8];have m:Bz (K+J) (c*G b j):=hc.mul<|d.bz j;rw[U<|qO ((i _).ok W) (m.ok W) f,zn,zn,zo (by rw[yc];lia),zf,U2,zb];refine l _ ⟨j+1,W,?_⟩ (by show lb-((j:wl)+1).toNat<lb-(j:wl).toNat;lia);rw[(W:((j:wl)+1)=((j+1:wr):wl))];refine xfo O<|xfo O<|xfo ?_ O;refine y6 λk g=> ?_;unfold Y8;by_cases e:k=n+j
   ·rw[iq e,zT,e];unfold sh;rw[zT,(W:n+j-n=j)]
   ·rw[ir e];show(if k<n+j then R k-c*sh (G b) n k else R k)=_;by_cases h:k<n+j
    ·rw[iq h,zT]
    ·rw[ir h,zB]
  ·rw[zB,U O];simp only[xak,ut];obtain rfl:j=lb:=W
   refine kW Z<|xfo O<|xfo ?_ O;refine y6 λk g=> ?_;by_cases e:k<n+j
   ·rw[iq e]
   ·rw[ir e];unfold sh;rw[zT,zW W];lia
 ·refine xfo O<|xfo O<|xfo ?_ O;refine y6 λk g=> ?_;by_cases e:k<n+0
  ·rw[iq e];unfold sh;rw[zB];lia
  ·rw[ir e]
def zmG(a:N M):zQ a=zi (X (zQ a)) (G a):=by
 have h:zQ a=zi (dg (G a) (X a)) (G a):=O;rw[show(zQ a).length=dg (G a) (X a) from xw _ _];exact h
def kR(h:X (zQ a)≠0):Tp (G a) (X (zQ a)-1):=by
 have h1:=YX (UX a) h;rw[kP]at h1;exact⟨h1,λk c=>by rw[<-kP];exact zW W⟩
def ZP(h:X (zQ a)=0)(k:wr):G a k=0:=by rw[<-kP];exact zW W
def QN(F:yH K a)(y:yH J b)(hK:K+(X a+1)*(J+1)<=30000)(hH:X a<=1000)(hJ:X b<=1000)(h0:X (zQ b)≠0)(o:3000000<=fu):
 ∃q e,xR fu a b=Z (q,e)/\(e=0↔Zd (G b) (G a))/\(e=0->(G a:S)=G q*G b/\zQ q=q/\X q<=X a):=by
 have hn:=Ku y;have hL:=j7 b;have hM:=j7 a;have l:=kR h0;have hN:J+1<=(X a+1)*(J+1):=xdV _ W;have⟨la,hi⟩:∃la,la=X (zQ a):=⟨_,O⟩;have⟨lb,t⟩:∃lb,lb=X (zQ b):=⟨_,O⟩;have⟨ql,hO⟩:∃ql,ql=la+1-lb:=⟨_,O⟩;have u:=zmG a;rw[<-hi]at u;rw[<-t]at l h0;unfold xR;rw[U<|zI F W W o,U<|zI y W W o,show wk (X a) (G a)=zQ a from O,show wk (X b) (G b)=zQ b from O,<-hi,<-t,zB];by_cases hP:0<la/\la<lb
 ·rw[U (v:=Sum.inr ())<|by rw[zT,zT]];refine⟨[],4,O,⟨λh=>wR h gS,λh=> ?_⟩,λh=>wR h gS⟩;exfalso;have z:=kR (a:=a) W;rw[<-hi]at z;have⟨w,p,w0⟩:=Lr (n:=0) l h λk A=>z.2 k W;exact z.1<|by rw[p,wM,yT λi _=>by rw[w0 i W,xba]]
 ·rw[U (v:=Sum.inl ()) (by
   by_cases h1:0<la
   ·rw[zT,zB]
   ·rw[zB])]
  simp only;have hp:max ((la:wl)-lb+1) 0=(ql:wl):=W
  rw[zb,zb,zf,hp,yR,yV,zf,az,yc,zb]
  have⟨s,C,hQ⟩:=ya (f:=Ky fu) (λs:wl×N M×N M×N M=>∃(n:wr) (Q R:S),n<=ql/\s=((n:wl)-1,zQ b,zi la R,zi ql Q)/\DvZ (G a) (G b) Q R la lb n ql K J) (λs=>(s.1+1).toNat)
   (λr=>(∃Q R:S,r=.inl (zi la R,zi ql Q)/\DvZ (G a) (G b) Q R la lb 0 ql K J)\/(r=.inr 4/\¬Zd (G b) (G a))) (by
   rintro s L ⟨n,Q,R,hx,rfl,d⟩ ih
   unfold Ky
   simp only
   cases n with
   |zero=>
    rw[zB]
    exact⟨_,O,.inl ⟨Q,R,O,d⟩⟩
   |succ n=>
    have hy:(ql-(n+1))*(J+1)<=(X a+1)*(J+1):=xan _ W
    have hG:(ql-(n+1))*(J+1)+(J+1)<=(X a+1)*(J+1):=by
     have:=xan (J+1) (W:ql-(n+1)+1<=X a+1);rw[xbb,xcy]at this;exact this
    have hl:=d.bz
    rw[(W:((n+1:wr):wl)-1=(n:wl)),zT,<-t,zb,(W:(n:wl)+(lb:wl)-1=((n+(lb-1):wr):wl)),zb,zo (by rw[yc];lia),zf,ZY W,(W:(lb:wl)-1=((lb-1:wr):wl)),zb,zY,zf]
    have H:=hn.get<|lb-1
    rw[U<|kz ((hl _).okS W) ⟨H.1,by have:=H.2;lia⟩ o,zn,Z8,kP]
    simp only
    have P:=l.1
    have x:exE (R<|n+(lb-1)) (G b<|lb-1)=if R (n+(lb-1))%G b (lb-1)=0 then 0 else 4:=by unfold exE;rw[ir P]
    have T:SD (R<|n+(lb-1)) (G b<|lb-1)=if R (n+(lb-1))%G b (lb-1)=0 then R (n+(lb-1))/G b (lb-1)else 0:=by unfold SD;rw[ir P]
    by_cases hd:R (n+(lb-1))%G b (lb-1)=0
    ·rw[iq hd]at x T
     have⟨c,V⟩:∃c,c=R (n+(lb-1))/G b (lb-1):=⟨_,O⟩
     have hc:R (n+(lb-1))=c*G b (lb-1):=by rw[V,xeY<|xaB hd]
     have hA:Bz (K+(ql-(n+1))*(J+1)) c:=(hl<|n+(lb-1)).le (by
      rw[hc,xcC];exact xcf _ W)
     rw[x,T,<-V,iq O,zo (by rw[yc];lia),zf,U2,U<|zir hn t.symm W W hl hA W o]
     simp only
     rw[zb]
     have C:=d.step l hx hc y.bz
     have e:(λk=>R k-c*sh (G<|zQ b) n k)=λk=>R k-c*sh (G b) n k:=by rw[show G (zQ b)=G b from qR (kP b)]
     rw[e]
     exact ih _ ⟨n,_,_,W,O,C⟩ (by show((n:wl)-1+1).toNat<(((n+1:wr):wl)-1+1).toNat;lia)
    ·rw[ir hd]at x
     rw[x,ir gS]
     refine⟨_,O,.inr ⟨O,λu=>hd ?_⟩⟩
     have D:Zd (G b) R:=by
      have e:R=(G a:S)-Q*G b:=qR λk=>by
       have:=Wf d.eq k;rw[zK]at this;rw[yx];lia
      rw[e];exact u.sub ⟨Q,⟨ql,d.q2⟩,O⟩
     have⟨w,p,w0⟩:=Lr (n:=n+1) l D d.r
     have:=Vz (f:=w) (g:=G b) (n:=n) (m:=lb-1) (λk A=>w0 k W) l.2
     rw[<-p]at this
     rw[this,Int.mul_emod_left]) fu ((ql:wl)-1,zQ b,zQ a,zi ql λ_=>0) ⟨ql,λ_=>0,G a,Nm _,by rw[u],⟨qR λk=>by
    rw[zK,wM,yT λi _=>xba _,xcE],λ_ _=>O,λ_ _=>O,λk A=>by
    by_cases e:la=0
    ·exact ZP W k
    ·rw[<-kP];exact zW W,λk=>(F.bz k).mono W,λk=>Bz.zero _⟩⟩ (by show((ql:wl)-1+1).toNat<fu;lia)
  rw[U C];rcases hQ with⟨Q,R,rfl,d⟩|⟨rfl,hB⟩
  ·have hy:(ql-0)*(J+1)<=(X a+1)*(J+1):=xan _ W;have hC:yH 30000 (zi la R):=Yf λj=>(d.bz j).mono W;have hD:yH 30000 (zi ql Q):=Yf λj=>(d.bq j).mono W;have hv:∀k,la<=k->R k=0:=λk A=>by
    by_cases e:la=0
    ·have h1:=Wf d.eq k;rw[zK,wM,yT (n:=k+1) λi _=>by rw[d.q2 i W,xba],ZP W]at h1;lia
    ·exact d.r k W
   simp only;rw[U<|zI hC gS (by rw[yc];lia) o,yc,rY];by_cases hr:X (wk la R)=0
   ·have E:∀k,R k=0:=λk=>by rw[<-jo hv k];exact zW W
    have hF:(G (wk ql Q):S)=Q:=qR λk=>jo d.q2 k;have Y:(G a:S)=G (wk ql Q)*G b:=by
     rw[hF];funext k;have:=Wf d.eq k;rw[zK,E k,xbZ]at this;exact this
    rw[zB,U<|zI hD gS (by rw[yc];lia) o,yc,rY];refine⟨_,0,O,⟨λ_=>⟨_,Fs.cf _,Y⟩,λ_=>O⟩,λ_=>⟨Y,(kZ _ _).symm,?_⟩⟩;rw[xw];have:=qg Q ql;lia
   ·rw[zT];refine⟨[],4,O,⟨λh=>wR h gS,λh=> ?_⟩,λh=>wR h gS⟩;exfalso;have e:R=(G a:S)-Q*G b:=qR λk=>by
     have:=Wf d.eq k;rw[zK]at this;rw[yx];lia
    have D:Zd (G b) R:=by
     rw[e];exact h.sub ⟨Q,⟨ql,d.q2⟩,O⟩
    have⟨w,p,w0⟩:=Lr (n:=0) l D d.r;have E:∀k,R k=0:=λk=>by rw[p,wM,yT λi _=>by rw[w0 i W,xba]]
    have ht:=YX (kZ la R) hr;rw[jo hv]at ht;exact ht<|E _
  ·exact⟨[],4,O,⟨λh=>wR h gS,λh=>wR h hB⟩,λh=>wR h gS⟩
theorem Aq(c:yH K a)(d:yH J b)(e:K<=40000)(f:J<=40000)(hc:X a<=1000)(hd:X b<=1000)(h0:X (zQ b)=0)(g:3000000<=fu):xR fu a b=Z ([],3):=by grind [xR,zQ,U,zI]
end
section
variable{N fu:wr}{a:xS wl}
def Af.ext{c:K}{b:xS J}(d:Af N c a)(e:Af N c b)(h:∀k,k<c->C a k=C b k):a=b:=by
 rw[<-N6 a,<-N6 b,d.ln,e.ln];exact yU h
theorem EY{c:K}(hc:c<=1000)(f:3000000<=fu):zg (λL (z:xS J×J)=>
 if z.2<(X (zl c λ_=>0):J)then
  zD z.2 (X z.1) λj=>
  B (z.1.set j z.2) λxs=>
  Q (z.2+1) λi=>L (xs,i)
 else Z z.1) fu (zl c λ_=>0,0)=Z (zl c λi=>(i:J)):=by
 refine zA (λs:xS J×J=>∃j:K,j<=c/\s=(zl c (λk=>if k<j then(k:J)else 0),(j:J))) (λs=>c-s.2.toNat) _ ?_ _ _ ⟨0,xai _,?_⟩ (by show c-0<fu;lia)
 ·rintro s L ⟨j,g,rfl⟩ d
  simp only[z6]
  by_cases h1:j<c
  ·rw[zT,zo h1,zf,Zu,zb]
   refine d _ ⟨j+1,W,?_⟩ (by show c-((j:J)+1).toNat<c-(j:J).toNat;lia)
   refine xfo (yU λk b=> ?_) O
   unfold Y8
   by_cases e:k=j
   ·lia
   ·grind
  ·rw[zB]
   obtain rfl:j=c:=W
   exact kW Z<|yU λk b=>iq b
 ·exact xfo (yU λk b=>(ir<|xbn k).symm) O
def Mm{c:K}(b:Af N c a)(o:N<=1000)(p:3000000<=fu):
 ∃i:J,zg (λL i=>
 if 0<=i then
  zD i (X a) λj=>
  B (a.getD j 0) λy=>
  Q ((N:J)-c) λe=>
  Q (e+i) λe=>
  if y=e then Q (i-1) λi=>L i
  else Z i
 else Z i) fu ((c:J)-1)=Z i/\ -1<=i/\i<c/\(∀j:K,i<j->j<c->C a j+c=N+j)/\∀k:K,i=k->C a k+c<N+k:=by
 have hd:c<=N\/c=0:=by
  by_cases h:c=0
  ·lia
  ·have:=b.hi 0 W;have:=b.lo 0 W;exact .inl W
 have⟨r,h1,l⟩:=ya (f:=λL (i:J)=>
  if 0<=i then
   zD i (X a) λj=>
   B (a.getD j 0) λy=>
   Q ((N:J)-c) λe=>
   Q (e+i) λe=>
   if y=e then Q (i-1) λi=>L i
   else Z i
  else Z i) (λi:J=> -1<=i/\i<c/\∀j:K,i<j->j<c->C a j+c=N+j) (λi=>(i+1).toNat) (λi=> -1<=i/\i<c/\(∀j:K,i<j->j<c->C a j+c=N+j)/\∀k:K,i=k->C a k+c<N+k) (by
   rintro i L ⟨i1,i2,d⟩ m;by_cases h0:0<=i
   ·obtain⟨k,rfl⟩:=xaA h0;have q:=b.ln;rw[iq h0,zY,zf,zb,zb,Vp];by_cases e:C a k=(N:J)-c+k
    ·rw[iq e,zb];refine m _ ⟨W,W,λj g hc=> ?_⟩ W;by_cases n:j=k
     ·rw[n];lia
     ·exact d j W hc
    ·rw[ir e];refine⟨_,O,i1,i2,d,λj g=> ?_⟩;obtain rfl:k=j:=W
     have:=b.hi k W;lia
   ·rw[ir h0];exact⟨_,O,i1,i2,d,λj g=>by lia⟩) fu ((c:J)-1) ⟨W,W,λj g hc=>by lia⟩ W
 exact⟨r,h1,l⟩
def MU{c k:K}(f:Af N c a)(o:N<=1000)(d:k<c)(h1:C a k+c<N+k)(p:3000000<=fu):
 zg (λL (z:J×xS J)=>
 if z.1<(c:J)then
  Q (z.1-1) λe=>
  zD e (X z.2) λj=>
  B (z.2.getD j 0) λy=>
  Q (y+1) λe=>
  zD z.1 (X z.2) λj=>
  B (z.2.set j e) λxs=>
  Q (z.1+1) λi=>L (i,xs)
 else Z z.2) fu ((k:J)+1,a.set k (C a k+1))=Z (nxA c k a):=by
 have hc:=f.hi k d;have hd:=f.lo k d;refine zA (λs:J×xS J=>∃j:K,k+1<=j/\j<=c/\s=((j:J),zl c (λi=>if i<k then C a i else if i<j then C a k+1+((i:J)-k)else C a i))) (λs=>c-s.1.toNat) _ ?_ _ _ ⟨k+1,Nm _,d,?_⟩ (by show c-((k:J)+1).toNat<fu;lia)
 ·rintro s L ⟨j,q,r,rfl⟩ l;simp only[z6];by_cases n:j<c
  ·obtain⟨i,rfl⟩:∃i,j=i+1:=⟨j-1,W⟩;rw[zT,(W:((i+1:K):J)-1=(i:J)),zb,zY,zf,ke,zB,zT,zb,zo n,zf,Zu,zb];refine l _ ⟨i+1+1,W,W,?_⟩ (by show c-(((i+1:K):J)+1).toNat<c-((i+1:K):J).toNat;lia);refine xfo O<|yU λm g=> ?_;unfold Y8;by_cases e:m=i+1
   ·rw[iq e,zB,zT];lia
   ·rw[ir e];show(if m<k then C a m else if m<i+1 then C a k+1+((m:J)-k)else C a m)=_;by_cases b:m<k
    ·rw[iq b,iq b]
    ·rw[ir b,ir b];by_cases h:m<i+1
     ·rw[iq h,zT]
     ·rw[ir h,zB]
  ·rw[zB];obtain rfl:j=c:=W
   refine kW Z<|yU λm g=> ?_;by_cases b:m<k
   ·rw[iq b,iq b]
   ·rw[ir b,ir b,iq g]
 ·refine xfo (by show(k:J)+1=((k+1:K):J);lia) ?_;show a.set k (C a k+1)=_;conv=>lhs;rw[<-N6 a,f.ln]
  rw[Zu];refine yU λm g=> ?_;unfold Y8;by_cases e:m=k
  ·rw[iq e,zB,zT,e];rw[show C (zl c<|C a) k=C a k from uZ d];lia
  ·rw[ir e];by_cases b:m<k
   ·rw[iq b]
   ·rw[ir b,zB]
def Lz{X Y:Type}{c:K}{g:xS J->X->V (xS J×(X⊕Y))}{x0:X}{Rej:xS J->Prop}{Acc:xS J->Y->Prop}(hl:1<=c)(hn:c<=N)(hN:N<=10)(E:c<=5)(p:3000000<=fu)(F:∀a,Af N c a->(g a x0=Z (a,.inl x0)/\Rej a)\/∃y v,g a x0=Z (v,.inr y)/\Acc a y):
 (wX fu (c:J) (N:J) g x0=Z (.inl x0)/\∀a,Af N c a->Rej a)\/∃a y,Af N c a/\Acc a y/\wX fu (c:J) (N:J) g x0=Z (.inr y):=by
 have h0:Af N c (zl c λi=>(i:J)):=⟨z6 _ _,λi hi=>by rw[uZ hi];lia,λi hi=>by rw[uZ hi];lia,λi hi=>by rw[uZ W,uZ hi];lia⟩;have G:∀T,Af N c T->¬Lt (C T) (C<|zl c λi=>(i:J)) c:=λT b ⟨j,n,o,_⟩=>by
  rw[uZ n]at o;have:=b.lo j n;lia
 have H:msr N (C<|zl c λi=>(i:J)) c<fu:=by
  have h1:=ze1 N (C<|zl c λi=>(i:J)) c;have w:(N+1)^c<=11^5:=xal (Nat.pow_le_pow_left W c)<|xav gS E;lia
 have⟨r,M,P⟩:=ya (f:=λL (q:X×xS J)=>vP fu (c:J) (N:J) g q.1 q.2 (λx xs _ _ _ _ _=>L (x,xs)) (λx _ _ _=>Z (.inl x)) λy _=>Z (.inr y))
  (λs:X×xS J=>s.1=x0/\Af N c s.2/\∀T,Af N c T->Lt (C T) (C s.2) c->Rej T) (λs=>msr N (C s.2) c) (λr:X⊕Y=>(r=.inl x0/\∀a,Af N c a->Rej a)\/∃a y,Af N c a/\Acc a y/\r=.inr y) (by
  rintro⟨x,a⟩ L ⟨z,l,t⟩ Q
  simp only at z l t
  subst z
  simp only
  unfold vP
  rcases F a l with⟨e,A⟩|⟨y,v,e,R⟩
  ·rw[U e]
   simp only[Sum.elim_inl]
   have⟨i,l1,l2,l3,B,S⟩:=Mm l W p
   rw[zb,U l1]
   by_cases hi:i<0
   ·rw[iq hi]
    refine⟨_,O,.inl ⟨O,λT b=> ?_⟩⟩
    rcases DU (C T) (C a) c with h|h|h
    ·rw[b.ext l h];exact A
    ·exact t T b h
    ·exfalso
     have⟨j,n,o,_⟩:=h
     have:=B j W n
     have:=b.hi j n
     lia
   ·obtain⟨k,rfl⟩:=xaA (W:0<=i)
    have ho:=l.ln
    have D:=S k O
    have hp:=l.lo k W
    rw[ir hi,zY,zf,Vp,zb,zY,zf,zb,U<|MU l W W D p]
    refine Q _ ⟨O,l.next W D,λT b u=> ?_⟩ ?_
    ·rcases DU (C T) (C a) c with h|h|h
     ·rw[b.ext l h];exact A
     ·exact t T b h
     ·exfalso
      simp only at u
      rcases zob (k:=k) b W (λi hi hc=>B i W hc) h with h6|h6
      ·have⟨j,n,o,_⟩:=u
       rw[h6 j n]at o
       lia
      ·exact u.asy h6
    ·have⟨d,hd⟩:∃d,c=k+1+d:=⟨c-k-1,W⟩
     have:=zeH (N:=N) (f:=C<|nxA c k a) (g:=C a) (j:=k) (λm hm=>by rw[KA,iq hm]) W (by rw[KA,zB];lia) (by rw[KA,zB];lia) d
     rw[<-hd]at this
     exact this
  ·rw[U e]
   simp only[Sum.elim_inr]
   exact⟨_,O,.inr ⟨a,y,l,R,O⟩⟩) fu (x0,zl c λi=>(i:J)) ⟨O,h0,λT b h=>wR h (G T b)⟩ H
 have hM:wX fu (c:J) (N:J) g x0=Z r:=by
  unfold wX;rw[yR,yV,zf,cZ,U<|EY W p];exact M
 rw[hM];rcases P with⟨rfl,h⟩|⟨a,y,h1,w,rfl⟩
 ·exact .inl ⟨O,h⟩
 ·exact .inr ⟨a,y,h1,w,O⟩
end
section
variable{a:xS wl}{m x:wl}{xs:xS Lx}{i fu:wr}
def ziR{a:N M}(h:¬m<=0):zcm a m=(vg a m,0):=by unfold zcm;rw[ir h]
theorem pZ(a:N M):(yn a).natAbs=XD (G a) (X (zQ a)):=by grind [yn]
theorem K0(a:N M):F (yn a)*(G (y7 a):S)=G a:=by grind [zP,uJ,XE,Int.mul_ediv_cancel']
def ZD{a:N M}(h:X (zQ a)≠0):Pm (G<|y7 a)/\Po (G<|y7 a):=by
 have h0:=mC h;have e:=K0 a;constructor
 ·intro d hd;have h1:(yn a).natAbs*d∣XD (G a) (X (zQ a)):=H5 _ λk _=>by
   have b:=Wf e k;rw[zP]at b;have c:=xcq.2<|xfT (xed<|yn a)<|hd k;rw[b,xcC,xbh]at c;exact c
  rw[<-pZ]at h1;have g:(yn a).natAbs*d∣(yn a).natAbs*1:=by rw[xdU];exact h1
  exact Nat.dvd_one.1<|Nat.dvd_of_mul_dvd_mul_left W g
 ·have f:=kR h;refine⟨X (zQ a)-1,?_,λk j=>by rw[uJ,f.2 k j,xef]⟩;have b:=Wf e<|X (zQ a)-1;rw[zP]at b;have c:=f.1;have⟨x,l⟩:∃x,x=G (y7 a) (X (zQ a)-1):=⟨_,O⟩;rw[<-l]at b⊢;have o:(0:J)<(XD (G a) (X (zQ a)):K):=by
   have:=pZ a;lia
  have hc:yn a=if G (zQ a) (X (zQ a)-1)<0 then-((XD (G a) (X (zQ a)):K):J)else((XD (G a) (X (zQ a)):K):J):=O;rw[kP]at hc;by_cases hn:G a (X (zQ a)-1)<0
  ·rw[iq hn]at hc;refine xae λn=> ?_;have:=Int.mul_nonneg_of_nonpos_of_nonpos (W:yn a<=0) (W:x<=0);lia
  ·rw[ir hn]at hc;refine xae λn=> ?_;have:=Int.mul_nonpos_of_nonneg_of_nonpos (W:0<=yn a) (W:x<=0);lia
def vq(a:N M):zQ (y7 a)=y7 a:=(kZ _ _).symm
def zgI(a:N M)(c:0<m)(k:K):G (mh a m) k=near (G a k) m:=jo (λj b=>by
 rw[zW b];unfold near;rw[xas,zB]) k
def zdu(x:J):near x m%m=x%m:=by
 unfold near;split
 ·simp_all
 ·simp_all
def zhQ{y:J}(h:x%m=y%m)(c:2*y.natAbs<m):near x m=y:=by
 unfold near;rw[h];by_cases b:0<=y
 ·rw[xaL b W,zB]
 ·have e:y%m=y+m:=by
   rw[<-Int.add_emod_right];exact xaL W W
  lia
def Gw(xs:N Lx)(a:N J)(c:K):N Lx:=(xaH c).map λi=>xs.getD (C a i).toNat ([],[])
theorem zfB(xs:N Lx)(a:N J)(c:K):Gw xs a (c+1)=Gw xs a c++[xs.getD (C a c).toNat ([],[])]:=by grind [Gw,xdl]
theorem zcA(a b:N Lx):pu (a++b)=pu a*pu b:=by grind [pu,wi]
theorem Na:(xs.map (·.1)).getD i []=(xs.getD i ([],[])).1:=by grind
theorem GM(h:i<X xs):xs.getD i ([],[])∈xs:=by grind
def zb3{c k:K}{p:J}{f:N M}(hp:vF p=wF)(o:1<=k)(q:k<=1000)(hn:∀x∈xs,Up p k x.1 x.2/\VT p x.2/\X x.2<=66)(E:X xs<=1000)(b:Af (X xs) c a)(hc:c<=5)(u:yH 250 f)(H:0<X f)(P:X f<=66)(d:3000000<=fu):
 ∃t,q9 fu f (xs.map (·.1)) a (yp<|p^k)=Z (y7<|mh t<|p^k,a)/\yH 250 t/\X t<=1+c*66/\Cg (p^k) (G t) (F (G f<|X f-1)*pu (Gw xs a c)):=by
 have⟨Q,R⟩:=zz hp;have hd:=sC hp q;have hv:=im hp o;have e:a8 (yp<|p^k):=hd.okS gS;have S:=b.ln
 obtain⟨s,v,t,rfl,t1,t2,t3⟩:=ya (f:=kS fu (xs.map (·.1)) a<|yp<|p^k) (λs:N M×J×N J=>∃(i:K) (t:N M),i<=c/\s=(t,(i:J),a)/\yH 250 t/\X t<=1+i*66/\Cg (p^k) (G t) (F (G f<|X f-1)*pu (Gw xs a i))) (λs=>c-s.2.1.toNat)
  (λr=>∃t:N M,r=(t,a)/\yH 250 t/\X t<=1+c*66/\Cg (p^k) (G t) (F (G f<|X f-1)*pu (Gw xs a c))) (by
  rintro s L ⟨i,t,hi,rfl,h1,w,g⟩ y
  unfold kS
  simp only
  by_cases h:i<c
  ·have T:=b.lo i h
   have V:=b.hi i h
   have⟨j,l⟩:=xaA (W:0<=C a i)
   have A:=GM (xs:=xs) (i:=j) W
   have⟨n,Y,hl⟩:=hn _ A
   have hA:=n.len
   rw[zT,U O]
   simp only[uL]
   rw[zY,zf,Vp,l,zo (by rw[xbd];lia),zf,Na,U<|tP h1 n.rd.ok W W e d,zn,ziR W]
   simp only
   rw[zb]
   have l1:=YT (yS t (xs.getD j ([],[])).1)<|p^k
   have l2:=qB t (xs.getD j ([],[])).1
   refine y _ ⟨i+1,_,W,O,aa hd W,W,?_⟩ (by show c-((i:J)+1).toNat<c-(i:J).toNat;lia)
   refine(Xa _ _).trans ?_
   rw[vZ,zfB,zcA,l,xbc,<-zd]
   refine g.mul<|Cg.of ?_
   exact(ye _).symm
  ·rw[zB,U O]
   simp only[xak,ut]
   obtain rfl:i=c:=W
   exact⟨_,O,t,O,h1,w,g⟩) fu (f.drop (X f-1),0,a) ⟨0,_,xai _,O,λz B=>u z (xeO B),by rw[xbR];lia,by
   rw[FP]
   refine Cg.of<|funext λj=> ?_
   rw[show Gw xs a 0=[]from O,show pu []=F 1 from O,ye]
   cases j with
   |zero=>rfl
   |succ j=>exact zW (p:=[f.getD (X f-1) (I,[])]) gT⟩ (by show c-(0:J).toNat<fu;lia)
 refine⟨t,?_,t1,t2,t3⟩;unfold q9;rw[(W:(X f:J)-1=((X f-1:K):J)),zb,yR,yV,zf,U v];simp only;have D:yH 250 (mh t<|p^k):=yN λj=>Bz.near hd W;have hB:X (mh t<|p^k)<=X t:=by unfold mh;rw[xw];exact qg _ _
 rw[U<|sB t1 gS e W d,zn];unfold TE;rw[zB];simp only;rw[U<|wI D]
def Pw(hl:X a<=1000)(p:3000000<=fu):wb fu a x=Z (decide<|x∈a,a):=by
 unfold wb qo;have⟨s,g,l⟩:=ya (f:=vB fu a x) (λi:J=>0<=i/\i<=X a/\∀j:K,j<i->C a j≠x) (λi=>(X a-i).toNat) (λr:Z4⊕J=>(r=.inl ()/\¬x∈a)\/∃i:K,r=.inr (i:J)/\x∈a) (by
  rintro i L ⟨i1,i2,d⟩ n;obtain⟨k,rfl⟩:=xaA i1;unfold vB;by_cases h1:k<X a
  ·rw[zT,zo h1,zf,Vp];by_cases b:x=C a k
   ·rw[iq b];refine⟨_,O,.inr ⟨k,O,?_⟩⟩;rw[b,<-Vp,H1,xah h1];simp_all
   ·rw[ir b,zb];refine n _ ⟨W,W,λj c=> ?_⟩ W;by_cases e:j=k
    ·rw[e];exact λh=>b h.symm
    ·exact d j W
  ·rw[zB];refine⟨_,O,.inl ⟨O,λo=> ?_⟩⟩;have⟨j,c,e⟩:=xdN.1 o;refine d j W ?_;rw[<-Vp,H1,xah c];exact e) fu 0 ⟨W,W,λj c=>by lia⟩ W
 rw[g];rcases l with⟨rfl,h⟩|⟨i,rfl,h⟩
 ·rw[uT h];rfl
 ·rw[Z3 h];show(if(0:J)<=(i:J)then Z (wF,a)else Z (I,a))=Z (wF,a);rw[zT]
def H8{us:N (N M)}(hl:X us<=1000)(d:X a<=1000)(e:3000000<=fu):
 xL fu us a=Z (((xaH (X us)).filter λi:K=> !decide ((i:J)∈a)).map λi=>us.getD i [],a):=by
 unfold xL;rw[U (v:=(((xaH (X us)).filter λi:K=> !decide ((i:J)∈a)).map λi=>us.getD i [],a))];refine zA (λs:N (N M)×J×N J=>∃j:K,j<=X us/\s=(((xaH j).filter λi:K=> !decide ((i:J)∈a)).map λi=>us.getD i [],(j:J),a)) (λs=>X us-s.2.1.toNat) _ ?_ _ _ ⟨0,xai _,O⟩ (by show X us-0<fu;lia);rintro s L ⟨j,f,rfl⟩ c;unfold uc;simp only;by_cases h1:j<X us
 ·rw[zT,U O];simp only[uL];rw[zo h1,zf,U<|Pw d e];simp only;have hc:X ((xaH j).filter λi:K=> !decide ((i:J)∈a))<=j:=xal (xfI _ _) (by rw[xep];exact Nm j);by_cases b:(j:J)∈a
  ·rw[Z3 b,ir gS,zb];refine c _ ⟨j+1,W,?_⟩ (by show X us-((j:J)+1).toNat<X us-(j:J).toNat;lia);rw[xdl,List.filter_append,xfn (by rw[Z3 b];decide),List.filter_nil,xbP];rfl
  ·rw[uT b,iq gS,xB (by rw[xbd];simp only[xau,xbH];lia),zf,zb];refine c _ ⟨j+1,W,?_⟩ (by show X us-((j:J)+1).toNat<X us-(j:J).toNat;lia);rw[xdl,List.filter_append,xfm (by rw[uT b];decide),List.filter_nil,xaW];rfl
 ·rw[zB,U O];simp only[xak,ut];obtain rfl:j=X us:=W
  rfl
end
section
variable{M p:wl}{f q g f0:Pz}{k i fu:wr}{xs:xS Lx}{a:xS wl}
def Bdz(M:J)(f:S):Prop:=∀(u v:S) (b:K),Fs u->Tp v b->f=u*v->∀j,2*((v b*u j).natAbs:J)<M
def Bdz.dv(h:Bdz M f)(d:Nz g)(l:Fs g)(e:f=q*g):Bdz M q:=λu v b fu hv m j=>by
 have⟨a,c⟩:=Tp.ex l d;have h1:=h u (v*g) (b+a) fu (hv.mul c) (by rw[e,m,zd]) j;rw[Vz hv.2 c.2]at h1;have n:(v b*u j).natAbs<=(v b*g a*u j).natAbs:=by
  rw[Int.mul_right_comm,xcC<|v b*u j];exact xcf _ (by have:=c.1;lia)
 lia
def zoX{K:wr}(h:Bdz M f)(c:Nz g)(d:Fs g)(fq:Fs q)(e:f=q*g)(j:Bz K M)(k:wr):Bz K (q k):=by
 have⟨a,b⟩:=Tp.ex d c;have h1:=h q g a fq b e k;have l:(q k).natAbs<=(g a*q k).natAbs:=by
  rw[xcC];exact xdV _ (by have:=b.1;lia)
 exact j.le W
structure Gd(g:N Zr):Prop where
 can:zQ g=g
 ir:Ir (G g)
 ps:Po (G g)
 ok:yH 250 g
 ln:g.length<=11
structure Ch(p:J)(k:K)(f0:S)(F:N Zr)(xs:N Lx)(out:N (N Zr))(c:K):Prop where
 lc:Lc p k (G F) (F.length-1) xs
 k2:k<=1000
 can:zQ F=F
 ok:yH 250 F
 ln:F.length<=11
 bd:Bdz (p^k) (G F)
 ls:Ls p (G F) xs c
 ct:xs.length+out.length<=10
 pr:f0=prZ (out.map λg=>(G g:S))*G F
 gd:∀g∈out,Gd g
def Ch.l0{c:K}{F:N Zr}{out:N (N Zr)}(h:Ch p k f0 F xs out c):0<X F:=by
 have h1:=h.lc.tp.1;by_cases e:X F=0
 ·exact wR (zW W) h1
 ·lia
theorem zmP(c:2<=p)(d:∀x∈xs,VT p x.2)(Jc:xs.Pairwise λa b=>jF p (C a.2)<|C b.2){j:K}(hi:i<X xs)(e:j<X xs)(h:xs.getD i ([],[])=xs.getD j ([],[])):i=j:=by grind [VT.self,xdd]
theorem zfA(c:2<=p)(d:∀x∈xs,VT p x.2)(Jc:xs.Pairwise λa b=>jF p (C a.2)<|C b.2):xs.Nodup:=by grind [VT.self,xdd]
def SW{α:Type}(d:α)(xs:N α):xs=(xaH (X xs)).map λi=>xs.getD i d:=by
 refine xeT gT λi h1 b=> ?_;simp_all
theorem zbS{c:K}(d:Af (X xs) c a):∀x∈Gw xs a c,x∈xs:=λx e=>by
 obtain⟨j,b,rfl⟩:=xat.1 e;have b:=xbe.1 b;have h1:=d.hi j b;have h:=d.lo j b;grind
def zlk{c:K}(n:2<=p)(hc:∀x∈xs,VT p x.2)(Jc:xs.Pairwise λa b=>jF p (C a.2)<|C b.2)(l:Af (X xs) c a)(hi:i<X xs):xs.getD i ([],[])∈Gw xs a c↔(i:J)∈a:=by
 have hd:=l.ln;constructor
 ·intro h;have⟨j,d,e⟩:=xat.1 h;have d:=xbe.1 d;have h1:=l.hi j d;have r:=l.lo j d;have m:=zmP n hc Jc W hi e;have o:i=C a j:=W
  rw[o,<-Vp];simp_all
 ·intro h;have⟨j,d,e⟩:=xdN.1 h;have m:C a j=i:=by
   rw[<-Vp,H1,xah d];exact e
  exact xat.2 ⟨j,xbe.2 W,by rw[m];rfl⟩
theorem zaV{α:Type}(P:α->wW):∀l:N α,X (l.filter P)+X (l.filter λx=> !P x)=X l
 |[]=>rfl
 |x::l=>by
  have b:=zaV P l;grind
def SY{c:K}{F:N Zr}{out:N (N Zr)}(h:Ch p k f0 F xs out c)(hH:1<=c)(hI:c<=5)(H:Af (X xs) c a)(P:3000000<=fu):
 (qq fu (yp<|p^k) a (F,xs.map (·.1),out)=Z (a,.inl (F,xs.map (·.1),out))/\∀u v,Fs u->Fs v->cf F=u*v->¬KC u->own p u xs≠Gw xs a c)\/
 ∃y a',qq fu (yp<|p^k) a (F,xs.map (·.1),out)=Z (a',.inr y)/\∃F' E D,y=(F',E.map (·.1),D)/\Ch p k f0 F' E D c/\X E<X xs:=by
 have l:=h.lc;have hp:=l.hp;have⟨p1,p2⟩:=zz hp;have hz:=sC hp h.k2;have hZ:=im hp l.k1;have hJ:=h.l0;have h0:=h.ln;have h8:=h.ct;have hA:=λx hx=>(l.el x hx).2.1;have⟨t,t1,t2,t3,t4⟩:=zb3 (fu:=fu) hp l.k1 h.k2 l.el W H hI h.ok hJ W P;have⟨G,Q⟩:∃G,G=mh t (p^k):=⟨_,O⟩;rw[<-Q]at t1;have hC:∀j,cf G j=near (cf t j) (p^k):=λj=>by rw[Q];exact zgI t W j
 have hK:Cg (p^k) (cf G) (pc (cf F<|X F-1)*pu (Gw xs a c)):=Cg.trans (λj=>by rw[hC];exact zdu _) t4;have hM:yH 250 G:=by rw[Q];exact yN λj=>Bz.near hz W
 have h9:X G<=400:=by
  have:X (mh t<|p^k)<=X t:=by unfold mh;rw[xw];exact qg _ _
  rw[Q];lia
 have R:=n8 hM;have hN:=kF G;have h':=j7 G;have T:=K0 G;have hn:=vq G;have⟨g,hg⟩:∃g,g=y7 G:=⟨_,O⟩;rw[<-hg]at t1 R hN T hn;have r:∀u v,Fs u->Fs v->cf F=u*v->own p u xs=Gw xs a c->∃b,Tp v b/\(cf G:S)=pc (v b)*u:=λu v s V e ho=>by
  have⟨nu,nv⟩:=kT l.tp.nz e;have⟨d,hd⟩:=Tp.ex s nu;have⟨b,z⟩:=Tp.ex V nv;refine⟨b,z,qR λj=> ?_⟩;have h1:=l.up hd z e;have hO:d+b=X F-1:=by
   have:=hd.mul z;rw[<-e]at this;exact this.uniq l.tp
  have hP:cf F (X F-1)=u d*v b:=by rw[<-hO,e,Vz hd.2 z.2]
  rw[hC,zP];refine zhQ ?_ ?_
  ·have h2:Cg (p^k) (cf t) (pc (v b)*u):=by
    refine t4.trans ?_;rw[hP,<-ho,xbw,<-qf,zd];exact Cg.rfl.mul h1.symm
   rw[h2 j,zP]
  ·exact h.bd u v b s z e j
 have n:¬(Zd (cf g) (cf F)/\1<X g)->∀u v,Fs u->Fs v->cf F=u*v->¬KC u->own p u xs≠Gw xs a c:=λhQ u v s V e nc ho=>by
  have⟨b,z,A⟩:=r u v s V e ho;have⟨nu,_⟩:=kT l.tp.nz e;have hq:X (zQ G)≠0:=λe0=>by
   have⟨j,hj⟩:=nu;have:=ZP e0 j;rw[A,zP]at this;exact(xcG z.1 hj) this
  have⟨q1,q2⟩:=ZD hq;rw[<-hg]at q1 q2;have z1:Zd (cf g) (cf G):=⟨pc<|yn G,Fs.pc _,T.symm⟩;rw[A]at z1;have z2:=Zd.pm (Fs.cf g) q1 z.1 z1;refine hQ ⟨z2.trans ⟨v,V,by rw[e,zk]⟩,xae λhl=>nc λj hj=> ?_⟩;have h3:cf G j=0:=by rw[<-T,zP,zW W,xaz]
  rw[A,zP]at h3;obtain h4|h4:=xeI.1 h3
  ·exact wR h4 z.1
  ·exact h4
 have hB:∀{q:N Zr}{e:J},xR fu F g=Z (q,e)->qq fu (yp<|p^k) a (F,xs.map (·.1),out)=if e=0 then(if 1<(X g:J)then ck ((X out+1)*24<=140737488355328)<|B (out++[g]) λpr=>Y (xL fu (xs.map (·.1)) a) λw=>Z (w.2,.inr (q,w.1,pr))else Z (a,.inl (F,xs.map (·.1),out)))else Z (a,.inl (F,xs.map (·.1),out)):=λ{q e} hd=>by
  unfold qq;simp only;rw[U t1];simp only;rw[U hd]
 by_cases hr:X (zQ g)=0
 ·rw[hB<|Aq h.ok R gS gS W W hr P,ir gS];refine .inl ⟨O,n λhh=> ?_⟩;rw[hn]at hr;lia
 ·have⟨q,e,d1,d2,d3⟩:=QN (fu:=fu) h.ok R (by have:=xan (250+1) (W:X F+1<=12);lia) W W hr P;rw[hB d1];by_cases A:e=0
  ·by_cases hR:1<X g
   ·right;have⟨e1,e2,e3⟩:=d3 A;have hq:X (zQ G)≠0:=W
    have⟨q1,q2⟩:=ZD hq;rw[<-hg]at q1 q2;have hc:Tp (cf g) (X g-1):=by
     have:=kR (a:=g) W;rwa[hn]at this
    have⟨nq,ng⟩:=kT l.tp.nz e1;have hS:X (zQ q)≠0:=λe0=>by
     have⟨j,hj⟩:=nq;exact hj<|ZP e0 j
    have ht:Tp (cf q) (X q-1):=by
     have:=kR hS;rwa[e2]at this
    have o:(cf F:S)=cf g*cf q:=by rw[e1,zk]
    have L:¬KC (cf g):=λhD=>by
     have:=(KC.tp hc).1 hD;lia
    have hE:∀x∈xs,Di p (C x.2) (cf g)↔x∈Gw xs a c:=λx hx=>l.pick (zbS H) hc ht o (γ:=yn G) (by
     rw[T];exact(hK.down<|km l.k1).trans<|Cg.rfl.mul<|NN λy hy=>l.el y<|zbS H y hy) hx
    have hT:=zfA p1 hA l.pw;have hW:X (own p (cf g) xs)<=c:=by
     classical
     have h1:(own p (cf g) xs).Nodup:=by unfold own;exact hT.sublist List.filter_sublist
     have h2:=bE h1 (us:=Gw xs a c) λx hx=>(hE x (U6.1 hx).1).1 (U6.1 hx).2;have h3:X (Gw xs a c)=c:=by unfold Gw;simp
     lia
    have hU:=h.ls (cf g) (cf q) (Fs.cf g) (Fs.cf q) o L;have hF:=Ls.ir l h.ls hH (Fs.cf g) (Fs.cf q) o q1 L W;have hu:0<cf g (X g-1):=by
     have⟨m,m1,m2⟩:=q2.tp;have:=m1.uniq hc;rw[<-this];exact m2
    have hv:=l.step hc ht hu e1;have hX:X (own p (cf g) xs)+X (RJ p (cf g) xs)=X xs:=by
     classical
     unfold own RJ;exact zaV (λx:Lx=>decide<|Di p (C x.2)<|cf g) xs
    have hY:0<p^k:=W
    have hw:(((xaH (X (xs.map (·.1)))).filter λi:K=> !decide ((i:J)∈a)).map λi=>(xs.map (·.1)).getD i [])=(RJ p (cf g) xs).map (·.1):=by
     classical
     have e4:RJ p (cf g) xs=((xaH (X xs)).filter λi:K=> !decide ((i:J)∈a)).map λi=>xs.getD i ([],[]):=by
      unfold RJ;conv=>lhs;rw[SW ([],[]) xs]
      rw[List.filter_map];refine kW _<|List.filter_congr λi hi=> ?_;have hi:=xbe.1 hi;show(!decide (Di p (C (xs.getD i ([],[])).2)<|cf g))=_;have h5:=(hE _<|GM hi).trans<|zlk p1 hA l.pw H hi;by_cases h6:(i:J)∈a
      ·rw[Z3 h6,Z3<|h5.2 h6]
      ·rw[uT h6,uT λh7=>h6<|h5.1 h7]
     rw[e4,xdb,xbd];refine xci λi _=> ?_;exact Na
    have a0:=H.ln;refine⟨(q,(RJ p (cf g) xs).map (·.1),out++[g]),a,?_,q,RJ p (cf g) xs,out++[g],O,?_,W⟩
    ·rw[iq A,zT,yV,zf,U<|H8 (by rw[xbd];lia) W P,hw]
    ·have hV:∀j,Bz 250 (cf q j):=zoX h.bd ng (Fs.cf g) (Fs.cf q) e1 hz;refine⟨hv,h.k2,e2,by rw[<-e2];exact yN hV,W,h.bd.dv ng (Fs.cf g) e1,h.ls.step l (Fs.cf g) (Fs.cf q) e1,?_,?_,λx hx=> ?_⟩
     ·rw[xap,xeJ];lia
     ·rw[xaW,wi,h.pr,o];show prZ _*(cf g*cf q)=prZ _*(cf g*pc 1)*cf q;rw[ye,zd]
     ·obtain hx|hx:=So.1 hx
      ·exact h.gd x hx
      ·obtain rfl:=xad.1 hx;have:X x<=11:=by
        have:=(hc.mul ht).uniq (by rw[<-o];exact l.tp);lia
       exact⟨hn,hF,q2,R,this⟩
   ·rw[iq A,zB];exact .inl ⟨O,n λhh=>hR hh.2⟩
  ·rw[ir A];exact .inl ⟨O,n λhh=>A<|d2.2 hh.1⟩
def zlg{is:N (Fin (X xs))}(hp:is.Pairwise (· < ·)):Af (X xs) (X is) (is.map λi=>(i.val:J))/\Gw xs (is.map λi=>(i.val:J)) (X is)=is.map (xs[·]):=by
 have b:∀j (c:j<X is),C (is.map λi=>(i.val:J)) j=(is[j].val:J):=λj c=>by
  rw[<-Vp,H1,xcg,xah c];rfl
 have hc:∀i j (hi:i<X is) (c:j<X is),i<j->is[i].val<is[j].val:=λi j hi c h=>xdd.1 hp i j hi c h;have hd:∀d i (hi:i+d<X is),is[i].val+d<=is[i+d].val:=λd=>by
  induction d with
  |zero=>intro i hi;exact Nm _
  |succ d l=>
   intro i hi;have h1:=l i W;have e:=hc (i+d) (i+(d+1)) W hi W;lia
 refine⟨⟨gT,λi hi=> ?_,λi hi=> ?_,λi hi=> ?_⟩,?_⟩
 ·rw[b i hi];have:=hd i 0 W;simp only[xaJ]at this;lia
 ·rw[b i hi];have h1:=hd (X is-1-i) i W;have e:=is[i+(X is-1-i)].isLt;lia
 ·rw[b i W,b (i+1) hi];have:=hc i (i+1) W hi W;lia
 ·unfold Gw;refine xeT gT λi h1 e=> ?_;rw[xbd]at e;rw[List.getElem_map,List.getElem_range,List.getElem_map,b i e,xbc,H1,xah is[i].isLt];rfl
theorem NK{F:List Zr}(h0:Ch p k f0 F xs [] 1)(hf:3000000<=fu):
 ∃s,zg (fun L x=>ZU fu (yp<|p^k) x L) fu (F,xs.map (·.1),[],1)=some s/\∃(F:List Zr) (xs:List Lx) (out:List (List Zr)) (c:Nat),s=(F,xs.map (·.1),out)/\Ch p k f0 F xs out c/\xs.length<2*c:=by
 exact ya (f:=fun L x=>ZU fu (yp<|p^k) x L) (fun s:List Zr×List (List Zr)×List (List Zr)×Int=>∃(F:List Zr) (xs:List Lx) (out:List (List Zr)) (c:Nat),s=(F,xs.map (·.1),out,(c:Int))/\Ch p k f0 F xs out c/\1<=c/\c<=6) (fun s=>s.2.1.length*20+(20-s.2.2.2.toNat))
  (fun r=>∃(F:List Zr) (xs:List Lx) (out:List (List Zr)) (c:Nat),r=(F,xs.map (·.1),out)/\Ch p k f0 F xs out c/\xs.length<2*c) (by
  rintro s L ⟨F,xs,out,c,rfl,hC,hc,hi⟩ ih
  unfold ZU
  simp only
  have hk:=hC.ct
  rw[zb,xbd]
  by_cases h2:2*c<=xs.length
  ·rw[zT]
   have hd:=fun a ha=>SY (fu:=fu) (a:=a) hC hc (show c<=5 by lia) ha hf
   rcases Lz (fu:=fu) (N:=xs.length) (c:=c) (g:=qq fu<|yp<|p^k) (x0:=(F,xs.map (·.1),out)) (Rej:=fun a=>∀u v,Fs u->Fs v->cf F=u*v->¬KC u->own p u xs≠Gw xs a c) (Acc:=fun a y=>∃F' xs' out',y=(F',xs'.map (·.1),out')/\Ch p k f0 F' xs' out' c/\xs'.length<xs.length) hc (by lia) (by lia) (by lia) hf hd with⟨e,hr⟩|⟨a,y,ha,⟨F',xs',out',rfl,hj,hl⟩,e⟩
   ·rw[za e]
    rw[Sum.elim_inl]
    simp only
    rw[zb]
    refine ih _ ⟨F,xs,out,c+1,by rw[show((c+1:Nat):Int)=(c:Int)+1 by lia],?_,by lia,by lia⟩ (by
     show(xs.map (·.1)).length*20+(20-((c:Int)+1).toNat)<(xs.map (·.1)).length*20+(20-(c:Int).toNat);lia)
    refine⟨hC.lc,hC.k2,hC.can,hC.ok,hC.ln,hC.bd,fun u v fu' fv e nc=> ?_,hC.ct,hC.pr,hC.gd⟩
    have h3:=hC.ls u v fu' fv e nc
    by_cases h4:(own p u xs).length=c
    ·exfalso
     have he:(own p u xs).Sublist xs:=by unfold own;exact List.filter_sublist
     obtain⟨is,e5,e6⟩:=List.sublist_eq_map_getElem he
     obtain⟨i1,i2⟩:=zlg e6
     have hg:is.length=c:=by rw[<-h4,e5,xbd]
     rw[hg]at i1 i2
     exact hr _ i1 u v fu' fv e nc<|by rw[i2,e5]
    ·lia
   ·rw[za e]
    rw[Sum.elim_inr]
    refine ih _ ⟨F',xs',out',c,rfl,hj,hc,hi⟩ ?_
    show(xs'.map (·.1)).length*20+(20-(c:Int).toNat)<(xs.map (·.1)).length*20+(20-(c:Int).toNat)
    rw[xbd,xbd]
    lia
  ·rw[zB]
   exact⟨_,rfl,F,xs,out,c,rfl,hC,by lia⟩) fu (F,xs.map (·.1),[],1) ⟨F,xs,[],1,rfl,h0,by lia,by lia⟩ (by
   show(xs.map (·.1)).length*20+(20-(1:Int).toNat)<fu
   rw[xbd]
   have:=h0.ct
   lia)
def RE{F:N Zr}(h0:Ch p k (G F) F xs [] 1)(o:3000000<=fu):
 ∃out,Zz fu F (xs.map (·.1)) (yp<|p^k)=Z out/\X out<=11/\(∀g∈out,Gd g)/\G F=prZ (out.map λg=>(G g:S)):=by
 have⟨f0,hc⟩:∃f0:S,f0=G F:=⟨_,O⟩;rw[<-hc]at h0⊢;obtain⟨s,r,b,l,j,n,rfl,c,z⟩:=NK h0 o;unfold Zz;rw[U r];simp only;have hl:=c.ct;have A:=c.l0;have hn:=c.ln;have m:=c.lc.pm;by_cases h1:1<X b
 ·have B:X (zQ b)≠0:=by rw[c.can];lia
  have t:yn b=1:=by
   have u:=pZ b;rw[c.can]at u;have v:=(m _ (nH λk w=>zW w):XD (G b) (X b)=1);have a3:yn b=if G (zQ b) (X (zQ b)-1)<0 then-((XD (G b) (X (zQ b)):K):J)else((XD (G b) (X (zQ b)):K):J):=O;rw[c.can,ir (by have:=c.lc.ps;lia),v]at a3;exact a3
  have x:y7 b=b:=Jy (vq b) c.can λk=>by rw[uJ,t,Int.ediv_one]
  have hi:Ir (G b):=by
   have y:¬KC (G b):=λh=>by have:=(KC.tp c.lc.tp).1 h;lia
   have hc1:1<=n\/n=0:=W
   obtain hc1|hc1:=hc1
   ·refine Ls.ir c.lc c.ls hc1 (Fs.cf b) (Fs.pc 1) (ye _).symm m y ?_;have:X (own p (G b) l)<=X l:=by unfold own;exact xfI _ _
    lia
   ·lia
  refine⟨j++[b],?_,by rw[xap,xeJ];lia,λg hg=> ?_,?_⟩
  ·rw[zT,U<|wI c.ok,x,yV,zf]
  ·obtain hg|hg:=So.1 hg
   ·exact c.gd g hg
   ·obtain rfl:=xad.1 hg;exact⟨c.can,hi,⟨_,c.lc.ps,c.lc.tp.2⟩,c.ok,c.ln⟩
  ·rw[c.pr,xaW,wi];show _=prZ _*(G b*pc 1);rw[ye]
 ·refine⟨j,by rw[zB],W,c.gd,?_⟩;have⟨d,hd⟩:=((KC.tp c.lc.tp).2 W).ex;rw[hd]at m;have C:=c.lc.ps;have D:G b (X b-1)=d:=by rw[hd,(W:X b-1=0)];exact iq O
  rw[c.pr,hd];obtain e|e:=DT m
  ·rw[e,ye]
  ·lia
end
section
variable{a b K fu bx by_:wr}{x y:wl}
def Bb(b:wr)(x:J):Prop:=x.natAbs<2^b
def Bb.mono(h:Bb a x)(c:a<=b):Bb b x:=xao h<|xav gS c
def Bb.mul(c:Bb a x)(d:Bb b y):Bb (a+b) (x*y):=by
 unfold Bb at*
 rw[xcC,xbz];by_cases h:y.natAbs=0
 ·rw[h,xcK];exact Nat.mul_pos (xaU gS)<|xaU gS
 ·exact Nat.mul_lt_mul_of_lt_of_le c (xda d) W
theorem Bb.sub(c:Bb b x)(d:Bb b y):Bb (b+1) (x-y):=by grind [Bb,xbf]
def Bb.zero(b:wr):Bb b 0:=xaU gS
def Bb.bz(h:Bb b x)(c:b<=64*K):Bz K x:=by
 unfold Bz;rw[(gS:(18446744073709551616:wr)=2^64),<-xcz];exact xao h<|xav gS c
def Bb.le(c:Bb b y)(h:x.natAbs<=y.natAbs):Bb b x:=xaK h c
def Bb.pow{b:wr}{x:J}(h:Bb b x):∀n,Bb (n*b+1) (x^n)
 |0=>by rw[xcl];unfold Bb;rw[xcu];decide
 |n+1=>by
  rw[xbY,xbb,xcy,Nat.add_right_comm];exact(Bb.pow h n).mul h
def Bb.pow'{b:wr}{x y:J}{c:wr}(h:Bb b x)(d:Bb c y):∀n,Bb (n*b+c) (x^n*y)
 |0=>by rw[xcl,xcY,xcu,xaJ];exact d
 |n+1=>by
  rw[xbY,Int.mul_right_comm,xbb,xcy,Nat.add_right_comm];exact(Bb.pow' h d n).mul h
def AD{n:wr}{a:J}(hn:n<=65536)(e:∀d,d<=n->Bz K (a^d))(h1:Bz K a)(g:K<=40000)(c:3000000<=fu):wC fu (yp a) (n:J)=Z (yp<|a^n):=by
 unfold wC;rw[U<|ym gS c,U (v:=yp<|a^n)];refine zA (λs:J×M=>∃i:wr,s=((i:J),yp<|a^i)/\i<=n) (λs=>n-s.1.toNat) _ ?_ _ _ ⟨0,by rw[xcl];rfl,xai _⟩ (by show n-0<fu;lia);rintro s L ⟨i,rfl,hi⟩ f;unfold dS;simp only;by_cases h:i<n
 ·rw[zT,U<|yv ((e i hi).ok W) (h1.ok W) c,zn,zn,zb,<-xbY];exact f _ ⟨i+1,O,W⟩ (by show n-((i:J)+1).toNat<n-(i:J).toNat;lia)
 ·rw[zB];obtain rfl:i=n:=W
  rfl
structure PsI(x y:S)(l:J)(ly n bx by_ k:wr)(Q ρ:S):Prop where
 fq:Fs Q
 eq:F (l^(n-k))*x=Q*y+ρ
 z:∀j,k+(ly-1)<=j->ρ j=0
 b:∀j,Bb (bx+(n-k)*(by_+1))<|ρ j
def PsI.step{x y:S}{l:J}{c n k:wr}{Q ρ:S}(h:PsI x y l c n bx by_ (k+1) Q ρ)(m:k+1<=n)(f:Tp y (c-1))(hl:y (c-1)=l)(d:∀j,Bb by_<|y j):
 PsI x y l c n bx by_ k (F l*Q+mono k (ρ<|k+(c-1))) (λj=>l*ρ j-ρ (k+(c-1))*sh y k j):=by
 have e1:n-k=n-(k+1)+1:=W
 have g:bx+(n-k)*(by_+1)=by_+(bx+(n-(k+1))*(by_+1))+1:=by rw[e1,xbb];lia
 refine⟨((Fs.pc l).mul h.fq).add ⟨k+1,λj i=>zB⟩,?_,λj i=> ?_,λj=> ?_⟩
 ·rw[e1,xbY,xbw,<-qf,zd,h.eq,xH,yF,zd];funext j;rw[zK,zK,zK,jj,zP l ρ];show _=_+_+(l*ρ j-ρ (k+(c-1))*sh y k j);lia
 ·show l*ρ j-ρ (k+(c-1))*sh y k j=0;unfold sh;rw[zT];by_cases e:j=k+(c-1)
  ·rw[e,(W:k+(c-1)-k=c-1),hl,xbw];lia
  ·rw[h.z j W,f.2 _ W];lia
 ·rw[g];refine Bb.sub ((show Bb by_ l by rw[<-hl];exact d _).mul<|h.b j) ?_;rw[xdA by_];refine(h.b _).mul ?_;unfold sh;split
  ·exact d _
  ·exact Bb.zero _
def zgF{n:wr}{l:N M}(j:wr):G (xac n (I,[])++l) j=sh (G l) n j:=by
 unfold sh;by_cases h:n<=j
 ·rw[iq h];unfold G;rw[H1,xbj (by rw[xaZ];exact h),xaZ,<-H1]
 ·rw[ir h];unfold G;rw[H1,xaR (by rw[xaZ];lia),List.getElem?_replicate];rw[zT];rfl
def pX{x y:N M}(hx:zQ x=x)(o:zQ y=y)(hl:X y<=X x)(hJ:0<X y)(hK:X x<=60)(bX:∀j,Bb bx<|G x j)(B:∀j,Bb by_<|G y j)(hT:bx+(X x-X y+1)*(by_+1)<=2400000)(i:3000000<=fu):
 ∃q r c Q,kI fu x y=Z (q,r,0)/\zQ r=r/\X r<X y/\c≠0/\Fs Q/\(F c*G x:S)=Q*G y+G r/\∀j,Bb (bx+(X x-X y+1)*(by_+1)) (G r j):=by
 have⟨n,hn⟩:∃n,n=X x-X y+1:=⟨_,O⟩;rw[<-hn]at hT⊢;have⟨T,hL⟩:∃T,T=bx+n*(by_+1):=⟨_,O⟩;have ty:Tp (G y) (X y-1):=by
  have:=kR (a:=y) (by rw[o];lia);rwa[o]at this
 have⟨l,C⟩:∃l,l=G y (X y-1):=⟨_,O⟩;have p:l≠0:=by rw[C];exact ty.1
 have g:Bb by_ l:=by rw[C];exact B _
 have V:∀d,d<=n->d*(by_+1)<=n*(by_+1):=λd hd=>xan _ hd;have Y:∀d:wr,d*(by_+1)=d*by_+d:=λd=>by rw[xbk,xdU]
 have hM:by_+1<=T:=by have:=V 1 W;rw[xcy]at this;lia
 have oX:yH 37500 x:=by rw[<-hx];exact yN λj=>(bX j).bz W
 have oY:yH 37500 y:=by rw[<-o];exact yN λj=>(B j).bz W
 have u:∀d,d<=n->Bz 37501 (l^d):=λd hd=>(Bb.pow g d).bz (by have:=V d hd;have:=Y d;lia);have v:∀d,d<=n->∀z,Bb (bx+(n-d)*(by_+1)) z->Bb T (l^d*z):=λd hd z hz=>(Bb.pow' g hz d).mono (by
  have h1:=Y d;have h2:n*(by_+1)=d*(by_+1)+(n-d)*(by_+1):=by rw[<-xbb];congr 1;lia
  lia)
 have hB:y.getD (X y-1) (I,[])=yp l:=by rw[C];exact BD (show y=wk (X y) (G y)from o.symm)
 have⟨r0,hi⟩:∃r0,r0=wk (X x) (λj=>G x j*l^n):=⟨_,O⟩;have ht:∀j,G r0 j=l^n*G x j:=λj=>by rw[hi,jo (λj D=>by rw[zW D,xba]),xbw]
 obtain⟨s,hs,r,q,rfl,ρ,Q,r1,r2,E,r4⟩:=ya (f:=Vt fu<|yp l) (λs:N M×N M×J×N M=>∃(k:wr) (r q:N M),s=(y,r,(k:J)-1,q)/\k<=n/\zQ r=r/\X r<=X x+60*(n-k)/\X q=n/\yH 37500 q/\∃Q ρ,PsI (G x) (G y) l (X y) n bx by_ k Q ρ/\∀j,G r j=l^k*ρ j) (λs=>(s.2.2.1+1).toNat)
  (λt=>∃(r q:N M),t=(r,q)/\∃ρ Q,zQ r=r/\(X q=n/\yH 37500 q)/\PsI (G x) (G y) l (X y) n bx by_ 0 Q ρ/\∀j,G r j=ρ j) (by
  rintro s L ⟨k,r,q,rfl,hk,H,hN,hp,hq,Q,ρ,m,hc⟩ ih
  unfold Vt
  simp only
  cases k with
  |zero=>
   rw[zB]
   exact⟨_,O,r,q,O,ρ,Q,H,⟨hp,hq⟩,m,λj=>by rw[hc j,xcl,xcY]⟩
  |succ k=>
   have hH:60*(n-(k+1))+60=60*(n-k):=W
   have hO:60*(n-k)<=60*60:=xaD _ W
   have hu:=m.step hk ty C.symm B
   have bR:∀j,Bb T (G r j):=λj=>by rw[hc j];exact v (k+1) hk _<|m.b j
   have oR:yH 37500 r:=by rw[<-H];exact yN λj=>(bR j).bz W
   rw[(W:((k+1:wr):J)-1=(k:J)),zT,zb]
   by_cases hP:X r<k+X y
   ·have hC:ρ (k+(X y-1))=0:=by
     have h1:=hc<|k+(X y-1);rw[zW W]at h1;obtain h2|h2:=xeI.1 h1.symm
     ·exact wR h2<|Int.pow_ne_zero p
     ·exact h2
    rw[zT,zb]
    refine ih _ ⟨k,r,q,O,W,H,W,hp,hq,_,_,hu,λj=> ?_⟩ (by show((k:J)-1+1).toNat<(((k+1:wr):J)-1+1).toNat;lia)
    show G r j=l^k*(l*ρ j-ρ (k+(X y-1))*sh (G y) k j)
    rw[hC,xba,xdc,hc j,xbY,xdg]
   ·have hD:X r=k+X y:=by
     by_cases e:X r=k+X y
     ·exact e
     ·exfalso;have h1:=YX (show r=wk (X r) (G r)from H.symm) W;rw[hc,m.z _ W,xaz]at h1;exact h1 O
    have⟨w,P⟩:∃w,w=ρ (k+(X y-1)):=⟨_,O⟩
    have hF:G r (k+(X y-1))=l^k*w*l:=by rw[hc,<-P,xbY,Int.mul_right_comm]
    have bw:Bb T (l^k*w):=by
     refine v k W w ((m.b _).mono ?_|>λh=>by rw[P];exact h);have:=V (n-(k+1)) W;have h3:(n-k)*(by_+1)=(n-(k+1))*(by_+1)+(by_+1):=by rw[(W:n-k=n-(k+1)+1),xbb,xcy]
     lia
    have a0:∀j,Bb T (G y j*(l^k*w)):=λj=>by
     have h1:Bb (by_+(k*by_+(bx+(n-(k+1))*(by_+1)))) (G y j*(l^k*w)):=(B j).mul<|Bb.pow' g (by rw[P];exact m.b _) k;refine h1.mono ?_;have h2:n*(by_+1)=(k+1)*(by_+1)+(n-(k+1))*(by_+1):=by rw[<-xbb];congr 1;lia
     have h3:=Y<|k+1;rw[xbb k 1 by_,xcy]at h3;lia
    have hE:exE (l^k*w*l) l=0:=by unfold exE;rw[ir p,iq<|Int.mul_emod_left _ _]
    have hX:SD (l^k*w*l) l=l^k*w:=by unfold SD;rw[ir p,iq<|Int.mul_emod_left _ _,Int.mul_ediv_cancel _ p]
    rw[zB,zb,(W:(k:J)+(X y:J)-1=((k+(X y-1):wr):J)),zb,zY,zf,U<|kz (oR.okS gS _) ((g.bz (K:=37500) W).okS gS) i,Z8,zn,hF,hX,hE]
    simp only
    have hv:(q.set k<|yp<|l^k*w).getD k (I,[])=yp (l^k*w):=by rw[H1,xdW W];rfl
    rw[zY,zf,yR,yV,zf,zo (by rw[xbC];lia),zf,hv,U<|jy (l:=37500) oY ⟨yG _,(bw.bz (K:=37500) W).len⟩ gS W i,zn]
    have⟨part,R⟩:∃part,part=wk (X y) (λj=>G y j*(l^k*w)):=⟨_,O⟩
    have hG:∀j,G part j=G y j*(l^k*w):=λj=>by rw[R,jo<|λj D=>by rw[zW D,xba]]
    have hQ:X part<=X y:=by rw[R,xw];exact qg _ _
    have a1:yH 37500 part:=by rw[R];exact yN λj=>(a0 j).bz W
    have A:yH 37500 (xac k (I,[])++part):=λz hz=>by
     obtain hz|hz:=So.1 hz
     ·rw[(List.mem_replicate.1 hz).2];exact⟨zm.nil,xai _⟩
     ·exact a1 z hz
    rw[<-R,xB (by rw[xaZ];lia),zf,U<|uj oR A gS W (by rw[xap,xaZ];lia) i,zb]
    refine ih _ ⟨k,_,_,O,W,(kZ _ _).symm,?_,by rw[xbC];exact hp,?_,_,_,hu,λj=> ?_⟩ (by show((k:J)-1+1).toNat<(((k+1:wr):J)-1+1).toNat;lia)
    ·have:=Uv r<|xac k (I,[])++part
     rw[xap,xaZ]at this
     lia
    ·intro z hz
     obtain h1|h1:=xej hz
     ·exact hq z h1
     ·rw[h1];exact⟨yG _,(bw.bz (K:=37500) W).len⟩
    ·rw[IK,zgF,hc j]
     show l^(k+1)*ρ j-sh (G part) k j=l^k*(l*ρ j-ρ (k+(X y-1))*sh (G y) k j)
     rw[<-P]
     have e2:sh (G part) k j=l^k*(w*sh (G y) k j):=by
      unfold sh;split
      ·rw[hG,xbw,xdg]
      ·rw[xaz,xaz]
     rw[e2,xbY,Int.mul_sub,xdg]) fu (y,r0,(n:J)-1,xac n (I,[])) ⟨n,r0,_,O,Nm _,by rw[hi];exact(kZ _ _).symm,by rw[hi,xw];have:=qg (λj=>G x j*l^n) (X x);lia,xaZ,λz hz=>by rw[(List.mem_replicate.1 hz).2];exact⟨zm.nil,xai _⟩,F 0,G x,⟨Fs.pc 0,by
    rw[xcQ,xcl,zw,yf];exact qR λj=>by rw[zK,zJ,xcE],λj D=>zW W,λj=>by rw[xcQ,xcu];exact bX j⟩,ht⟩ (by show((n:J)-1+1).toNat<fu;lia)
 refine⟨wk (X q)<|G q,r,l^n,Q,?_,r1,?_,Int.pow_ne_zero p,E.fq,?_,λj=>by rw[r4 j];exact E.b j⟩
 ·unfold kI;have hA:max ((X x:J)-X y+1) 0=(n:J):=W
  rw[U<|zI oX gS W i,U<|zI oY gS W i,show wk (X x) (G x)=x from hx,show wk (X y) (G y)=y from o,zB,zb,zb,zf,hA,(W:(X y:J)-1=((X y-1:wr):J)),zb,zY,zf,hB,U<|AD W u ((g.bz (K:=37501) W)) gS i,U<|jy (l:=37501) oX ⟨yG _,(u n<|Nm _).len⟩ gS W i,zn,<-hi,yR,yV,zf,zb,U hs];simp only;rw[U<|zI r2.2 gS W i]
 ·by_cases e:X r=0
  ·lia
  ·have h1:=YX (show r=wk (X r) (G r)from r1.symm) e;by_cases h2:X r<X y
   ·exact h2
   ·rw[r4,E.z _ W]at h1;exact wR O h1
 ·have:=E.eq;rw[Nat.sub_zero]at this;rw[this,show(G r:S)=ρ from qR r4]
end
section
def fac:K->J
 |0=>1
 |n+1=>((n+1:K):J)*fac n
def ZS:∀n,0<fac n
 |0=>by decide
 |n+1=>Int.mul_pos W<|ZS n
def ip(n:K)(f g:S):J:=yi (n+1) λs=>fac s*fac (n-s)*(f s*g s)
theorem Qv(n:K)(f g:S):ip n f g=ip n g f:=yq λs _=>by rw[xbw<|f s]
theorem SZ(n:K)(f g h:S):ip n (f+g) h=ip n f h+ip n g h:=by
 unfold ip;rw[<-YB];exact yq λs _=>by rw[zK,Int.add_mul,xfx]
def AY(n:K)(f g h:S):ip n h (f+g)=ip n h f+ip n h g:=by grind [Qv,SZ]
def MX(n:K)(c:J)(f h:S):ip n (F c*f) h=c*ip n f h:=by
 unfold ip;rw[<-uy];exact yq λs _=>by rw[zP,xdg c<|f s,Int.mul_left_comm]
def sF(n:K)(c:J)(f h:S):ip n h (F c*f)=c*ip n h f:=by rw[Qv,MX,Qv]
def LJ{f:K->J}:∀{n},(∀k,k<n->0<=f k)->0<=yi n f
 |0,_=>xfy 0
 |n+1,h=>Int.add_nonneg (LJ λk a=>h k W)<|h n W
def zj1(n:K)(f:S):0<=ip n f f:=LJ λs _=>xcJ (xcJ (xdG<|ZS _)<|xdG<|ZS _)<|Yi _
def xP:S:=mono 1 1
def zoV(f:S):(xP*f) 0=0:=by
 unfold xP;rw[jj];rfl
def zo7(f:S)(k:K):(xP*f) (k+1)=f k:=by simp_all [sh,xP,jj]
def adx(n:K)(f g:S):ip (n+1) (xP*f) g=ip n f (dvp g):=by
 unfold ip;rw[uI,zoV,xba,xaz,xcE];refine yq λs a=> ?_;rw[zo7,(W:n+1-(s+1)=n-s)];show((s+1:K):J)*fac s*fac (n-s)*(f s*g (s+1))=fac s*fac (n-s)*(f s*(((s+1:K):J)*g (s+1)));grind
def dy(n:K)(f:S):S:=F (n:J)*f-xP*dvp f
def PW(n:K)(f:S)(k:K):dy n f k=((n:J)-k)*f k:=by
 unfold dy;rw[yx,zP]
 cases k with
 |zero=>rw[zoV];grind
 |succ k=>
  rw[zo7];show n*f (k+1)-((k+1:K):J)*f (k+1)=_;grind
def ady(n:K)(f g:S)(a:f (n+1)=0):ip (n+1) f g=ip n f (dy (n+1) g):=by
 show yi (n+1) _+fac (n+1)*fac (n+1-(n+1))*(f (n+1)*g (n+1))=_;rw[a,xba,xaz,xbZ];refine yq λs b=> ?_;rw[PW,(W:n+1-s=(n-s)+1)];show fac s*(((n-s+1:K):J)*fac (n-s))*(f s*g s)=_;grind
def eul(n:K)(f:S):F (n:J)*f=xP*dvp f+dy n f:=by
 unfold dy;funext k;rw[zK,yx];lia
def zl5(n m:K)(f g:S):dy (n+m) (f*g)=dy n f*g+f*dy m g:=by
 have h1:F ((n+m:K):J)*(f*g)=F n*f*g+f*(F m*g):=by
  rw[zC f,zd];funext k;rw[zK,zP,zP,zP];grind
 have a:xP*(dvp f*g+f*dvp g)=xP*dvp f*g+f*(xP*dvp g):=by rw[xH,zd,zC f]
 unfold dy;rw[VZ,h1,a,qp,wm];funext k;simp only[zK,yx];lia
def zgp(n:K)(f:S):dvp (dy (n+1) f)=dy n (dvp f):=qR λk=>by
 rw[PW];show((k+1:K):J)*dy (n+1) f (k+1)=(n-k)*(((k+1:K):J)*f (k+1));rw[PW];grind
def Dg(n:K)(f:S):Prop:=∀k,n<k->f k=0
def Dg.dx{n:K}{f:S}(h:Dg (n+1) f):Dg n (dvp f):=λk a=>by
 show((k+1:K):J)*f (k+1)=0;rw[h _ W,xaz]
def Dg.dy{n:K}{f:S}(h:Dg (n+1) f):Dg n (dy (n+1) f):=λk a=>by
 rw[PW];by_cases e:k=n+1
 ·simp_all
 ·rw[h k W,xaz]
def Dg.mul{n m:K}{f g:S}(a:Dg n f)(b:Dg m g):Dg (n+m) (f*g):=λk d=>kL (n:=n+1) (m:=m+1) (λj c=>a j W)<|λj c=>b j W
def Dg.add{n:K}{f g:S}(b:Dg n f)(c:Dg n g):Dg n (f+g):=λk a=>by rw[zK,b k a,c k a];rfl
def Dg.num{f:S}(h:Dg 0 f):f=F (f 0):=qR λk=>by
 unfold F;by_cases e:k=0
 ·simp_all
 ·rw[ir e,h k W]
section
variable(a:wr)(u:Pz)
def zjX{m b q0:K}{v p q:S}(hp:Dg (m+1) p)(c:Dg a u)(e:b+q0=m+1+a):
 ((m+1:K):J)*ip (m+1+a) (p*u) (v*q)=ip (m+a) (dvp p*u) (dvp v*q)+ip (m+a) (dy (m+1) p*u) (dy b v*q)+(ip (m+a) (dvp p*u) (v*dvp q)+ip (m+a) (dy (m+1) p*u) (v*dy q0 q)):=by
 rw[<-MX,<-zd,eul,yF,SZ,zd,(W:m+1+a=m+a+1),adx,ady _ _ _ (hp.dy.mul c _ W),VZ,AY,(W:m+a+1=b+q0),zl5,AY];lia
def Fk:K->K->K->S->S->S->J
 |0,b,_,v,p,q=>ip (b+a) (p*u)<|v*q
 |k+1,b,c,v,p,q=>Fk k (b-1) (c-1) v (dvp p) (dvp q)+Fk k (b-1) (c-1) v (dy b p) (dy c q)
def LV(c:Dg a u):∀(k:K) {m b q0:K}{v p q:S},k<=m->m<=q0->b+(q0+1)=m+1+a->Dg (m+1) p->
 ((m+1:K)-(k:J))*Fk a u k (m+1) (q0+1) v p q=Fk a u k m (q0+1) (dvp v) (dvp p) q+Fk a u k m (q0+1) (dy b v) (dy (m+1) p) q+Fk a u (k+1) (m+1) (q0+1) v p q
 |0,m,b,q0,v,p,q,_,_,e,hp=>by
  have:=zjX a u (v:=v) (q:=q) hp c e;assumption
 |k+1,0,_,_,_,_,_,h,_,_,_=>by lia
 |k+1,m+1,b,0,_,_,_,_,h,_,_=>by lia
 |k+1,m+1,b,q0+1,v,p,q,h1,d,e,hp=>by
  have i1:=LV c k (b:=b) (q0:=q0) (v:=v) (q:=dvp q) W W W hp.dx;have i2:=LV c k (b:=b) (q0:=q0) (v:=v) (q:=dy (q0+1+1) q) W W W hp.dy;rw[zgp]at i2;show((m+1+1:K)-((k+1:K):J))*(Fk a u k (m+1) (q0+1) v (dvp p) (dvp q)+Fk a u k (m+1) (q0+1) v (dy (m+1+1) p) (dy (q0+1+1) q))=Fk a u k m (q0+1) (dvp v) (dvp<|dvp p) (dvp q)+Fk a u k m (q0+1) (dvp v) (dy (m+1)<|dvp p) (dy (q0+1+1) q)+(Fk a u k m (q0+1) (dy b v) (dvp<|dy (m+1+1) p) (dvp q)+Fk a u k m (q0+1) (dy b v) (dy (m+1)<|dy (m+1+1) p) (dy (q0+1+1) q))+(Fk a u (k+1) (m+1) (q0+1) v (dvp p) (dvp q)+Fk a u (k+1) (m+1) (q0+1) v (dy (m+1+1) p) (dy (q0+1+1) q));rw[zgp,(W:((m+1+1:K)-((k+1:K):J))=((m+1:K)-(k:J))),xfx];lia
def pD:K->K->S->S->S
 |0,_,p,q=>p*q
 |k+1,b,p,q=>pD k (b-1) (dvp p) (dvp q)+pD k (b-1) (dy (k+1) p) (dy b q)
def zfg:∀(k:K) {b:K}{v p q:S},Dg k p->Fk a u k k b v p q=ip a u (v*pD k b p q)
 |0,b,v,p,q,h=>by
  show ip (0+a) (p*u) (v*q)=ip a u (v*(p*q));rw[h.num,xaJ,MX,zC,sF]
 |k+1,b,v,p,q,h=>by
  show Fk a u k k (b-1) v (dvp p) (dvp q)+Fk a u k k (b-1) v (dy (k+1) p) (dy b q)=ip a u (v*(pD k (b-1) (dvp p) (dvp q)+pD k (b-1) (dy (k+1) p) (dy b q)));rw[zfg k h.dx,zfg k h.dy,xH,AY]
end
def zeq:∀(k:K) {d:K}{p q:S},Dg k p->Dg (k+d) q->Dg d (pD k (k+d) p q)
 |0,d,p,q,hp,a=>by
  have:=hp.mul a;rw[xaJ,xaJ]at this;exact this
 |k+1,d,p,q,hp,a=>by
  rw[(W:k+1+d=k+d+1)]at a⊢;exact(zeq k hp.dx a.dx).add<|zeq k hp.dy a.dy
def zfG:∀(k:K) {d:K}{p q g:S},Dg k p->Dg d g->fac k*ip (k+d) q (p*g)=ip d (pD k (k+d) p q) g
 |0,d,p,q,g,hp,a=>by
  show 1*ip (0+d) q (p*g)=ip d (p*q) g;rw[hp.num,xcY,xaJ,sF,MX]
 |k+1,d,p,q,g,hp,a=>by
  have i1:=zfG k (q:=dvp q) hp.dx a;have i2:=zfG k (q:=dy (k+d+1) q) hp.dy a;rw[(W:k+1+d=k+d+1)];show((k+1:K):J)*fac k*ip (k+d+1) q (p*g)=ip d (pD k (k+d+1-1) (dvp p) (dvp q)+pD k (k+d+1-1) (dy (k+1) p) (dy (k+d+1) q)) g;rw[xfi,SZ,<-i1,<-i2,xbw _<|fac k,xdg,<-sF,<-zd,eul,yF,AY,zd,Qv _ q,adx,Qv _ q,ady _ _ _ (hp.dy.mul a _ W),xfx,Qv _<|dvp q,Qv _<|dy _ q]
def PK{a:K}{u:S}(e:Dg a u):∀(b:K) {v:S},Dg b v->b<=a->∀(j k:K),k+j=b->0<=Fk a u k b a v v u
 |b,v,hv,f,0,k,h=>by
  obtain rfl:k=b:=W
  obtain⟨d,rfl⟩:∃d,a=k+d:=⟨a-k,W⟩;have h1:=zfG k (d:=d) (q:=u) (g:=pD k (k+d) v u) hv<|zeq k hv e;rw[zfg _ _ k hv];have i:=zj1 d<|pD k (k+d) v u;rw[<-h1]at i;exact Int.nonneg_of_mul_nonneg_right i<|ZS k
 |0,v,hv,f,j+1,k,h=>by lia
 |b+1,v,hv,f,j+1,k,h=>by
  obtain⟨c,rfl⟩:∃c,a=c+1:=⟨a-1,W⟩;have h1:=LV (c+1) u e k (m:=b) (b:=b+1) (q0:=c) (v:=v) (p:=v) (q:=u) W W W hv;have i:=PK e b hv.dx W j k W;have n:=PK e b hv.dy W j k W;have o:=PK e (b+1) hv f j (k+1) W;have l:0<=((b+1:K)-(k:J))*Fk (c+1) u k (b+1) (c+1) v v u:=by rw[h1];lia
  exact Int.nonneg_of_mul_nonneg_right l W
def zoR{u:S}(h:Dg 0 u):dvp u=F 0:=qR λk=>by
 rw[zJ];show((k+1:K):J)*u (k+1)=0;rw[h _ W,xaz]
def zpP{u:S}(h:Dg 0 u):dy 0 u=F 0:=qR λk=>by
 rw[zJ,PW];by_cases e:k=0
 ·simp_all
 ·rw[h k W,xaz]
def zoQ{a b:K}{u v:S}(c:Dg a u)(hv:Dg (b+1) v):0<=ip (b+a) (dvp v*u) (v*dvp u)+ip (b+a) (dy (b+1) v*u) (v*dy a u):=by
 by_cases h:b+1<=a
 ·exact PK c (b+1) hv h b 1 W
 ·cases a with
  |zero=>
   rw[zoR c,zpP c,zk v,sF,sF];lia
  |succ a=>
   have:=PK hv (a+1) c W a 1 W;have this:0<=ip (a+(b+1)) (dvp u*v) (u*dvp v)+ip (a+(b+1)) (dy (a+1) u*v) (u*dy (b+1) v):=this;rw[Qv,Qv _<|dy (a+1) u*v,zk u,zk<|dvp u,zk u,zk<|dy (a+1) u,(W:a+(b+1)=b+(a+1))]at this;lia
def znD{a:K}{u:S}(c:Dg a u):∀(b:K) {v:S},Dg b v->fac b*(v b*v b)*ip a u u<=ip (b+a) (v*u) (v*u)
 |0,v,hv=>by
  rw[hv.num,MX,sF,xaJ];show 1*(F (v 0) 0*F (v 0) 0)*ip a u u<=v 0*(v 0*ip a u u);have e:F (v 0) 0=v 0:=O;rw[e,xcY,xdg];lia
 |b+1,v,hv=>by
  have h1:=zjX a u (b:=b+1) (q0:=a) (v:=v) (q:=u) hv c O;have f:=zoQ c hv;have g:=zj1 (b+a)<|dy (b+1) v*u;have d:=znD c b hv.dx;have e:dvp v b=((b+1:K):J)*v (b+1):=O;rw[e]at d;have h:((b+1:K):J)*(fac (b+1)*(v (b+1)*v (b+1))*ip a u u)=fac b*(((b+1:K):J)*v (b+1)*(((b+1:K):J)*v (b+1)))*ip a u u:=by
   show((b+1:K):J)*(((b+1:K):J)*fac b*(v (b+1)*v (b+1))*ip a u u)=_;grind
  refine Int.le_of_mul_le_mul_left (a:=((b+1:K):J)) ?_ W;lia
def AX:∀(m n:K),fac (m+n)<=2^(m+n)*(fac m*fac n)
 |0,n=>by
  rw[xaJ];show fac n<=2^n*(1*fac n);rw[xcY];have:=xbx (show(1:J)<=2^n from Int.pow_pos gS)<|xdG<|ZS n;lia
 |m+1,0=>by
  show fac (m+1)<=2^(m+1)*(fac (m+1)*1);rw[xcZ];have:=xbx (show(1:J)<=2^(m+1)from Int.pow_pos gS)<|xdG<|ZS<|m+1;lia
 |m+1,n+1=>by
  have i1:=xaV (AX m<|n+1) (W:(0:J)<=((m+1:K):J));have i2:=xaV (AX (m+1) n) (W:(0:J)<=((n+1:K):J));rw[(W:m+(n+1)=m+n+1)]at i1;rw[(W:m+1+n=m+n+1)]at i2;rw[(W:m+1+(n+1)=m+n+1+1)];have e1:fac (m+n+1+1)=((m+1:K):J)*fac (m+n+1)+((n+1:K):J)*fac (m+n+1):=by
   show((m+n+1+1:K):J)*fac (m+n+1)=_;rw[<-Int.add_mul];congr 1;lia
  have a:(2:J)^(m+n+1+1)*(fac (m+1)*fac (n+1))=((m+1:K):J)*(2^(m+n+1)*(fac m*fac (n+1)))+((n+1:K):J)*(2^(m+n+1)*(fac (m+1)*fac n)):=by
   rw[xbY];have f1:fac (m+1)=((m+1:K):J)*fac m:=O;have f2:fac (n+1)=((n+1:K):J)*fac n:=O;rw[f1,f2];generalize((m+1:K):J)=x;generalize((n+1:K):J)=y;generalize(2:J)^(m+n+1)=z;grind
  rw[e1,a];lia
def zfL:∀(m n:K),fac m*fac n<=fac (m+n)
 |0,n=>by
  rw[xaJ];show 1*fac n<=fac n;lia
 |m+1,n=>by
  rw[(W:m+1+n=m+n+1)];show((m+1:K):J)*fac m*fac n<=((m+n+1:K):J)*fac (m+n);have h1:=zfL m n;have a:=xaV h1 (W:0<=((m+1:K):J));have b:=xbx (W:((m+1:K):J)<=((m+n+1:K):J))<|xdG<|ZS<|m+n;grind
def FI{f g:K->J}:∀{n},(∀k,k<n->f k<=g k)->yi n f<=yi n g
 |0,_=>xfy 0
 |n+1,h=>Int.add_le_add (FI λk a=>h k W)<|h n W
def Ry{f:K->J}{j:K}:∀{n},(∀k,k<n->0<=f k)->j<n->f j<=yi n f
 |0,_,h=>wR h<|xbn _
 |n+1,h,b=>by
  have h1:=LJ λk (a:k<n)=>h k W;have c:=h n W;show f j<=yi n f+f n;by_cases e:j=n
  ·grind
  ·have:=Ry (λk a=>h k W) (W:j<n);lia
def mig{f u v:S}{a b:K}(g:Tp u a)(hv:Tp v b)(e:f=u*v)(k:K):(v b*u k)*(v b*u k)<=4^(a+b)*pQ f (a+b+1):=by
 have c:=iK f<|a+b+1;by_cases x:k<=a
 ·have h1:=znD (a:=a) (u:=u) g.2 b (v:=v) hv.2;have j:fac k*fac (a-k)*(u k*u k)<=ip a u u:=Ry (f:=λs=>fac s*fac (a-s)*(u s*u s)) (λs _=>xcJ (xcJ (xdG<|ZS _)<|xdG<|ZS _)<|Yi _) W;have y:ip (b+a) (v*u) (v*u)<=fac (b+a)*pQ f (a+b+1):=by
   rw[zk,<-e,xdA b a];unfold ip pQ;rw[<-uy];refine FI λs z=>xbx ?_<|Yi _;have:=zfL s<|a+b-s;rwa[(W:s+(a+b-s)=a+b)]at this
  have l:=AX b a;have h:=AX k<|a-k;rw[(W:k+(a-k)=a)]at h;have d:=ZS b;have pw:(0:J)<2^(b+a):=Int.pow_pos gS;have m:=Int.mul_pos (ZS k)<|ZS<|a-k;have o:=Yi<|v b;generalize fac k*fac (a-k)=X at*
  have g1:=xaV j (show 0<=fac b*(v b*v b)from xcJ (xdG d) o);have A:=xbx l c;have p:=xaV h (show 0<=2^(b+a)*fac b from xcJ (xdG pw)<|xdG d);have B:=xbx p c;have q:fac b*X*((v b*u k)*(v b*u k))<=fac b*X*(2^(b+a)*2^a*pQ f (a+b+1)):=by
   have e1:fac b*X*((v b*u k)*(v b*u k))=fac b*(v b*v b)*(X*(u k*u k)):=by grind
   have r:fac b*X*(2^(b+a)*2^a*pQ f (a+b+1))=2^(b+a)*fac b*(2^a*X)*pQ f (a+b+1):=by grind
   have C:2^(b+a)*(fac b*fac a)*pQ f (a+b+1)=2^(b+a)*fac b*fac a*pQ f (a+b+1):=by grind
   rw[e1,r];lia
  have t:=Int.le_of_mul_le_mul_left q<|Int.mul_pos d m;refine Int.le_trans t<|xbx ?_ c;have w:(4:J)^(a+b)=2^(b+a)*2^(a+b):=by rw[(gS:(4:J)=2*2),Int.mul_pow,xdA b a]
  rw[w];refine xaV ?_<|xdG pw;have:=xav (n:=2) gS (W:a<=a+b);have i:∀n:K,((2^n:K):J)=(2:J)^n:=λn=>by simp
  rw[<-i,<-i];lia
 ·rw[g.2 k W,xaz,xaz];exact xcJ (xfA gS) c
end
section
variable{B:(xS Zr×xS Zr->ww (xS Zr))->xS Zr×xS Zr->ww (xS Zr)}{fu ca cb m:wr}{a b:xS Zr}{d p g R q:Pz}
theorem SG{f:S}{M:J}(h:∀k,f k*f k<=M):∀n:K,pQ f n<=n*M
 |0=>by show 0<=0*M;lia
 |n+1=>by
  show yi n (λk=>f k*f k)+f n*f n<=_;have h1:yi n (λk=>f k*f k)<=n*M:=SG h n;grind
def zez{x y:K}(h:x*x<y*y):x<y:=by
 refine xae λhn=> ?_;have:=xbo (W:y<=x) (W:y<=x);lia
theorem sL{f u v:S}{n B:K}(c:Tp f n)(fu:Fs u)(j:Fs v)(e:f=u*v)(hn:n<=40)(l:∀k,Bb B<|f k)(k:K):Bb (B+n+4) (u k):=by
 have⟨o,nv⟩:=kT c.nz e;have⟨a,h⟩:=Tp.ex fu o;have⟨b,hc⟩:=Tp.ex j nv;have r:a+b=n:=by
  have:=h.mul hc;rw[<-e]at this;exact this.uniq c
 have h1:=mig h hc e k;have s:∀k,f k*f k<=(2^B:J)*2^B:=λk=>by
  have:=l k;unfold Bb at this;have i:(f k*f k)=(((f k).natAbs*(f k).natAbs:K):J):=by simp_all
  rw[i];have y:=xbo (xda this)<|xda this;grind
 have i:=SG s<|a+b+1;have t:(u k).natAbs<=(v b*u k).natAbs:=by
  rw[xcC];exact xdV _ (by have:=hc.1;lia)
 refine xaK t<|zez ?_;have w:((v b*u k).natAbs*(v b*u k).natAbs:K)=(v b*u k*(v b*u k)).natAbs:=(xcC _ _).symm;rw[w];have x:(v b*u k*(v b*u k)).natAbs<=4^(a+b)*((a+b+1)*(2^B*2^B)):=by
  have z:(4:J)^(a+b)*pQ f (a+b+1)<=4^(a+b)*(((a+b+1:K):J)*(2^B*2^B)):=xaV W (xfA gS);have A:(4:J)^(a+b)*(((a+b+1:K):J)*(2^B*2^B))=((4^(a+b)*((a+b+1)*(2^B*2^B)):K):J):=gT
  have:=Yi<|v b*u k;lia
 refine xaK x ?_;have e1:(2:K)^(B+n+4)*2^(B+n+4)=4^n*(256*(2^B*2^B)):=by
  rw[(gS:(4:K)=2^2),<-xcz,(gS:(256:K)=2^8),<-xbz,<-xbz,<-xbz,<-xbz];congr 1;lia
 rw[e1];have hd:0<(2:K)^B*2^B:=Nat.mul_pos (xaU gS) (xaU gS);rw[r];exact Nat.mul_lt_mul_of_pos_left (xbX W hd)<|xaU gS
theorem sD{K:wr}(f:yH K a)(h:K+1<=100000)(hl:X a<=1000)(e:3000000<=fu):Wy fu a=Z (wk (X a-1)<|dvp<|G a):=by
 unfold Wy;have hc:∀k:wr,k<=1000->Bz 1 (k:J):=λk n=>Bz.nat (by rw[Nat.pow_one];lia);rw[U<|A7 (g:=λk=>if k<1000 then G a k*(k:J)else 0) W W λj c=> ?_]
 ·have i:min (X a:J) 1=((min (X a) 1:wr):J):=W
  rw[yc,zf,i,yR,yV,zf];have hd:(zi (X a) λk=>if k<1000 then G a k*(k:J)else 0).drop (min (X a) 1)=zi (X a-1) (dvp<|G a):=by
   refine Nk (by rw[xbR,yc,yc];lia) λj c=> ?_;rw[xbR,yc]at c;rw[ZY W,H1,xfe,<-H1,ZY W,(W:min (X a) 1+j=j+1),zT];show yp (G a (j+1)*((j+1:wr):J))=yp (((j+1:wr):J)*G a (j+1));grind
  rw[hd,U<|zI (k:=K+1) (Yf λj=> ?_) h (by rw[yc];lia) e,yc,rY];unfold dvp;by_cases c:j+1<=1000
  ·rw[xbw];exact(f.bz _).mul<|hc _ c
  ·rw[zW W,xaz];exact Bz.zero _
 ·unfold Vo;have l:=f.get j;rw[U<|ym ⟨W,W⟩ e,U<|yv (U7.of l W) ((hc j W).ok gS) e,zn,Z8,zT]
def KR:K->K
 |0=>1
 |1=>1
 |n+2=>2*KR (n+1)+KR n
def zdC:∀n,KR n<=KR (n+1)
 |0=>Nm _
 |n+1=>by show _<=2*KR (n+1)+KR n;lia
def Jj{i:K}:∀d,KR i<=KR (i+d)
 |0=>Nm _
 |d+1=>xal (Jj d)<|zdC _
theorem Oq(j:K):∀t,KR j+(t+1+1)*KR (j+1)<=KR (j+1+(t+1))
 |0=>by show _<=2*KR (j+1)+KR j;lia
 |t+1=>by
  have c:=Oq j t;have h1:KR (j+1+(t+1+1))=2*KR (j+1+(t+1))+KR (j+1+t):=O;grind
theorem A8(f:Fs d)(pd:Pm d):Zd d (G<|y7 a)↔Zd d (G a):=by
 by_cases h:X (zQ a)=0
 ·have h1:(G a:S)=F 0:=qR λk=>by rw[ZP h k,zJ]
  have i:(G (y7 a):S)=F 0:=qR λk=>by rw[uJ,ZP h k,xef,zJ]
  grind
 ·have e:=K0 a;constructor
  ·intro c;rw[<-e];exact c.mul _<|Fs.pc _
  ·intro c;rw[<-e]at c;exact Zd.pm f pd (mC h) c
def zbk{x y r Q:S}{c:J}(i:Fs d)(pd:Pm d)(hc:c≠0)(h:Fs Q)(e:F c*x=Q*y+r):(Zd d y/\Zd d r)↔(Zd d x/\Zd d y):=by
 constructor
 ·rintro⟨f,z2⟩;refine⟨Zd.pm i pd hc ?_,f⟩;rw[e];exact(f.mul _ h).add z2
 ·rintro⟨f,z2⟩;refine⟨z2,?_⟩;have:r=F c*x-Q*y:=qR λk=>by
   have:=Wf e k;rw[zK]at this;rw[yx];lia
  rw[this];exact(f.mul _<|Fs.pc c).sub<|z2.mul _ h
def PB{Ps:N M->N M->V (N M×N M×J)}{Pr:N M->V (N M)}(hB:∀R x y,B R (x,y)=if(0:J)<(X y:J)then Y (Ps x y) λt=>Y (Pr t.2.1) λy'=>R (y,y')else Z x)(hk:∀{K:wr}{a:N M},yH K a->K<=9985->X a<=1000->Pr a=Z (y7 a))(hl:∀{bx e:wr}{x y:N M},zQ x=x->zQ y=y->X y<=X x->0<X y->X x<=60->(∀j,Bb bx<|G x j)->(∀j,Bb e<|G y j)->bx+(X x-X y+1)*(e+1)<=2400000->
 ∃q r c Q,Ps x y=Z (q,r,0)/\zQ r=r/\X r<X y/\c≠0/\Fs Q/\(F c*G x:S)=Q*G y+G r/\∀j,Bb (bx+(X x-X y+1)*(e+1))<|G r j) {C L n bx b_:wr} (ha:zQ a=a) (u:Pm (G a)) (v:Po (G a)) (hb:zQ b=b) (hm:X b<X a) (hL:X a<=L) (hv:L<=60) (hC:C*KR (L-1)<=639000) (ho:C*KR L<=2400000) (w:bx+1<=C*KR (L-X a)) (f:∀j,Bb bx (G a j)) (l:b_+1<=C*KR (L-X a+1)) (hc:∀j,Bb b_ (G b j)) (hd:X b≠0->Pm (G b)/\Po (G b)) (hn:X b<n):
 ∃x,zg B n (a,b)=Z x/\zQ x=x/\Pm (G x)/\Po (G x)/\X x<=L/\yH 37500 x/\∀d,Fs d->Pm d->(Zd d (G x)↔(Zd d (G a)/\Zd d (G b))):=by
 refine ya (λs:N M×N M=>zQ s.1=s.1/\Pm (G s.1)/\Po (G s.1)/\zQ s.2=s.2/\X s.2<X s.1/\X s.1<=L/\(∃bx,bx+1<=C*KR (L-X s.1)/\∀i,Bb bx<|G s.1 i)/\(∃b_,b_+1<=C*KR (L-X s.1+1)/\∀i,Bb b_<|G s.2 i)/\(X s.2≠0->Pm (G s.2)/\Po (G s.2))/\∀d,Fs d->Pm d->((Zd d (G s.1)/\Zd d (G s.2))↔(Zd d (G a)/\Zd d (G b)))) (λs=>X s.2) _ ?_ n (a,b) ⟨ha,u,v,hb,hm,hL,⟨bx,w,f⟩,⟨b_,l,hc⟩,hd,λ_ _ _=>Iff.rfl⟩ hn;rintro⟨x,y⟩ R ⟨h1,P,T,A,h5,h6,⟨bx,w,f⟩,⟨b_,l,hc⟩,hd,D⟩ ih;simp only at h1 P T A h5 h6 w f l hc hd D;rw[hB];have he:∀{i},i<=L->C*KR i<=2400000:=λ{i} hi=>xal (xaD _ (by
  have:=Jj (i:=i)<|L-i;rwa[(W:i+(L-i)=L)]at this)) ho
 by_cases hp:0<X y
 ·have⟨t,ht⟩:∃t,X x-X y=t+1:=⟨X x-X y-1,W⟩;have hg:bx+(X x-X y+1)*(b_+1)+1<=C*KR (L-X y+1):=by
   have E:=Oq (L-X x) t;rw[(W:L-X x+1+(t+1)=L-X y+1)]at E;have hq:=xaD C E;rw[xbk,xdv]at hq;have hw:=xaD (t+1+1) l;rw[ht];lia
  have⟨q,r,c,Q,e1,H,e3,e4,e5,e6,e7⟩:=hl h1 A W hp W f hc (by have:=he (i:=L-X y+1) W;lia);have oR:yH 9985 r:=by
   by_cases hr:X r=0
   ·rw[xbs.1 hr];intro z hz;cases hz
   ·rw[<-H];refine yN λj=>(e7 j).bz ?_;have E:C*KR (L-X y+1)<=C*KR (L-1):=xaD _ (by
     have:=Jj (i:=L-X y+1)<|X y-2;rwa[(W:L-X y+1+(X y-2)=L-1)]at this)
    lia
  rw[zT,U e1];simp only;rw[U<|hk oR gS W];have hu:=kF r;rw[H]at hu;have⟨y1,y2⟩:=hd W;refine ih _ ⟨A,y1,y2,vq r,by show(y7 r).length<X y;lia,by show X y<=L;lia,⟨b_,?_,hc⟩,⟨_,hg,λi=> ?_⟩,λ(hn:X (y7 r)≠0)=>ZD (by rw[H];show X r≠0;lia),λd o pd=> ?_⟩ (by show(y7 r).length<X y;lia)
  ·refine xal l<|xaD _ ?_;show KR (L-X x+1)<=KR (L-X y);have:=Jj (i:=L-X x+1)<|X x-X y-1;rwa[(W:L-X x+1+(X x-X y-1)=L-X y)]at this
  ·show Bb _ (G (y7 r) i);rw[uJ];exact(e7 i).le<|xbG _ _
  ·rw[<-D d o pd];show(Zd d (G y)/\Zd d (G<|y7 r))↔(Zd d (G x)/\Zd d (G y));rw[A8 o pd];exact zbk o pd e4 e5 e6
 ·rw[zB];refine⟨x,O,h1,P,T,h6,?_,λd o pd=> ?_⟩
  ·rw[<-h1];exact yN λj=>(f j).bz (by have:=he (i:=L-X x) W;lia)
  ·rw[<-D d o pd];have:Zd d (G y):=⟨F 0,Fs.pc 0,qR λk=>by rw[zW W,yf,zJ]⟩;exact⟨λh=>⟨h,this⟩,λh=>h.1⟩
def GcZ(ca cb c e:K):Prop:=(∃C,ca+1<=C/\cb+1<=C/\C*KR (c-1)<=639000/\C*KR c<=2400000)\/
 (ca<=639000/\(ca+(c-e+1)*(cb+1)+1)*KR (e-1)<=639000/\(ca+(c-e+1)*(cb+1)+1)*KR e<=2400000)
def zl4{Ps:N M->N M->V (N M×N M×J)}{Pr:N M->V (N M)}(D:∀R x y,B R (x,y)=if(0:J)<(X y:J)then Y (Ps x y) λt=>Y (Pr t.2.1) λy'=>R (y,y')else Z x)(hc:∀{K:wr}{a:N M},yH K a->K<=9985->X a<=1000->Pr a=Z (y7 a))(hd:∀{bx e:wr}{x y:N M},zQ x=x->zQ y=y->X y<=X x->0<X y->X x<=60->(∀j,Bb bx<|G x j)->(∀j,Bb e<|G y j)->bx+(X x-X y+1)*(e+1)<=2400000->
 ∃q r c Q,Ps x y=Z (q,r,0)/\zQ r=r/\X r<X y/\c≠0/\Fs Q/\(F c*G x:S)=Q*G y+G r/\∀j,Bb (bx+(X x-X y+1)*(e+1))<|G r j) {n:wr} (z:zQ a=a) (o:Pm (G a)) (s:Po (G a)) (hb:zQ b=b) (hi:X b<X a) (he:X a<=60) (E:∀j,Bb ca (G a j)) (bB:∀j,Bb cb (G b j)) (hZ:GcZ ca cb (X a) (X b)) (hn:X b+1<n):
 ∃x,zg B n (a,y7 b)=Z x/\zQ x=x/\Pm (G x)/\Po (G x)/\X x<=X a/\yH 37500 x/\∀d,Fs d->Pm d->(Zd d (G x)↔(Zd d (G a)/\Zd d (G b))):=by
 have A:X (y7 b)=X b:=by rw[kF,hb]
 have f:∀j,Bb cb (G (y7 b) j):=λj=>by rw[uJ];exact(bB j).le<|xbG _ _
 have pb:X (y7 b)≠0->Pm (G<|y7 b)/\Po (G<|y7 b):=λh=>ZD (by rw[hb];lia);have u:∀{x:N M},(∀d,Fs d->Pm d->(Zd d (G x)↔(Zd d (G a)/\Zd d (G<|y7 b))))->∀d,Fs d->Pm d->(Zd d (G x)↔(Zd d (G a)/\Zd d (G b))):=λh d l pd=>by rw[h d l pd,A8 l pd]
 rcases hZ with⟨C,h1,h2,h3,h4⟩|h1
 ·have⟨x,e1,v,e3,H,P,e6,w⟩:=PB D hc hd (C:=C) (L:=X a) (n:=n) z o s (vq b) W (Nm _) he h3 h4 (by rw[xcQ];show ca+1<=C*1;lia) E (by rw[xcQ];show cb+1<=C*1;lia) f pb W;exact⟨x,e1,v,e3,H,P,e6,u w⟩
 ·have⟨hj,h1,hf⟩:=h1;obtain⟨n,rfl⟩:∃m,n=m+1:=⟨n-1,W⟩;rw[kf,D];by_cases hk:0<X b
  ·have⟨T,hT⟩:∃T,T=ca+(X a-X b+1)*(cb+1):=⟨_,O⟩;rw[<-hT]at h1 hf;have hl:T+1<=(T+1)*KR (X b-1):=xcf _<|xao (gS:0<KR 0) (by have h:=Jj (i:=0)<|X b-1;rwa[xaJ]at h);have⟨q,r,c,Q,e1,v,e3,H,P,e6,w⟩:=hd z (vq b) W W he E f (by rw[A,<-hT];lia);rw[A,<-hT]at w;have oR:yH 9985 r:=by rw[<-v];exact yN λj=>(w j).bz W
   rw[zT,U e1];simp only;rw[U<|hc oR gS W];have hg:=kF r;rw[v]at hg;have⟨y1,y2⟩:=pb W;have⟨x,g1,g2,g3,g4,g5,g6,g7⟩:=PB D hc hd (C:=T+1) (L:=X b) (n:=n) (vq b) y1 y2 (vq r) W W W h1 hf (bx:=cb) (by
    rw[A,xcQ];show cb+1<=(T+1)*1;have:=xan (cb+1) (W:1<=X a-X b+1);lia) f (b_:=T) (by rw[A,xcQ];show T+1<=(T+1)*1;lia) (λj=>by rw[uJ];exact(w j).le (xbG _ _)) (λh=>ZD (by rw[v];lia)) W
   refine⟨x,g1,g2,g3,g4,W,g6,u λd l pd=> ?_⟩;rw[g7 d l pd,A8 (a:=r) l pd];exact zbk l pd H P e6
  ·rw[zB];refine⟨a,O,z,o,s,Nm _,?_,λd l pd=> ?_⟩
   ·rw[<-z];exact yN λj=>(E j).bz W
   ·have:Zd d (G b):=⟨F 0,Fs.pc 0,qR λk=>by rw[zW W,yf,zJ]⟩;exact⟨λh=>⟨h,this⟩,λh=>h.1⟩
def Fb(f:zQ a=a)(r:zQ b=b)(hc:yn a=1)(y:X b<X a)(z:X a<=60)(s:∀j,Bb ca<|G a j)(t:∀j,Bb cb<|G b j)(A:GcZ ca cb (X a) (X b))(Y:ca<=639000)(hk:cb<=639000)(i:3000000<=fu):
 ∃g,XH fu a b=Z g/\zQ g=g/\Pm (G g)/\Po (G g)/\X g<=X a/\∀d,Fs d->Pm d->(Zd d (G g)↔Zd d (G a)/\Zd d (G b)):=by
 have u:yH 9985 a:=by rw[<-f];exact yN λj=>(s j).bz W
 have o:yH 9985 b:=by rw[<-r];exact yN λj=>(t j).bz W
 have hd:y7 a=a:=Jy (vq a) f λk=>by rw[uJ,hc,Int.ediv_one]
 have⟨c,e⟩:=ZD (a:=a) (by rw[f];lia);rw[hd]at c e;have⟨x,C,v,D,E,F,H,L⟩:=zl4 (B:=oh fu) (Ps:=kI fu) (Pr:=xk fu) (n:=fu) (λ_ _ _=>O) (λh h1 w=>wI h) (λh1 w M N P Q S T=>pX h1 w M N P Q S T i) f c e r y z s t A W;have b1:=(Bz.one' (k:=1)<|Nm _);have V:=(CU o);have hi:wk (X x) (λj=>G x j*1)=x:=by rw[show(λj=>G x j*1)=G x from qR λj=>xcZ _];exact v
 refine⟨x,?_,v,D,E,F,L⟩;unfold XH;rw[U<|jS u,U<|jS o,hc,U<|Ks (K:=9985) (yG _) (yG _) (xal b1.len gS) V.len gS i,zn,zn,show Int.natAbs 1=1 from O,Nat.gcd_one_left,show((1:wr):J)=1 from O,U<|wI u,U<|wI o,hd,U C,U<|jy (l:=1) H ⟨yG _,b1.len⟩ gS W i,zn];show Z (wk (X x) λj=>G x j*1)=_;rw[hi]
theorem Tv(q:S):∀n,dvp (pp q<|n+1)=F ((n+1:K):J)*(pp q n*dvp q)
 |0=>by
  show dvp (F 1*q)=F 1*(F 1*dvp q);rw[zw,zw,zw]
 |n+1=>by
  show dvp (pp q (n+1)*q)=F _*(pp q n*q*dvp q);rw[VZ,Tv q n,zd<|F _,zd<|pp q n,zk (dvp q) q];show _+pp q n*q*dvp q=_;rw[zd<|pp q n];funext k;rw[zK,zP,zP];grind
def zh3(hp:Tp p m)(A:Fs g)(C:Fs R)(e:p=R*g)(D:Zd g (dvp p))(c:Ir q)(h:Zd q p):Zd q R:=by
 refine xae λE=> ?_;have⟨n,_,hn⟩:=Mu.ex c m hp;have⟨T,G⟩:=kT hp.nz e;have⟨d,hd⟩:=Tp.ex A G;have⟨i,_,hi⟩:=Mu.ex c d hd;have h1:=(Mu.zero C E).mul c hi;rw[<-e,xaJ]at h1;obtain rfl:=h1.uniq c hn;have U:i≠0:=λh0=>by
  subst h0;have⟨u,fu,l,o⟩:=hn;rw[show pp q 0=F 1 from O,ye]at l;simp_all
 obtain⟨j,rfl⟩:∃j,i=j+1:=⟨i-1,W⟩;have⟨u,fu,l,o⟩:=hn;have⟨v,H,L,_⟩:=hi;have r:Zd (pp q<|j+1) (dvp p):=Zd.trans ⟨v,H,L⟩ D;rw[l,VZ]at r;have s:Zd (pp q<|j+1) (u*dvp (pp q<|j+1)):=by
  have:u*dvp (pp q<|j+1)=(dvp u*pp q (j+1)+u*dvp (pp q<|j+1))-dvp u*pp q (j+1):=qR λk=>by simp only[zK,yx];lia
  rw[this];exact r.sub ⟨dvp u,fu.dvp,O⟩
 rw[Tv]at s;have⟨w,x,M⟩:=s;have N:w*q=u*(F ((j+1:K):J)*dvp q):=by
  refine C5 (x.mul c.fs) (fu.mul<|(Fs.pc _).mul c.fs.dvp) (c.fs.pp j) (c.pm.pp j).nz ?_;have P:w*pp q (j+1)=w*q*pp q j:=by
   show w*(pp q j*q)=_;rw[zd,zk (pp q j) q]
  rw[<-P,<-M,zd u,zd<|F _,zk (dvp q)<|pp q j]
 rcases c.prime fu ((Fs.pc _).mul c.fs.dvp) ⟨w,x,N.symm⟩with h5|h5
 ·exact o h5
 ·have⟨t,f⟩:=Tp.ex c.fs c.pm.nz;have V:t≠0:=λh0=>c.dg<|(KC.tp f).2 h0;have⟨Q,hc,S⟩:=Lr (n:=0) f h5 λk Y=>by
   rw[zP];show _*(((k+1:K):J)*q (k+1))=0;rw[f.2 _ W,xaz,xaz]
  have y:=Wf hc<|t-1;rw[wM Q,yT λi _=>by rw[S i W,xba],zP]at y;have z:((j+1:K):J)*(((t-1+1:K):J)*q (t-1+1))=0:=y;rw[(W:t-1+1=t)]at z;obtain h8|h8:=xeI.1 z
  ·lia
  ·obtain h9|h9:=xeI.1 h8
   ·lia
   ·exact f.1 h9
def zlR(hp:Tp p m)(o:Fs g)(x:Fs R)(e:p=R*g)(r:∀d,Fs d->Pm d->Zd d p->Zd d (dvp p)->Zd d g)(c:Ir q):¬Zd (q*q) R:=λ⟨z,f,i⟩=>by
 have⟨n,_,u,fu,e1,j⟩:=Mu.ex c m hp
 cases n with
 |zero=>
  refine j ⟨z*q*g,(f.mul c.fs).mul o,?_⟩;have s:u=p:=by rw[e1];exact(ye u).symm
  rw[s,e,i];simp only[zk,zC]
 |succ k=>
  have t:=c.fs.pp k;have h:pp q (k+1)=q*pp q k:=zk _ _;have⟨w,l,v⟩:=r (pp q k) t (c.pm.pp k) ⟨u*q,fu.mul c.fs,by rw[e1,h,zd]⟩ (by
   rw[e1,VZ,Tv];refine Zd.add ⟨dvp u*q,fu.dvp.mul c.fs,by rw[h,zd]⟩ ⟨u*(F ((k+1:K):J)*dvp q),fu.mul<|(Fs.pc _).mul c.fs.dvp,?_⟩;simp only[zk,zC])
  refine j ⟨z*w,f.mul l,?_⟩;refine C5 fu ((f.mul l).mul c.fs) (c.fs.pp<|k+1) (c.pm.pp<|k+1).nz ?_;rw[<-e1,e,i,v,h];simp only[zk,zC]
end
noncomputable def zhs(fu:K)(a:N M)(fs:N (N J))(p:J):J:=
 if vF p=wF then(if 65<(zQ a).length then 6 else if vi fu (zQ a) fs p=Z wF then 0 else 1)else 1
def zdV{fu:K}{p k:J}{a:N M}{fs:N (N J)}{us:N (N M)}{e:J}(f:yH 250 a)(hi:X a<=1000)(h1:1<=k)(i:k<=1000)(j:3000200<=fu)(h:qT fu a fs p k=Z (us,e)):e=zhs fu a fs p:=by
 unfold qT at h;unfold zhs;rw[U<|k9 W]at h;simp only at h;rw[U (zI f gS W W),show wk (X a) (G a)=zQ a from O]at h;by_cases hp:vF p=wF
 ·have hc:oH p k=(yp<|p^k.toNat,0):=by
   unfold oH;simp_all
  rw[hc]at h;rw[iq hp];simp only[uL]at h;by_cases g:65<X (zQ a)
  ·grind
  ·rw[zB]at h;rw[ir g]
   cases c:vi fu (zQ a) fs p with
   |none=>rw[c]at h;cases h
   |some b=>
    rw[c]at h;change(if(!b)=wF then _ else _)=_ at h
    cases b with
    |false=>
     rw[iq gS]at h;rw[ir gT];simp only[xar,xcO]at h;exact h.2.symm
    |true=>
     rw[ir gS]at h;rw[iq O];split at h
     ·simp only[xar,xcO]at h;exact h.2.symm
     ·cases hd:xl fu (zQ a) (yp<|p^k.toNat)with
      |none=>rw[hd]at h;cases h
      |some t=>
       rw[hd]at h;change Y (vL fu t fs p k<|yp<|p^k.toNat) _=_ at h
       cases d:vL fu t fs p k (yp<|p^k.toNat)with
       |none=>rw[d]at h;cases h
       |some t3=>
        rw[d]at h;change Z (t3,(0:J))=_ at h;simp only[xar,xcO]at h;exact h.2.symm
 ·have hc:oH p k=((I,[]),1):=by
   unfold oH;rw[ir<|λh=>hp h.1]
  rw[hc]at h;rw[ir hp];simp only[Int.reduceEq,ut,xar,xcO]at h;exact h.2.symm
section
variable{fu:wr}{p:wl}{a:xS Zr}
def zka(p:J)(n:K)(fs:N (N J)):Prop:=(∀t,t<X fs->X (fs.getD t [])<=n/\RK p (fs.getD t []))/\∀t j,t<X fs->j<t->jF p (C<|fs.getD t []) (C<|fs.getD j [])
def LA{i:K}{f:N J}{fs:N (N J)}(hp:vF p=wF)(hd:Fp p f)(g:X f<=290)(hi:i<=X fs)(z:i<=1000000)(k:∀j,j<i->Fp p (fs.getD j [])/\X (fs.getD j [])<=290)(l:3000000<=fu):
 ∃r,zg (jl fu p f<|fs.take i) fu 0=Z r/\((r=.inl ()/\∀j,j<i->jF p (C f) (C<|fs.getD j []))\/(r=.inr ()/\¬∀j,j<i->jF p (C f) (C<|fs.getD j []))):=by
 have⟨m,A⟩:=zz hp;have hl:X (fs.take i)=i:=by rw[xax];lia
 have n:∀j,j<i->(fs.take i).getD j []=fs.getD j []:=λj b=>by rw[H1,xcA,iq b,<-H1]
 refine ya (λx:J=>∃j:K,x=(j:J)/\j<=i/\∀t,t<j->jF p (C f) (C<|fs.getD t [])) (λx=>i-x.toNat) _ ?_ _ _ ⟨0,O,xai _,λt h=>wR h<|xbn _⟩ (by show i-0<fu;lia);rintro x L ⟨j,rfl,b,c⟩ o;unfold jl;by_cases h1:j<i
 ·have⟨k1,k2⟩:=k j h1;have⟨d,s,t,q,u,v⟩:=QO (fu:=fu) hp hd k1 g k2 l;have hc:=zba m u v;rw[zT,zY,zf,n j h1,U q];simp only;by_cases e:X d=1
  ·rw[zT,zb];refine o _ ⟨j+1,O,W,λt w=> ?_⟩ W;by_cases y:t=j
   ·rw[y];exact hc.1 e
   ·exact c t W
  ·rw[zB];exact⟨_,O,.inr ⟨O,λh=>e<|hc.2<|h j h1⟩⟩
 ·rw[zB];exact⟨_,O,.inl ⟨O,λt w=>c t W⟩⟩
def RZ{fs:N (N J)}(hp:vF p=wF)(g:X a<=66)(h0:X a≠0)(hl:X (qx p a)=X a)(g1:∀t,t<X fs->X (fs.getD t [])<=X a/\RK p (fs.getD t [])):
 (∀f∈fs,Fp p f)/\(∀f∈fs,X f<=66)/\(qx p a).drop (X a-1)=[C (qx p a)<|X a-1]/\Fp p [C (qx p a)<|X a-1]:=by
 have⟨i,k⟩:=zz hp;have d:∀{q:N J->Prop},(∀t,t<X fs->q (fs.getD t []))->∀f∈fs,q f:=λ{q} h f e=>by
  obtain⟨j,l,rfl⟩:=xdN.1 e;simp_all
 have b:=Qe (p:=p) W a;have hd:C (qx p a) (X a-1)≠0:=by
  obtain h|h:=b.nl
  ·lia
  ·simp_all
 have m:=b.nn<|X a-1;have hc:=b.lt<|X a-1;refine⟨d λt c=>(g1 t c).2.fp W,d λt c=>by have:=(g1 t c).1;lia,?_,VN W hc⟩;rw[xbT W,xcd W];unfold C;rw[H1,xah W];rfl
def iJ{k:K}{fs:N (N J)}(hp:vF p=wF)(u:yH k a)(v:k<=40000)(w:X a<=66)(g:3000000<=fu):
 ∃b,vi fu a fs p=Z b/\(b=wF↔dj p a fs):=by
 have⟨E,y⟩:=zz hp;unfold vi;rw[U<|uu u v W y];simp only;by_cases h0:X a=0
 ·rw[zT];exact⟨_,O,λe=>wR e gS,λe=>wR h0 e.a0⟩
 ·rw[zB];by_cases hl:X (qx p a)=X a
  ·rw[zT];by_cases F:X a<X fs
   ·rw[zT];exact⟨_,O,λe=>wR e gS,λe=>by have:=e.fl;lia⟩
   ·rw[zB]
    have⟨r,e1,m⟩:=ya (f:=jw fu a fs p) (λx:J×N J=>∃i:K,x=((i:J),qx p a)/\i<=X fs/\(∀t,t<i->X (fs.getD t [])<=X a/\RK p (fs.getD t []))/\∀t j,t<i->j<t->jF p (C<|fs.getD t []) (C<|fs.getD j [])) (λx=>X fs-x.1.toNat)
     (λr=>(r=.inr ()/\¬zka p (X a) fs)\/(r=.inl (qx p a)/\zka p (X a) fs)) (by
      rintro x L ⟨i,rfl,hi,g1,d⟩ z;unfold jw;simp only;by_cases h1:i<X fs
      ·rw[zT,U O];simp only[uL];rw[zo h1,zf];by_cases G:X a<X (fs.getD i [])
       ·rw[zT];exact⟨_,O,.inl ⟨O,λh=>by have:=(h.1 i h1).1;lia⟩⟩
       ·have⟨b,b1,b2⟩:=Ke (fu:=fu) (l:=fs.getD i []) (p:=p) W g;rw[zB,U b1]
        cases b with
        |false=>
         rw[iq gS];exact⟨_,O,.inl ⟨O,λh=>wR (b2.2 (h.1 i h1).2) gS⟩⟩
        |true=>
         have hc:=b2.1 O;rw[ir gS,yR,yV,zf];have⟨q,q1,q2⟩:=LA (fu:=fu) (i:=i) (fs:=fs) hp (hc.fp W) W W W (λj c=>⟨(g1 j c).2.fp W,by have:=(g1 j c).1;lia⟩) g;rw[U q1];rcases q2 with⟨rfl,q2⟩|⟨rfl,q2⟩
         ·simp only;rw[zb];refine z _ ⟨i+1,O,W,λt n=> ?_,λt j n c=> ?_⟩ (by show X fs-((i:J)+1).toNat<X fs-(i:J).toNat;lia)
          ·by_cases o:t=i
           ·rw[o];exact⟨W,hc⟩
           ·exact g1 t W
          ·by_cases o:t=i
           ·rw[o]at c⊢;exact q2 j c
           ·exact d t j W c
         ·exact⟨_,O,.inl ⟨O,λh=>q2 λj c=>h.2 i j h1 c⟩⟩
      ·rw[zB,U O];simp only[xak,ut];exact⟨_,O,.inr ⟨O,λt n=>g1 t W,λt j n c=>d t j W c⟩⟩) fu (0,qx p a) ⟨0,O,xai _,λt h=>wR h (xbn _),λt j h=>wR h (xbn _)⟩ (by show X fs-0<fu;lia)
    rw[U e1];rcases m with⟨rfl,m⟩|⟨rfl,g1,d⟩
    ·exact⟨_,O,λe=>wR e gS,λe=>wR ⟨e.pl,e.cp⟩ m⟩
    ·simp only;have⟨hn,s,hd,A⟩:=RZ hp w h0 hl g1;have H:X fs*66<=66*66:=xan _ W;have hc:=cR (p:=p) s;have B:=Qe (p:=p) W a;have D:=jc p (VX p fs) [C (qx p a)<|X a-1];simp only[xau,xbH]at D;rw[U (jd hp hn s W gS),hl,(W:(X a:J)-1=((X a-1:K):J)),zb,yR,yV,zf,hd,U<|uk hp (dV W fs) A W gT];simp only;rw[U<|JX hp (qH W _ _) B W W g];exact⟨_,O,λe=>⟨h0,hl,W,g1,d,Wl e⟩,λe=>Z3 e.pr⟩
  ·rw[zB];exact⟨_,O,λe=>wR e gS,λe=>wR e.al hl⟩
end
end Go.Proofs.YtoegnnjcmlghhaaGreat
