/- What a proof needs: rules of walking, mirrors of functions and their plain laws. No condition. -/
import Derived.Test.YtoegnnjcmlghhaaGreatZh5
set_option linter.all false
set_option maxHeartbeats 1000000
namespace Go.Proofs.YtoegnnjcmlghhaaGreat
open Bool renaming false->I,true->wL
open Go.Proofs.YtoegnnjcmlghhaaGreat renaming Zr->M,cf->G,bd->Y,za->U,ci->C,nm->B,cC->D,pc->F,zu->Q,nv->A,ze->S
open List renaming length->X
open Nat renaming beq->E
open Option renaming some->Z
open _root_ renaming rfl->O,List->N,Int->J,Nat->K,Option->V,List->xS,Int->wl,Nat->wr,trivial->wR,absurd->wS,Bool->qR,funext->jp,Rat->kw,congrArg->ut,if_true->uP,if_false->uS,Unit->Z9,True->XS,decide_eq_true->Wf,decide_eq_false->Wl,congrFun->Wn,of_decide_eq_true->Ws,False->QR,if_pos->am,true_and->cE,and_true->gC,propext->ii
open Bool renaming false_eq_true->xao
open Classical renaming byContradiction->xai,choose_spec->xfM
open Int renaming add_zero->xcd,dvd_mul_left->xcU,dvd_mul_right->xce,dvd_of_emod_eq_zero->xaH,dvd_refl->xej,dvd_sub->xdB,dvd_trans->xbw,dvd_zero->xdM,emod_emod->xaW,emod_emod_of_dvd->xcF,emod_eq_emod_iff_emod_sub_eq_zero->xaO,emod_eq_of_lt->xaJ,emod_eq_zero_of_dvd->xaz,emod_lt_of_pos->xdQ,emod_nonneg->xcR,eq_ofNat_of_zero_le->xaE,le_refl->xgb,mul_assoc->xdc,mul_comm->xbE,mul_dvd_mul->xga,mul_emod->xci,mul_eq_zero->xeS,mul_le_mul_of_nonneg_left->xaZ,mul_ne_zero->xcT,mul_nonneg->xcC,mul_one->xcY,mul_zero->xaA,natAbs_dvd_natAbs->xcr,natAbs_ediv_le_natAbs->xbG,natAbs_mul->xct,natAbs_natCast->xaD,natCast_add->xeO,natCast_dvd_natCast->xcW,one_mul->xdg,pow_nonneg->xfG,pow_succ->xbU,pow_zero->xcj,sub_self->xek,sub_zero->xdi,tdiv->xdE,tdiv_eq_ediv_of_nonneg->xeV,tmod->xcv,toNat_natCast->xbe,toNat_of_nonneg->xdf,zero_add->xcS,zero_ediv->xel,zero_emod->xau,zero_mul->xbd
open List renaming append_assoc->xad,append_nil->xbO,append_of_mem->xem,cons_append->xbC,drop->xdT,ext_getElem->xeI,ext_getElem?->xcA,filter_cons->xfP,filter_cons_of_neg->xfu,filter_cons_of_pos->xft,getD_eq_getElem?_getD->FS,getElem?_append_left->xaX,getElem?_append_right->xbr,getElem?_drop->xfm,getElem?_eq_getElem->xab,getElem?_map->xbV,getElem?_replicate->xdj,getElem?_set_self->xdv,getElem_mem->xbQ,getElem_of_mem->xcK,length->xaG,length_append->xaw,length_cons->xax,length_drop->xbX,length_eq_one_iff->xcG,length_eq_zero_iff->xbh,length_filter_le->xfN,length_map->xaj,length_nil->xbP,length_pos_of_mem->xfz,length_range->xev,length_replicate->xaM,length_set->xbj,length_take->xav,map_append->xaY,map_congr_left->xbZ,map_cons->xbS,map_map->xcN,map_take->xeU,mem_append->So,mem_append_left->xdU,mem_append_right->xen,mem_cons->xaf,mem_cons_of_mem->UV,mem_cons_self->H1,mem_filter->xcg,mem_iff_getElem->xcE,mem_map->xas,mem_map_of_mem->xbJ,mem_of_mem_drop->xeX,mem_of_mem_take->xdo,mem_or_eq_of_mem_set->xdF,mem_range->xbg,mem_replicate->xfr,mem_singleton->xag,nil_append->xbA,nodup_cons->xfs,not_mem_nil->Nm,pairwise_append->xdp,pairwise_cons->xdl,pairwise_iff_forall_sublist->xdu,pairwise_iff_getElem->xcZ,pairwise_map->xew,perm_middle->xcl,range->xaN,range_succ->xdk,replicate->xaa,take->xdH,take_length->xbY,take_of_length_le->xaQ
open List.Perm renaming append_left->xbL,refl->xdD
open Nat renaming add_assoc->xcH,add_comm->xdW,add_mul->xbf,add_zero->xbD,div_div_eq_div_mul->xaF,div_eq_of_lt->xbi,div_one->xeq,eq_of_beq_eq_true->xcL,eq_zero_or_pos->xcx,gcd->xdt,gcd_dvd_left->xfR,gcd_dvd_right->xdC,le_max_left->xeb,le_max_right->xdS,le_mul_of_pos_left->xed,le_mul_of_pos_right->xco,le_of_lt->xdK,le_refl->IR,le_succ->xbH,le_trans->xap,lt_irrefl->xfW,lt_of_le_of_lt->xaL,lt_of_lt_of_le->xah,lt_of_not_le->xdr,lt_succ_self->xbR,min_eq_left->xcq,mul_add->xbn,mul_assoc->xaT,mul_comm->xaS,mul_le_mul->xck,mul_le_mul_left->xaC,mul_le_mul_right->xak,mul_lt_mul_of_pos_right->xbI,mul_one->xea,mul_pos->xdy,mul_zero->xcO,not_lt_zero->xbq,one_mul->xcz,pos_of_ne_zero->xcJ,pow_add->xbo,pow_le_pow_left->xff,pow_le_pow_right->xal,pow_lt_pow_right->xfT,pow_mul->xch,pow_pos->xaV,pow_succ->xba,pow_zero->xez,strongRecOn->xdG,sub_self->xcD,succ_mul->xds,two_pow_pos->xdL,zero_add->xaK,zero_le->xan,zero_mul->xcp
open Option renaming getD_some->xdq
open Prod renaming ext->xfv
open Rat renaming intCast_mul->xbs,mkRat_eq_div->xfS,natCast_inj->xec,natCast_mul->xda,pow_zero->xfj,zero_mul->xeA
section
variable{fu d b j k:wr}{r:xS Zr×xS Qr}{β:wr->kw}
def Su(n j:K):yS (vl<|xaa n (((I,[]),[]):Qr)) j=0:=by
 rw[ek];simp[FS,xdj];split<;>simp[MR]
theorem zbJ{o:N Qr}(c:∀x∈o,VN x)(h1:X o<=1000)(g:3000000<=fu):
 ∃n,Xl fu o=Z (o.take n)/\n<=X o/\(∀i,yS (vl<|o.take n) i=yS (vl o) i)/\(n≠0->yS (vl o) (n-1)≠0):=by
 unfold Xl;obtain⟨y,m,n,rfl,p⟩:=yc (f:=Jj fu) (λs:N Qr=>∃n,s=o.take n/\n<=X o/\∀i,yS (vl s) i=yS (vl o) i) (λs=>X s) (λy=>∃n,y=o.take n/\n<=X o/\(∀i,yS (vl<|o.take n) i=yS (vl o) i)/\(n≠0->yS (vl o) (n-1)≠0)) (by
  rintro _ L ⟨n,rfl,g1,a⟩ q;have hl:X (o.take n)=n:=by rw[xav];lia
  unfold Jj;rw[hl]
  cases n with
  |zero=>
   rw[zB];exact⟨_,O,0,O,g1,a,λh=>wS O h⟩
  |succ e=>
   have e1:((e+1:K):J)-1=(e:J):=W
   have t:(0:J)<((e+1:K):J):=W
   rw[iq t,e1,zb,z8,S,U<|iA (BO (λx u=>c x<|xdo u) e) g,<-ek,a];by_cases h0:yS (vl o) e=0
   ·rw[iq<|gw.2 h0,zb,yF,yW,S,List.take_take,xcq<|xbH e];refine q _ ⟨e,O,W,λi=> ?_⟩ (by rw[xav,hl];lia);by_cases hi:i<e
    ·unfold vl;rw[xeU,oy hi]
    ·rw[Yg (l:=vl<|o.take e)<|by rw[kL,xav];lia];by_cases h:i=e
     ·rw[h,h0]
     ·rw[<-a,Yg<|by rw[kL,hl];lia]
   ·rw[ir<|λh=>h0<|gw.1 h];exact⟨_,O,e+1,O,g1,a,λ_=>h0⟩) fu o ⟨X o,by rw[xbY],IR _,λ_=>O⟩ W
 exact⟨n,by rw[U m],p⟩
theorem zjc{y l:N kw}{q:N Qr}{i1:K}{c:kw}(o:∀i,bT<|yS l i)(hl:i1+X y<=X l)(h1:X l<=1000)(hi:i1<X q)(p:q.getD i1 ((I,[]),[])=cq c)(t:bT c)(u:∀m,bT<|yS y m)(hc:∀m,bT<|c*yS y m)(g:3000000<=fu):
 ∃z,zg (Ys fu (y.map cq) (i1:J)) fu (y.map cq,0,q,l.map cq)=Z z/\∃a,z=(y.map cq,q,a.map cq)/\X a=X l/\∀j,yS a j=yS l j+ -1*(if i1<=j/\j<i1+X y then c*yS y (j-i1)else 0):=by
 refine yc (λs=>∃(m:K) (l1:N kw),s=(y.map cq,(m:J),q,l1.map cq)/\m<=X y/\X l1=X l/\∀j,yS l1 j=yS l j+ -1*(if i1<=j/\j<i1+m then c*yS y (j-i1)else 0)) (λs=>X y-s.2.1.toNat) _ ?_ fu _ ⟨0,l,O,xan _,O,λj=>by rw[zB];grind⟩ (by show X y-(0:J).toNat<fu;lia);rintro _ L ⟨m,l1,rfl,A,n,f⟩ v;unfold Ys;simp only;rw[xaj];by_cases hd:m=X y
 ·rw[zB,U O];simp only[xao,uS];exact⟨_,O,l1,O,n,λj=>by rw[f,hd]⟩
 ·rw[zX,U O];simp only[uP];have w:(i1:J)+m=((i1+m:K):J):=W
  have x:yS l1 (i1+m)=yS l (i1+m):=by rw[f,zB];grind
  rw[zo (by rw[xaj];lia),S,bF,w,zb,zb,zo (by rw[xaj];lia),S,bF,x,z8,S,p,U<|QM t.rs (u m).rs g,uy,uy,U<|pZ (o _).rs (hc m).rs g,uy,uy,zo (by rw[xaj];lia),S,zb,<-List.map_set];refine v _ ⟨m+1,_,O,W,by rw[xbj,n],λj=> ?_⟩ (by show X y-((m:J)+1).toNat<X y-(m:J).toNat;lia);rw[Kx];unfold PJ;by_cases e:j=i1+m
  ·rw[iq e,zX,e,(W:i1+m-i1=m)];grind
  ·rw[ir e,f];congr 3;exact ii ⟨λh=>by lia,λh=>by lia⟩
theorem zgr{f a t m e:K}{D E N:K}{l y:xS kw}{h σ:J}{c:kw}(g:σ*σ=1)(v:(N:J)=σ*h)(C:0<N)(hd:N<2^a)(E1:E<2^a)(o:yS y m*E=h)(hc:c*yS y m=yS l e)
 (x:∀i,∃n:J,yS y i*E=n/\n.natAbs<2^a) (on:∀j,∃n:J,yS l j*((D*N^t:K):kw)=n/\n.natAbs<2^(f+t*(a+1))):
 (∃n:J,c*((D*N^(t+1):K):kw)=n/\n.natAbs<2^(f+(t+1)*(a+1)))/\(∀i,∃n:J,c*yS y i*((D*N^(t+1):K):kw)=n/\n.natAbs<2^(f+t*(a+1)+a))/\(∀j,∃n:J,yS l j*((D*N^(t+1):K):kw)=n/\n.natAbs<2^(f+t*(a+1)+a)):=by
 have e1:((D*N^(t+1):K):kw)=((D*N^t:K):kw)*(N:kw):=by rw[xba,<-xaT,xda]
 have p:(N:kw)=(σ:kw)*(h:kw):=by rw[<-xbs,<-v];rfl
 have F:(σ:kw)*(σ:kw)=1:=by rw[<-xbs,g];rfl
 have q:∀z:J,(σ*z).natAbs=z.natAbs:=λz=>by
  have:σ.natAbs=1:=by
   have:=ut Int.natAbs g;rw[xct]at this;exact Nat.eq_one_of_mul_eq_one_right this
  rw[xct,this,xcz]
 have⟨s,r1,r2⟩:=on e;have w:f+(t+1)*(a+1)=f+t*(a+1)+a+1:=by rw[xds];lia
 have G:=xba 2<|f+t*(a+1)+a;refine⟨⟨σ*(s*E),?_,?_⟩,λi=> ?_,λj=> ?_⟩
 ·rw[xbs,xbs,<-r1,e1,p,<-o,<-hc];show _=(σ:kw)*(c*yS y m*((D*N^t:K):kw)*(E:kw));grind
 ·rw[q,w];have:=xv r2 (b:=(E:J)) (k:=a) (by rw[xaD];exact E1);lia
 ·have⟨u,A,B⟩:=x i;refine⟨σ*(s*u),?_,by rw[q];exact xv r2 B⟩;rw[xbs,xbs,<-r1,<-A,e1,p,<-o,<-hc];grind
 ·have⟨n,n1,n2⟩:=on j;exact⟨n*N,by rw[xbs,<-n1,e1];show _=yS l j*((D*N^t:K):kw)*(N:kw);grind,xv n2<|by rw[xaD];exact hd⟩
theorem zde{x y:xS kw}{A p m:wr}(hX:Ht A x)(hY:Ht p y)(hm:X y=m+1)(h0:yS y m≠0)(hl:X x<=100)(hr:m<=X x)(hk:A+(X x+2)*(p+1)<=200000)(P:3000000<=fu):
 ∃(q:xS Qr) (z:xS kw),ZD fu (x.map cq) (y.map cq)=Z (q,z.map cq)/\(∀u∈q,VN u)/\X q<=X x-m/\X z<=m/\(X z≠0->yS z (X z-1)≠0)/\
  (∀t,vd x t=vd (vl q) t*vd y t+vd z t)/\Ht (A+(X x-m+1)*(p+1)) (vl q)/\Ht (A+(X x-m)*(p+1)) z:=by
 have⟨D,D0,D1,hD⟩:=hX;have⟨E,E0,E1,Y⟩:=hY;have⟨Q,hd,hw⟩:=Y m;have hz:((E:wr):kw)≠0:=λe=>by have:=xec.1<|e.trans (by rfl:(0:kw)=((0:wr):kw));lia
 have a6:Q≠0:=λe=>by
  rw[e]at hd;have:yS y m*(E:kw)=0:=hd;grind
 have⟨N,hA⟩:∃N,N=Q.natAbs:=⟨_,O⟩;have N0:0<N:=iP
 have⟨σ,a0,hN⟩:∃σ:J,σ*σ=1/\(N:J)=σ*Q:=by
  by_cases h:0<=Q
  ·exact⟨1,O,iP⟩
  ·exact⟨-1,O,iP⟩
 have he:N<2^p:=iP
 have⟨s,hs⟩:∃s,s=X x-m:=⟨_,O⟩;have hB:s<=X x:=iP
 have C:∀t,0<D*N^t:=λt=>xdy D0<|xaV N0;have H:∀t,t<=s->D*N^t<2^(A+t*(p+1))\/t=0/\D*N^t<2^A:=λt ht=>by
  cases t with
  |zero=>right;exact⟨O,by simpa using D1⟩
  |succ t=>
   left;have h1:N^(t+1)<=2^(p*(t+1)):=by rw[xch];exact xff iP _
   have h2:2^(A+(t+1)*(p+1))=2^A*2^((t+1)*(p+1)):=xbo ..;have h3:2^(p*(t+1))<=2^((t+1)*(p+1)):=xal i0 (by rw[xaS];exact xaC _ iP);rw[h2];exact xah (xbI D1<|xaV N0)<|xaC _<|xap h1 h3
 have R:∀t,t<=s+1->A+t*(p+1)+p+1<=200000:=λt ht=>by
  have:=xak (p+1) (iP:t+1<=X x+2);rw[xds]at this;lia
 have F:∀{v:kw}{t a:wr},t<=s->(∃n:J,v*((D*N^t:wr):kw)=n/\n.natAbs<2^a)->a<=200000->bT v:=λ{v t a} ht ⟨n,M,a2⟩ ha=>by
  have h1:=R t iP;have h3:2^(A+t*(p+1))<=2^(max a<|A+t*(p+1)):=xal i0<|xdS ..;have h4:2^A<=2^(max a<|A+t*(p+1)):=xal i0 iP;have h5:2^a<=2^(max a<|A+t*(p+1)):=xal i0<|xeb ..;exact FU (K:=max a<|A+t*(p+1)) (C t) (by obtain h|⟨_,h⟩:=H t ht<;>lia) M iP
 have sY:∀i,bT (yS y i):=λi=>by have⟨n,M,a2⟩:=Y i;exact FU E0 E1 M a2 (by have:=R 0 iP;lia)
 have hC:m<=100:=iP
 have a5:∃w,zg (Yp fu<|y.map cq) fu ((s:J)-1,xaa s ((I,[]),[]),x.map cq)=Z w/\∃(q:xS Qr) (l:xS kw),w=(q,l.map cq)/\(∀u∈q,VN u)/\X q=s/\X l=X x/\(∀j,m<=j->yS l j=0)/\(∀t,vd x t=vd (vl q) t*vd y t+vd l t)/\
  (∀j,∃n:J,yS (vl q) j*((D*N^s:wr):kw)=n/\n.natAbs<2^(A+(s+1)*(p+1)))/\(∀j,∃n:J,yS l j*((D*N^s:wr):kw)=n/\n.natAbs<2^(A+s*(p+1))):=by
  have hF:s+m=X x:=iP
  refine yc (λst=>∃(i:wr) (q:xS Qr) (l:xS kw),st=((i:J)-1,q,l.map cq)/\i<=s/\(∀u∈q,VN u)/\X q=s/\X l=X x/\(∀j,i+m<=j->yS l j=0)/\(∀j,j<i->yS (vl q) j=0)/\(∀t,vd x t=vd (vl q) t*vd y t+vd l t)/\
   (∀j,∃n:J,yS (vl q) j*((D*N^(s-i):wr):kw)=n/\n.natAbs<2^(A+(s-i+1)*(p+1)))/\(∀j,∃n:J,yS l j*((D*N^(s-i):wr):kw)=n/\n.natAbs<2^(A+(s-i)*(p+1)))) (λst=>(st.1+1).toNat) _ ?_ fu _ ?_ ?_
  ·rintro _ L ⟨i,q,l,rfl,hG,g1,T,g3,g4,g5,g6,g7,V⟩ ih;unfold Yp;simp only
   cases i with
   |zero=>
    rw[zB];exact⟨_,O,q,l,O,g1,T,g3,λj G=>g4 j iP,g6,by simpa using g7,by simpa using V⟩
   |succ i=>
    have⟨t,ht⟩:∃t,t=s-(i+1):=⟨_,O⟩;have hg:s-i=t+1:=iP
    rw[<-ht]at g7 V;have e1:((i+1:wr):J)-1=(i:J):=iP
    have e2:(i:J)+((m+1:wr):J)-1=((i+m:wr):J):=iP
    have e3:((m+1:wr):J)-1=(m:J):=iP
    have hc:yS l (i+m)/yS y m*yS y m=yS l (i+m):=by grind
    have⟨c,hn⟩:∃c,c=yS l (i+m)/yS y m:=⟨_,O⟩;rw[<-hn]at hc;have⟨w1,w2,w3⟩:=zgr (e:=i+m) a0 hN N0 he E1 hd hc Y V;have W:=R (t+1) iP;have W1:A+t*(p+1)+p+1=A+(t+1)*(p+1):=by rw[xds];lia
    have s1:∀j,bT (yS l j):=λj=>F (t:=t) iP (V j) iP;have s2:bT c:=F (t:=t+1) iP w1 iP;have s3:∀j,bT (c*yS y j):=λj=>F (t:=t+1) iP (w2 j) iP;have ho:qv (cq<|yS y m)≠0:=by rw[uy];exact h0
    rw[e1,zX,xaj,hm,zb,e2,zb,zo (by rw[xaj];lia),S,bF,e3,zb,z8,S,bF,U<|pk (s1 _).rs (sY m).rs ho P,uy,uy,<-hn];simp only;have hp:(q.set i<|cq c).getD i ((I,[]),[])=cq c:=by rw[FS,xdv iP];rfl
    obtain⟨_,v1,l',rfl,v2,v3⟩:=zjc (fu:=fu) (y:=y) (l:=l) (q:=q.set i<|cq c) (i1:=i) (c:=c) s1 iP iP (by rw[xbj];lia) hp s2 sY s3 P;rw[z8,S,U v1];simp only;rw[zb];refine ih _ ⟨i,_,l',O,iP,Ld g1 s2,by rw[xbj,T],v2.trans g3,λj G=> ?_,λj G=> ?_,λB=> ?_,λj=> ?_,λj=> ?_⟩ (by show((i:J)-1+1).toNat<(((i+1:wr):J)-1+1).toNat;lia)
    ·rw[v3];by_cases h:j=i+m
     ·rw[zX,h,(iP:i+m-i=m),hc];grind
     ·rw[zB,g4 j iP];grind
    ·rw[tc,Kx<|by rw[kL];lia];unfold PJ;rw[zB,g5 j iP]
    ·have c1:vd (vl<|q.set i<|cq c) B=vd (vl q) B+c*B^i:=by
      rw[tc];have:=zhM (f:=yS<|vl q) (k:=i) (v:=c) (t:=B) (n:=s) iP;rw[<-Kx (by rw[kL];lia),g5 i iP]at this;rw[kG (n:=s) (by rw[xbj,kL,T];exact IR _),kG (l:=vl q) (n:=s) (by rw[kL,T];exact IR _),this];grind
     have c2:=UO (β:=yS y) (g:=λj=>if i<=j/\j<i+X y then c*yS y (j-i)else 0) (c:=c) (e:=i) (λj G=>by rw[zB]) (X y) (λj G=>by rw[zX,(iP:i+j-i=j)]) B;have c3:=UQ (f:=λj=>if i<=j/\j<i+X y then c*yS y (j-i)else 0) (iP:i+X y<=X x) (λj G=>by rw[zB]) B;have c4:vd l' B=vd l B+ -1*xB (X x) (λj=>if i<=j/\j<i+X y then c*yS y (j-i)else 0) B:=by
      rw[kG (n:=X x) iP,kG (l:=l) (n:=X x) iP,<-Xn,<-bC];exact vV λj _=>by rw[v3]
     rw[g6,c1,c4,c3,c2];show _=_+(vd l B+ -1*(c*(B^i*vd y B)));grind
    ·rw[hg];by_cases h:j=i
     ·have⟨n,n1,n2⟩:=w1;refine⟨n,by rw[tc,Kx<|by rw[kL];lia];unfold PJ;rw[iq h];exact n1,xah n2<|xal i0<|by rw[xds<|t+1];lia⟩
     ·have⟨n,n1,n2⟩:=g7 j;refine⟨n*N,?_,xah (xv n2 (b:=(N:J)) (k:=p)<|by rw[xaD];exact he)<|xal i0<|by rw[xds<|t+1];lia⟩;rw[tc,Kx<|by rw[kL];lia];unfold PJ;rw[ir h,xbs,<-n1,xba,<-xaT,xda];show _=yS (vl q) j*((D*N^t:wr):kw)*(N:kw);grind
    ·rw[hg,v3,<-W1];have⟨n,n1,n2⟩:=w3 j;by_cases h:i<=j/\j<i+X y
     ·have⟨u,u1,u2⟩:=w2<|j-i;have:=xba 2<|A+t*(p+1)+p;exact⟨n-u,by rw[iq h,Rat.intCast_sub,<-n1,<-u1];grind,iP⟩
     ·have:=xba 2<|A+t*(p+1)+p;exact⟨n,by rw[ir h,<-n1];grind,iP⟩
  ·refine⟨s,_,x,O,IR _,zav _,xaM,O,λj G=>Yg,λj G=>by rw[Su],λt=> ?_,λj=>⟨0,by rw[Su];grind,xdL _⟩,λj=> ?_⟩
   ·rw[show vd (vl<|xaa s (((I,[]),[]):Qr)) t=0 from XX λi _=>by rw[Su,xeA]];grind
   ·have⟨n,n1,n2⟩:=hD j;exact⟨n,by rw[xcD,xez,xea];exact n1,by rw[xcD,xcp];exact n2⟩
  ·show((s:J)-1+1).toNat<fu;lia
 obtain⟨_,r1,q,l,rfl,r2,r3,r4,r5,r6,r7,r8⟩:=a5;have W:=R s iP;have sl:∀j,bT (yS l j):=λj=>F (t:=s) (IR _) (r8 j) iP;have⟨n1,M,a2,a3,a4⟩:=zbJ (fu:=fu) r2 iP P;have⟨n2,b1,b2,b3,b4⟩:=zbJ (fu:=fu) (o:=l.map cq) (λu hu=>by
  obtain⟨v,hv,rfl⟩:=xas.1 hu;have⟨i,hi,e⟩:=xcE.1 hv;have:=sl i;unfold yS at this;rw[FS,xab hi,xdq,e]at this;exact this.rs) (by rw[xaj];lia) P
 rw[xaj]at b2;rw[XP]at b3 b4;rw[<-xeU]at b1 b3;rw[XP]at b3;have hq:X (l.take n2)=n2:=by rw[xav];lia
 have hH:n2<=m:=xai λh=>b4 iP (r5 (n2-1) iP);have W2:A+(s+1)*(p+1)=A+s*(p+1)+p+1:=by rw[xds];lia
 have dl:D*N^s<2^(A+s*(p+1)):=by
  rcases H s (IR _)with h|⟨h,h'⟩
  ·exact h
  ·rw[h,xcp];rw[h]at h';exact h'
 refine⟨q.take n1,l.take n2,?_,λu hu=>r2 u<|xdo hu,by rw[xav];lia,iP,λh=> ?_,λt=> ?_,?_,?_⟩
 ·unfold ZD;rw[xaj,xaj,hm,zb,zb,S,(iP:max ((X x:J)-((m+1:wr):J)+1) 0=(s:J)),yF,yW,S];simp only[xbP,xbA];rw[yW,S,xaM,zb,U r1];simp only;rw[U M,U b1]
 ·rw[hq]at h⊢;rw[b3];exact b4 h
 ·rw[r6,kG (l:=l.take n2) (n:=X x) iP,kG (l:=l) (n:=X x) iP,kG (l:=vl<|q.take n1) (n:=s) (by rw[kL,xav];lia),kG (l:=vl q) (n:=s) (by rw[kL];lia),jp a3,jp b3]
 ·rw[<-hs];unfold Ht;rw[jp a3,W2];refine⟨_,C s,xah dl (xal i0 iP),λj=>by rw[<-W2];exact r7 j⟩
 ·rw[<-hs];unfold Ht;rw[jp b3];exact⟨_,C s,dl,r8⟩
end
section
variable{fu d b j k h:wr}{r:xS Zr×xS Qr}{β:wr->kw}
def Irq(d:K)(β:K->kw):Prop:=∀(A:kw->kw) (n:K) (f:K->kw),cn A->f n≠0->(∀t,xB (d+1) β t=A t*xB (n+1) f t)->n=0\/n=d
def Yh(h:K):K->K
 |0=>h
 |1=>h
 |n+2=>Yh h n+5*(Yh h (n+1)+1)
def Th(h C:K):K->K
 |0=>1
 |1=>1
 |n+2=>Th h C n+Th h C (n+1)+Yh h n+6*(Yh h (n+1)+1)+C
def rN{n i:K}(h:i<n):yS ((xaN n).map β) i=β i:=by
 unfold yS;simp[FS,h]
def GF(t:kw):vd ((xaN<|d+1).map β) t=xB (d+1) β t:=by
 rw[kG (n:=d+1) i7];exact vV λi hi=>by rw[rN hi]
def sa{l:N kw}{k:K}(h:Ht k l)(a:k<=256000):∀x∈l.map cq,VN x:=zmC h a
theorem zcX(F:Fld r d b β)(hj:d<=4)(hb:b<=16)(hI:Irq d β){a:kw->kw}(ha:cn a)(hh:h<=500)(hd:b<=h){e:N kw}(y1:X e<=d)(y2:X e≠0->yS e (X e-1)≠0)(y3:Ht h e)(y4:ju (xB (d+1) β) (vd e) a)(y5:X e≠0)(he:r.2=((xaN<|d+1).map β).map cq)(R:3000000<=fu):
 ∃w,zg (ZF fu<|some r) fu (r.2,e.map cq,[],[cq 1])=Z w/\∃(c:kw) (ts:N kw),w=([cq c],ts.map cq)/\c≠0/\re 16 ts/\Ht (Yh h 4) [c]/\Ht (Th h (135*(b+1)) 4) ts/\ju (xB (d+1) β) (λ_=>c) (λt=>vd ts t*a t):=by
 have hk:=F.d1;have⟨C,hC⟩:∃C,C=135*(b+1):=⟨_,O⟩;rw[<-hC];have ym:∀i,i<=4->Yh h i<=Yh h 4:=λi hi=>by
  have:i=0\/i=1\/i=2\/i=3\/i=4:=W
  obtain rfl|rfl|rfl|rfl|rfl:=this<;>simp only[Yh]<;>lia
 have tm:∀i,i<=4->Th h C i<=Th h C 4:=λi hi=>by
  have:i=0\/i=1\/i=2\/i=3\/i=4:=W
  obtain rfl|rfl|rfl|rfl|rfl:=this<;>simp only[Th,Yh]<;>lia
 refine yc (λs=>∃(i:K) (x y g ts:N kw),s=(x.map cq,y.map cq,g.map cq,ts.map cq)/\X y+i<=4/\X y<X x/\X x<=d+1/\(X y≠0->yS y (X y-1)≠0)/\X y≠0/\Ht (Yh h i) x/\Ht (Yh h<|i+1) y/\re 16 g/\re 16 ts/\Ht (Th h C i) g/\Ht (Th h C<|i+1) ts/\
  ju (xB (d+1) β) (vd x) (λt=>vd g t*a t)/\ju (xB (d+1) β) (vd y) (λt=>vd ts t*a t)/\∃A B,cn A/\cn B/\∀t,xB (d+1) β t=A t*vd x t+B t*vd y t) (λs=>X s.2.1) _ ?_ fu _ ?_ ?_
 ·rintro _ L ⟨i,x,y,g,ts,rfl,g1,g2,g3,g4,g5,g6,S,g8,T,E,l,V,o,A,B,v,G,H⟩ ih;unfold ZF;simp only;by_cases hg:X y=1
  ·rw[xaj,zB];obtain⟨c,rfl⟩:∃c,y=[c]:=xcG.1 hg;refine⟨_,O,c,ts,O,g4 W,T,dE.mono S (ym _ W),dE.mono l (tm _ W),ju.trans (ju.of λt=> ?_) o⟩;show c=0+c*t^0;rw[xfj];grind
  ·rw[xaj,zX];have⟨m,Y⟩:∃m,X y=m+1:=⟨X y-1,W⟩;have hi:i=0\/i=1\/i=2:=W
   have b1:Yh h i+7*(Yh h (i+1)+1)<=200000/\Th h C (i+2)=Th h C i+Th h C (i+1)+Yh h i+6*(Yh h (i+1)+1)+C/\Th h C (i+2)<=240000/\Yh h (i+2)=Yh h i+5*(Yh h (i+1)+1):=by
    obtain rfl|rfl|rfl:=hi<;>simp only[Yh,Th,cE,gC]<;>lia
   have⟨b1,b2,b3,b4⟩:=b1;have q1:=xak (Yh h (i+1)+1) (W:X x+2<=7);have q2:=xak (Yh h (i+1)+1) (W:X x-m+1<=6);have q3:=xak (Yh h (i+1)+1) (W:X x-m<=5);have hc:yS y m≠0:=by have:=g4 g5;rwa[Y]at this
   have⟨q,z,v1,v2,v3,v4,v5,M,v7,v8⟩:=zde (fu:=fu) g6 S Y hc W W W R;have a0:=dE.mono v7 (k:=Yh h i+6*(Yh h (i+1)+1)) W;have t1:Ht (Th h C<|i+1) (vl<|ts.map cq):=by rw[XP];exact l
   have⟨p,p1,p2,p3,p4⟩:=sO (fu:=fu) F v2 (sa l W) W (by rw[xaj];have:=T.1;lia) a0 t1 W R;have s1:Ht (Th h C i) (vl<|g.map cq):=by rw[XP];exact E
   have p5:Ht (Yh h i+6*(Yh h (i+1)+1)+Th h C (i+1)+101*(b+1)) (vl<|p.map cq):=by rw[XP];exact p4
   have⟨u,u1,u2,u3,u4⟩:=BX (fu:=fu) (n:= -1) F (sa E W) (sa p4 W) (by rw[xaj];have:=g8.1;lia) (by rw[xaj];have:=p2.1;lia) s1 p5 (.inr O) W R;rw[XP]at p3 u3;rw[XP]at u3;rw[U v1];simp only;rw[U O,U O,U p1,U u1];have a1:X u<=16:=by have:=u2.1;lia
   have hz:X z≠0:=λhz=>by
    rw[xbh.1 hz]at M;have:=hI (λt=>A t*vd (vl q) t+B t) m (yS y) ((v.mul<|ur _).add G) hc λt=>by
     rw[H t,M t,Mv];have:vd y t=xB (m+1) (yS y) t:=by unfold vd;rw[Y]
     rw[this];grind
    lia
   refine ih _ ⟨i+1,y,z,ts,u,O,W,W,W,v5,hz,S,dE.mono v8 (by show _<=Yh h (i+2);rw[b4];lia),T,⟨a1,u2.2⟩,l,dE.mono u4 (by show _<=Th h C (i+2);lia),o,?_,_,_,(v.mul<|ur<|vl q).add G,v,λt=>by rw[H t,M t];grind⟩ (by show(z.map cq).length<X (y.map cq);rw[xaj,xaj];lia);have w1:ju (xB (d+1) β) (vd z) (λt=>vd x t-vd (vl q) t*vd y t):=ju.of λt=>by rw[M t];grind
   have w2:ju (xB (d+1) β) (λt=>vd x t-vd (vl q) t*vd y t) (λt=>vd g t*a t-vd (vl q) t*(vd ts t*a t)):=V.sub<|ju.mul (ur _) (ur _) ju.refl o;have w3:ju (xB (d+1) β) (vd u) (λt=>vd g t-vd (vl q) t*vd ts t):=u3.trans (by
    have⟨Q,k1,k2⟩:=p3.smul (-1);exact⟨Q,k1,λt=>by have:=k2 t;rw[show(((-1:J)):kw)= -1 from O];grind⟩)
   have w4:=ju.mul (F':=a) (G':=a) (P:=xB (d+1) β) ha (cn.sub (ur g)<|(ur<|vl q).mul<|ur ts) w3 ju.refl;exact(w1.trans w2).trans<|(ju.of λt=>by grind).trans w4.symm
 ·refine⟨0,(xaN<|d+1).map β,e,[],[1],by rw[he];rfl,W,by simp;lia,i7,y2,y5,?_,y3,re.nil _,⟨i0,λ_=>by decide⟩,?_,?_,?_,?_,_,_,cn.c 1,cn.c 0,λt=> ?_⟩
  ·refine dE.mono (j:=b) (f:=yS<|(xaN<|d+1).map β) ?_ hd;have⟨D,D0,D1,hD⟩:=F.ht;refine⟨D,D0,D1,λi=> ?_⟩;by_cases hi:i<d+1
   ·rw[rN hi];exact hD i
   ·rw[Yg<|by simp;lia];exact⟨0,by grind,xdL _⟩
  ·show Ht 1 [];exact⟨1,i0,i0,λi=>⟨0,by unfold yS;rw[List.getD_nil];grind,i0⟩⟩
  ·show Ht 1 [1];exact⟨1,i0,i0,λi=>by
    cases i with
    |zero=>exact⟨1,by show(1:kw)*((1:K):kw)=((1:J):kw);grind,i0⟩
    |succ i=>exact⟨0,by rw[Yg i7];grind,i0⟩⟩
  ·exact⟨_,cn.c 1,λt=>by show vd ((xaN<|d+1).map β) t-vd [] t*a t=_;rw[GF,Mv];grind⟩
  ·exact y4.trans (ju.of λt=>by show _=(0+1*t^0)*a t;rw[xfj];grind)
  ·rw[GF];grind
 ·show(e.map cq).length<fu;rw[xaj];lia
end
section
variable{m u d g:xS wl}{P:wr}{f v w:Pz}{y p a:wl}{b:wr->Pz}{l us:xS (xS wl)}
def pp(f:Pz):K->Pz
 |0=>F 1
 |n+1=>pp f n*f
def Cl(f:Pz)(m:K):∀n,pp f (m+n)=pp f m*pp f n
 |0=>(yf _).symm
 |n+1=>by rw[<-xcH];show pp f (m+n)*f=_;rw[Cl f m n,zd];rfl
def zeK(f g:Pz):∀n,pp (f*g) n=pp f n*pp g n
 |0=>(yf _).symm
 |n+1=>by
  show pp (f*g) n*(f*g)=pp f n*f*(pp g n*g);rw[zeK f g n,zd,zd,zD<|pp g n]
def zfF(f:Pz)(m:K):∀n,pp (pp f m) n=pp f (m*n)
 |0=>rfl
 |n+1=>by rw[Nat.mul_succ,Cl f,<-zfF f m n];rfl
def zfc(c:J):∀n,pp (F c) n=F (c^n)
 |0=>by rw[xcj];rfl
 |n+1=>by show pp (F c) n*F c=_;rw[zfc c n,kf,xbU]
def Fs.pp{f:Pz}(h:Fs f):∀n,Fs (pp f n)
 |0=>⟨1,λk c=>zB⟩
 |n+1=>(Fs.pp h n).mul h
def smP:K->(K->Pz)->Pz
 |0,_=>pc 0
 |n+1,F=>smP n F+F n
def XT{F G:K->Pz}:∀n,(∀i,i<n->F i=G i)->smP n F=smP n G
 |0,_=>rfl
 |n+1,h=>by show smP n F+F n=smP n G+G n;rw[XT n λi hi=>h i W,h n W]
def R2{m:J}{F G:K->Pz}:∀n,(∀i,i<n->Cg m (F i) (G i))->Cg m (smP n F) (smP n G)
 |0,_=>Cg.rfl
 |n+1,h=>(R2 n λi hi=>h i W).add<|h n W
theorem Jo(f g:Pz):f+g=g+f:=by grind [zU,Int.add_comm]
def Vf(f g h:Pz):f+g+h=f+(g+h):=jp λk=>by simp only[zU];lia
def Wj(f:Pz):f+F 0=f:=jp λk=>by rw[zU,zQ,xcd]
def Ek(f:Pz):F 0+f=f:=jp λk=>by rw[zU,zQ,xcS]
def oI(g:Pz)(F:K->Pz):∀n,smP n F*g=smP n λi=>F i*g
 |0=>yu g
 |n+1=>by show(smP n F+F n)*g=smP n (λi=>F i*g)+F n*g;rw[yR,oI g F n]
def MJ(F G:K->Pz):∀n,smP n (λi=>F i+G i)=smP n F+smP n G
 |0=>(Wj _).symm
 |n+1=>by
  show smP n (λi=>F i+G i)+(F n+G n)=smP n F+F n+(smP n G+G n);rw[MJ F G n];funext k;simp only[zU];lia
def YF(F:K->Pz):∀n,smP (n+1) F=F 0+smP n λi=>F (i+1)
 |0=>by show pc 0+F 0=F 0+pc 0;rw[Jo]
 |n+1=>by show smP (n+1) F+F (n+1)=F 0+(smP n (λi=>F<|i+1)+F (n+1));rw[YF F n,Vf]
def zfS{m:J}{F:K->Pz}(n:K)(h:∀i,i<n->Cg m (F i) (pc 0)):Cg m (smP n F) (pc 0):=by
 induction n with
 |zero=>exact Cg.rfl
 |succ n c=>
  have:=(c λi hi=>h i W).add (h n W);rw[Wj]at this;exact this
theorem Tz(a b:J):F (a+b)=F a+F b:=by grind [F,zU]
def zgK(f g:Pz):∀n,pp (f+g) n=smP (n+1) λi=>F (cy n i)*(pp f i*pp g (n-i))
 |0=>by
  show F 1=F 0+F ((cy 0 0:K):J)*(F 1*F 1);rw[Ek,zC,show((cy 0 0:K):J)=1 from O,zC]
 |n+1=>by
  show pp (f+g) n*(f+g)=_;rw[zgK f g n,wC,oI,oI];have e1:(smP (n+1) λi=>F (cy n i)*(pp f i*pp g (n-i))*g)=smP (n+2) λi=>F (cy n i)*(pp f i*pp g (n+1-i)):=by
   have c:F ((cy n (n+1):K):J)*(pp f (n+1)*pp g (n+1-(n+1)))=F 0:=by rw[pK n (n+1) W];exact yu _
   show _=smP (n+1) _+F ((cy n (n+1):K):J)*(pp f (n+1)*pp g (n+1-(n+1)));rw[c,Wj];refine XT _ λi hi=> ?_;rw[(W:n+1-i=n-i+1),zd,zd];rfl
  have e:(smP (n+1) λi=>F (cy n i)*(pp f i*pp g (n-i))*f)=smP (n+1) λi=>F (cy n i)*(pp f (i+1)*pp g (n+1-(i+1))):=
   XT _ λi hi=>by rw[(W:n+1-(i+1)=n-i),zd,zk (pp f i*_) f,<-zd f,zk f<|pp f i];rfl
  rw[e1,e,YF _<|n+1,YF (λi=>F ((cy (n+1) i:K):J)*(pp f i*pp g (n+1-i)))<|n+1,Vb,Vb,<-Vf,Jo<|smP _ _,Vf,<-MJ];congr 1;refine XT _ λi hi=> ?_;rw[Jx,xeO,Tz,yR,Jo]
def znX(hp:2<=P)(hn:ke P)(f g:Pz):Cg (P:J) (pp (f+g) P) (pp f P+pp g P):=by
 obtain⟨q,rfl⟩:∃q,P=q+1:=⟨P-1,W⟩;rw[zgK];show Cg _ (smP (q+1) _+pc ((cy (q+1) (q+1):K):J)*(pp f (q+1)*pp g (q+1-(q+1)))) _;rw[YF,BT,Vb,xcD,show((1:K):J)=1 from O,zC,zC];have e:=zfS (m:=((q+1:K):J)) (F:=λi=>pc ((cy (q+1) (i+1):K):J)*(pp f (i+1)*pp g (q+1-(i+1)))) q λi hi=>Cg.of_dvd λk=>by
  rw[zN];exact xbw (xcW.2<|zaS hp hn)<|xce _ _
 have h1:pp f 0*pp g (q+1-0)=pp g (q+1):=zC _;have h:pp f (q+1)*pp g 0=pp f (q+1):=yf _;rw[h1,h];have c:=((Cg.rfl (m:=((q+1:K):J)) (f:=pp g<|q+1)).add e).add<|Cg.rfl (f:=pp f<|q+1);rw[Wj,Jo (pp g _)<|pp f _]at c;exact c
def GB{P:K}(hp:2<=P)(hn:ke P)(F:K->Pz):∀n,Cg (P:J) (pp (smP n F) P) (smP n λi=>pp (F i) P)
 |0=>by
  show Cg _ (pp (pc 0) P) (pc 0);rw[zfc,Int.zero_pow W];exact Cg.rfl
 |n+1=>(znX hp hn (smP n F)<|F n).trans<|(GB hp hn F n).add Cg.rfl
def vx:Pz:=mono 1 1
def zbf(c:J):∀i,(mono i c:Pz)=F c*pp vx i
 |0=>by
  show _=F c*F 1;rw[yf];funext k;unfold mono F;rfl
 |i+1=>by
  show _=F c*(pp vx i*vx);rw[<-zd,<-zbf c i];funext k;rw[zk];show mono (i+1) c k=((mono 1 1:Pz)*mono i c) k;rw[VL];unfold sh mono;by_cases h:1<=k
  ·rw[iq h];by_cases e:k=i+1
   ·rw[iq e,zX,xdg]
   ·rw[ir e,zB,xaA]
  ·rw[ir h,zB];rfl
def zhb{n:K}(h:∀k,n<=k->f k=0):f=smP n λi=>mono i (f i):=by
 have e:∀m k,smP m (λi=>(mono i (f i):Pz)) k=if k<m then f k else 0:=λm=>by
  induction m with
  |zero=>intro k;rw[zB];exact zQ k
  |succ m j=>
   intro k;show(smP m (λi=>(mono i (f i):Pz))+mono m (f m)) k=_;rw[zU,j];unfold mono;by_cases h1:k=m
   ·rw[iq h1,zB,zX,h1,xcS]
   ·rw[ir h1,xcd];by_cases c:k<m
    ·rw[iq c,zX]
    ·rw[ir c,zB]
 funext k;rw[e];split
 ·rfl
 ·exact h k W
def Ck(hp:2<=P)(hn:ke P)(a:J):a^P%P=a%P:=by
 have h1:a%P=((a%P).toNat:J)%P:=by
  have:=xcR a (W:(P:J)≠0);rw[xdf this,xaW]
 have c:=SI hp hn (a%P).toNat;have e:=xcR a (W:(P:J)≠0);rw[xdf e,xaW]at c;rw[<-c,<-xcF (a^P)<|xej _];have:∀n,(a%P)^n%P=a^n%P:=λn=>by
  induction n with
  |zero=>rw[xcj,xcj]
  |succ n h=>rw[xbU,xbU,xci,h,xaW,<-xci]
 rw[this,xaW]
def zoa(hp:2<=P)(hn:ke P){n:K}(h:∀k,n<=k->f k=0):Cg (P:J) (pp f P) (smP n λi=>F (f i)*pp (pp vx P) i):=by
 have h1:pp f P=pp (smP n λi=>mono i<|f i) P:=by rw[<-zhb h]
 rw[h1];refine(GB hp hn _ n).trans<|R2 n λi hi=> ?_;rw[zbf,zeK,zfc,zfF,zfF,xaS];refine Cg.mul (λk=> ?_) Cg.rfl;unfold F;split
 ·exact Ck hp hn _
 ·rfl
def es(d:K->J):K->J->J
 |0,_=>0
 |n+1,a=>d 0+a*es (λk=>d<|k+1) n a
theorem zfX(a:J):∀(n:K) (d:K->J),∃q:K->J,(∀b,es d (n+1) b=(b-a)*es q n b+es d (n+1) a)/\(∀k,k<n->d (k+1)=q k-a*(if k+1<n then q (k+1)else 0))/\d 0=es d (n+1) a-a*(if 0<n then q 0 else 0)
 |0,d=>⟨λ_=>0,λb=>by show d 0+b*0=(b-a)*0+(d 0+a*0);grind,λk i=>by lia,by show d 0=d 0+a*0-a*(if 0<0 then 0 else 0);rw[zB];grind⟩
 |n+1,d=>by
  have⟨q,h1,j,h⟩:=zfX a n λk=>d<|k+1;have⟨e,c⟩:∃e,e=es (λk=>d<|k+1) (n+1) a:=⟨_,O⟩;rw[<-c]at h1 h
  refine⟨λk=>match k with
   |0=>e
   |k+1=>q k,λb=> ?_,λk i=> ?_,?_⟩
  ·show d 0+b*es (λk=>d<|k+1) (n+1) b=(b-a)*(e+b*es q n b)+(d 0+a*es (λk=>d<|k+1) (n+1) a);rw[h1 b,<-c];generalize es q n b=x;grind
  ·cases k with
   |zero=>
    show d (0+1)=e-a*(if 0+1<n+1 then q 0 else 0);have o:d (0+1)=e-a*(if 0<n then q 0 else 0):=h;rw[o];by_cases hn:0<n
    ·rw[iq hn,zX]
    ·rw[ir hn,zB]
   |succ k=>
    show d (k+1+1)=q k-a*(if k+1+1<n+1 then q (k+1)else 0);rw[j k W];by_cases hn:k+1<n
    ·rw[iq hn,zX]
    ·rw[ir hn,zB]
  ·show d 0=d 0+a*es (λk=>d<|k+1) (n+1) a-a*(if 0<n+1 then e else 0);rw[zX,c];grind
theorem Iy(hp:2<=P)(hn:ke P){x:J}(h:(P:J)∣x*y):(P:J)∣x\/(P:J)∣y:=by
 by_cases c:(P:J)∣x
 ·exact .inl c
 ·right;have h0:0<(x%P).toNat:=by
   have h1:=xcR x (W:(P:J)≠0);have i:x%P≠0:=λe=>c<|xaH e;lia
  have h1:(x%P).toNat<P:=by
   have:=xdQ x (W:(0:J)<P);lia
  have i:(P:J)∣(x%P)*y:=by
   have:(x%P)*y=x*y-P*(x/P*y):=by
    have:=Int.emod_add_mul_ediv x P;grind
   rw[this];exact xdB h<|xce _ _
  have k:P∣(x%P).toNat*y.natAbs:=by
   have j:=xcr.2 i;rw[xct]at j;have n:(x%P).natAbs=(x%P).toNat:=W
   rwa[xaD,n]at j
  exact xcr.1<|by rw[xaD];exact zaP hp hn h0 h1 k
def zbH{P:K}(hp:2<=P)(hn:ke P):∀(n:K) (d:K->J),n<=P->(∀a:K,a<n->(P:J)∣es d n a)->∀k,k<n->(P:J)∣d k
 |0,_,_,_,k,i=>by lia
 |n+1,d,t,h,k,i=>by
  have⟨q,h1,j,o⟩:=zfX (n:J) n d;have e:=zbH hp hn n q W λa x=>by
   have e1:=h1 a;have r:(P:J)∣((a:J)-n)*es q n a:=by
    have:((a:J)-n)*es q n a=es d (n+1) a-es d (n+1) n:=W
    rw[this];exact xdB (h a W)<|h n W
   obtain e3|e3:=Iy hp hn r
   ·exfalso;have⟨c,hc⟩:=e3;have z:c<0:=by
     apply Int.not_le.1;intro hd;have:=xcC (W:(0:J)<=P) hd;lia
    have A:(P:J)*c<=(P:J)*(-1):=xaZ W W;lia
   ·exact e3
  have s:=h n W
  cases k with
  |zero=>
   rw[o];refine xdB s ?_;split
   ·exact xbw (e 0 W)<|xcU _ _
   ·rw[xaA];exact xdM _
  |succ k=>
   rw[j k W];refine xdB (e k W) ?_;split
   ·exact xbw (e (k+1) W)<|xcU _ _
   ·rw[xaA];exact xdM _
def sc:K->K->J
 |0,k=>if k=0 then 1 else 0
 |n+1,0=> -(n:J)*sc n 0
 |n+1,k+1=>sc n k-(n:J)*sc n (k+1)
theorem sQ:∀n k,n<k->sc n k=0
 |0,k,h=>zB
 |n+1,0,h=>by lia
 |n+1,k+1,h=>by show sc n k-(n:J)*sc n (k+1)=0;rw[sQ n k W,sQ n (k+1) W];grind
theorem SA:∀n,sc n n=1
 |0=>rfl
 |n+1=>by show sc n n-(n:J)*sc n (n+1)=1;rw[SA n,sQ n (n+1) W];grind
def prv(v:Pz):K->Pz
 |0=>F 1
 |n+1=>prv v n*(v-F n)
theorem za3(a:J)(f:Pz):F (-a)*f= -(F a*f):=by grind [zbw,zN,Int.neg_mul]
theorem zbZ(v:Pz):∀n,prv v n=smP (n+1) λk=>pc (sc n k)*pp v k
 |0=>by
  show pc 1=pc 0+pc (sc 0 0)*pc 1;rw[Ek,show sc 0 0=1 from O,yf]
 |n+1=>by
  show prv v n*(v-pc n)=_;have e:∀F G:Pz,F*(G-pc n)=F*G+ -(pc n*F):=λF G=>by rw[qp,zk F<|pc n,N2]
  rw[e,zbZ v n,oI];have c: -(pc (n:J)*smP (n+1) λk=>pc (sc n k)*pp v k)=smP (n+2) λk=>pc (-(n:J)*sc n k)*pp v k:=by
   rw[<-za3,zk,oI];show _=smP (n+1) _+pc (-(n:J)*sc n (n+1))*pp v (n+1);rw[sQ n (n+1) W,xaA,yu,Wj];exact XT _ λi _=>by rw[zk,<-zd,kf]
  rw[c,YF _<|n+1,YF (λk=>pc (sc (n+1) k)*pp v k)<|n+1,<-Vf,Jo<|smP _ _,Vf,<-MJ];congr 1;refine XT _ λi _=> ?_;show pc (sc n i)*pp v i*v+pc (-(n:J)*sc n (i+1))*pp v (i+1)=pc (sc n i-(n:J)*sc n (i+1))*pp v (i+1);rw[zd];show pc (sc n i)*pp v (i+1)+_=_;rw[<-yR,<-Tz];congr 2;grind
theorem fi(d:K->J)(a:J):∀n,es d (n+1) a=es d n a+d n*a^n:=by
 intro n
 induction n generalizing d with
 |zero=>show d 0+a*0=0+d 0*a^0;rw[xcj];grind
 |succ n c=>
  show d 0+a*es (λk=>d<|k+1) (n+1) a=d 0+a*es (λk=>d<|k+1) n a+d (n+1)*a^(n+1);rw[c,xbU];grind
theorem TQ(c d:K->J)(a:J):∀n,es (λk=>c k+d k) n a=es c n a+es d n a
 |0=>rfl
 |n+1=>by rw[fi,fi,fi,TQ c d a n];grind
def prn(a:J):K->J
 |0=>1
 |n+1=>prn a n*(a-n)
theorem zes(a:J):∀n,prn a n=es (sc n) (n+1) a
 |0=>by show(1:J)=1+a*0;grind
 |n+1=>by
  show prn a n*(a-n)=_;have h1:es (sc<|n+1) (n+2) a= -(n:J)*sc n 0+a*es (λk=>sc n k-(n:J)*sc n (k+1)) (n+1) a:=O;have e:es (λk=>sc n k-(n:J)*sc n (k+1)) (n+1) a=es (sc n) (n+1) a+es (λk=> -(n:J)*sc n (k+1)) (n+1) a:=by rw[<-TQ];congr 1;funext k;grind
  have h:∀m (d:K->J) (c:J),es (λk=>c*d k) m a=c*es d m a:=λm=>by
   induction m with
   |zero=>intro d c;show(0:J)=c*0;grind
   |succ m i=>intro d c;rw[fi,fi,i];grind
  have j:es (sc n) (n+2) a=es (sc n) (n+1) a:=by rw[fi,sQ n (n+1) W,xbd,xcd]
  have o:es (sc n) (n+2) a=sc n 0+a*es (λk=>sc n<|k+1) (n+1) a:=O;rw[h1,e,h,zes a n];grind
def zaU{a:K}:∀n,a<n->prn a n=0
 |0,h=>by lia
 |n+1,h=>by
  show prn a n*((a:J)-n)=0;by_cases e:a=n
  ·rw[e,xek,xaA]
  ·rw[zaU n W,xbd]
theorem zlP(hp:2<=P)(hn:ke P)(k:K):sc P k%P=(if k=P then(1:J)else if k=1 then-1 else 0)%P:=by
 by_cases h:k<P
 ·have e:=zbH hp hn P (λk=>sc P k+(if k=1 then 1 else 0)) (IR _) (λa i=>by
   rw[TQ];have e1:es (λk=>if k=1 then(1:J)else 0) P (a:J)=a:=by
    obtain⟨q,rfl⟩:∃q,P=q+2:=⟨P-2,W⟩;show(0:J)+a*((1:J)+a*es (λk=>if k+1+1=1 then(1:J)else 0) q a)=a;have:∀m,es (λk=>if k+1+1=1 then(1:J)else 0) m (a:J)=0:=λm=>by
     induction m with
     |zero=>rfl
     |succ m j=>rw[fi,j,zB];grind
    rw[this];grind
   have n:=zes (a:J) P;rw[zaU P i,fi,SA]at n;have o:=Ck hp hn (a:J);rw[e1];have r:es (sc P) P (a:J)+a=a-a^P:=by grind
   rw[r];exact xaH<|xaO.1 o.symm) k h
  rw[zB];have hc:=xaz e;by_cases h1:k=1
  ·rw[iq h1]at hc⊢;refine xaO.2 ?_;rw[(W:sc P k- -1=sc P k+1)];exact hc
  ·rw[ir h1]at hc⊢;rw[xcd]at hc;rw[hc,xau]
 ·by_cases c:k=P
  ·rw[iq c,c,SA]
  ·rw[ir c,zB,sQ P k W]
def zhE:∀n,(smP n λ_=>F 0)=F 0
 |0=>rfl
 |n+1=>by show(smP n λ_=>F 0)+F 0=F 0;rw[zhE n,Wj]
def zjH(hp:2<=P)(hn:ke P)(v:Pz):Cg (P:J) (prv v P) (pp v P-v):=by
 rw[zbZ]
 have h1:Cg (P:J) (smP (P+1) λk=>F (sc P k)*pp v k) (smP (P+1) λk=>F (if k=P then(1:J)else if k=1 then-1 else 0)*pp v k):=
  R2 _ λk _=>Cg.mul (λj=>by unfold F;split;exact zlP hp hn k;rfl) Cg.rfl
 refine h1.trans<|Cg.of ?_;obtain⟨q,rfl⟩:∃q,P=q+2:=⟨P-2,W⟩;show smP (q+2) _+F (if q+2=q+2 then(1:J)else _)*pp v (q+2)=_;rw[iq O,zC,YF _<|q+1,YF _ q,zB,zB,zB,iq O];have c:(smP q λk=>F (if k+1+1=q+2 then(1:J)else if k+1+1=1 then-1 else 0)*pp v (k+1+1))=F 0:=by
  rw[XT (G:=λ_=>F 0) q λi hi=>by rw[zB,zB,yu]];exact zhE q
 rw[c];have e:F (-1)*pp v (0+1)= -v:=by
  rw[za3,zC];show-(F 1*v)= -v;rw[zC]
 rw[e,yu];funext k;simp only[zU,yX,zbw,zQ];lia
def Di(p:J)(u v:Pz):Prop:=∃q:Pz,Fs q/\Cg p v (q*u)
def Di.refl(p:J)(u:Pz):Di p u u:=⟨F 1,Fs.pc 1,Cg.of (zC u).symm⟩
def Di.trans{p:J}{u v w:Pz}(h:Di p u v)(g:Di p v w):Di p u w:=by
 have⟨q,f1,h1⟩:=h;have⟨r,f2,c⟩:=g;exact⟨r*q,f2.mul f1,c.trans<|((Cg.rfl (f:=r)).mul h1).trans<|Cg.of (zd r q u).symm⟩
def Di.add{p:J}{u v w:Pz}(h:Di p u v)(g:Di p u w):Di p u (v+w):=by
 have⟨q,f1,h1⟩:=h;have⟨r,f2,c⟩:=g;exact⟨q+r,f1.add f2,(h1.add c).trans<|Cg.of (yR q r u).symm⟩
def Di.sub{p:J}{u v w:Pz}(h:Di p u v)(g:Di p u w):Di p u (v-w):=by
 have⟨q,f1,h1⟩:=h;have⟨r,f2,c⟩:=g;exact⟨q-r,f1.subt f2,(h1.sub c).trans<|Cg.of (jU q r u).symm⟩
def Di.mul{p:J}{u v:Pz}(w:Pz)(c:Fs w)(h:Di p u v):Di p u (w*v):=by
 have⟨q,f1,h1⟩:=h;exact⟨w*q,c.mul f1,((Cg.rfl (f:=w)).mul h1).trans<|Cg.of (zd w q u).symm⟩
def Di.cg{u:Pz}(h:Di p u v)(g:Cg p v w):Di p u w:=by
 have⟨q,f1,h1⟩:=h;exact⟨q,f1,g.symm.trans h1⟩
def Di.zero(p:J)(u:Pz):Di p u (F 0):=⟨F 0,Fs.pc 0,Cg.of (yu u).symm⟩
def Di.euclid{u:Pz}(c:Fs w)(h:jZ p u v)(g:Di p u (v*w)):Di p u w:=by
 have⟨s,t,fs,e,h1⟩:=h;have i:Cg p (w*s*u+t*(v*w)) w:=by
  refine Cg.trans (Cg.of ?_)<|(h1.mul<|Cg.rfl (f:=w)).trans<|Cg.of<|zC w;rw[yR,zd t,zk (s*u) w,zd w]
 refine Di.cg (Di.add ?_<|g.mul t e) i;exact⟨w*s,c.mul fs,Cg.rfl⟩
def Di.both{u:Pz}(j:Fs w)(h:jZ p u v)(g1:Di p u w)(c:Di p v w):Di p (u*v) w:=by
 have⟨q,fq,h1⟩:=c;have e:Di p u q:=Di.euclid fq h<|g1.cg<|h1.trans<|Cg.of<|zk q v;have⟨r,fr,i⟩:=e;refine⟨r,fr,h1.trans<|(i.mul<|Cg.rfl (f:=v)).trans<|Cg.of<|zd r u v⟩
def Di.prz{p:J}{w:Pz}(e:Fs w):∀{us:N Pz},(∀u∈us,Fs u)->us.Pairwise (jZ p)->(∀u∈us,Di p u w)->Di p (prZ us) w
 |[],_,_,_=>⟨w,e,Cg.of (yf w).symm⟩
 |u::us,i,hp,h=>by
  have⟨h1,j⟩:=xdl.1 hp;refine Di.both e ?_ (h u<|H1)<|Di.prz e (λg c=>i g<|UV _ c) j λg c=>h g<|UV _ c;exact(jZ.prZ (i u<|H1) (λg c=>i g<|UV _ c) λg c=>(h1 g c).symm).symm
structure Qx(p:J)(u:N J):Prop where
 mn:vB p u
 l1:1<u.length
 ir:∀d,vB p d->Di p (C d) (C u)->d.length=1\/d=u
def Iu{a b:N J}(hp:2<=p)(c:vB p a)(i:vB p b)(h:Di p (C a) (C b))(hl:X b<=X a):a=b:=by
 have⟨q,fq,h1⟩:=h;have⟨n,hn⟩:=fq;have hd:=c.ln;have x:=i.ln;have z:=gm hp i c ⟨n,hn⟩ h1;have e:X a=X b:=W
 have j:Cg p ((q-F 1)*C a) (C b-C a):=by
  rw[jU,zC];exact h1.symm.sub Cg.rfl
 have o:=c.mn.zero hp (Fs.subt ⟨n,hn⟩<|Fs.pc 1) λk A=>by
  rw[j k,yX];by_cases hc:k=X a-1
  ·have r:=c.top;have s:=i.top;rw[hc,r,e,s,xek,xau]
  ·rw[yp W,yp W];exact xau _
 refine c.fm.ext i.fm ?_;have t:=j.symm.trans<|o.mul_zero_r<|C a;exact(Cg.iff_sub.2 t).symm
theorem Qx.or(hp:qk p=wL){l:N J}(c:Qx p u)(i:X u<=290)(hl:Fp p l)(hc:X l<=290):Di p (ci u) (ci l)\/jZ p (ci u) (ci l):=by
 have⟨j,q⟩:=zw hp;have⟨d,s,t,_,e,hd⟩:=uB (fu:=3000000) hp c.mn.fm hl i hc<|IR _;have h:=zie j c.mn e hd;have⟨A,C,k,n,h1,o⟩:=e.dv;rcases c.ir d h ⟨A,k,h1⟩with h3|h3
 ·exact .inr<|H5 e h3 h.top
 ·left;rw[<-h3];exact⟨C,n,o⟩
def Qx.ne(hp:2<=p)(e:Qx p u):¬Di p (C u) (F 1):=λ⟨q,fq,h⟩=>by
 have hl:=e.l1;have h1:=e.mn.mn.zero hp fq λk i=>by rw[<-h k,show F 1 k=0 from zB,xau]
 have c:=(h.trans<|h1.mul_zero_r _) 0;rw[zQ,xau]at c;unfold F at c;rw[iq O,xaJ i0 W]at c;cases c
theorem Qx.cop(hp:qk p=wL){w:N J}(c:Qx p u)(e:Qx p w)(i:X u<=290)(hc:X w<=290)(h:u≠w):jZ p (C u) (C w):=by grind [Qx.or,vB.fm,Qx.mn,Qx.ir,Qx.l1]
def quo(hp:qk p=wL)(e:vB p m)(hd:vB p d)(k:X m<=90000)(h:Di p (C d) (C m)):∃q,vB p q/\Cg p (C m) (C q*C d)/\X m+1=X q+X d:=by
 have⟨i,x⟩:=zw hp;have⟨A,j,h1⟩:=h;have hc:=gm i e hd j h1;have⟨q,r,_,n,o,s,t,z⟩:=xJ (fu:=3000000) hp e.fm hd.fm hd.ln k W<|IR _;have⟨a,b,c⟩:=GI i e hd j h1 n o s t;exact⟨q,a,b,c⟩
def zom(hp:qk p=wL):∀(n:K) {m:N J},X m=n->n<=290->vB p m->∃us:N (N J),(∀u∈us,Qx p u/\X u<=n)/\Cg p (C m) (prZ<|us.map C):=by
 intro n
 induction n using xdG with
 |ind n j=>
  intro m H hn c;have⟨s,L⟩:=zw hp;have M:=c.ln;by_cases h1:X m=1
  ·refine⟨[],(λu e=>by cases e),?_⟩;have:=c.one h1;rw[this];refine Cg.of<|funext λk=> ?_;show C [1] k=F 1 k
   cases k with
   |zero=>rfl
   |succ k=>rw[yp i7];exact(zB).symm
  by_cases hi:Qx p m
  ·refine⟨[m],λu e=> ?_,?_⟩
   ·rw[xag.1 e];exact⟨hi,W⟩
   ·exact Cg.of (yf<|C m).symm
  ·have⟨d,i,hc,ht,t⟩:∃d,vB p d/\Di p (C d) (C m)/\X d≠1/\d≠m:=by
    apply xai;intro x;refine hi ⟨c,W,λd z A=> ?_⟩;by_cases o:X d=1
    ·exact .inl o
    ·right;apply xai;intro B;exact x ⟨d,z,A,o,B⟩
   have⟨q,D,E,hv⟩:=quo hp c i W hc;have Q:=i.ln;have R:X d<X m:=by
    apply xdr;intro h;exact t<|Iu s i c hc h
   have⟨us,hd,hl⟩:=j (X d) W O W i;have⟨vs,r,G⟩:=j (X q) W O W D;refine⟨vs++us,λu e=> ?_,?_⟩
   ·obtain h|h:=So.1 e
    ·exact⟨(r u h).1,by have:=(r u h).2;lia⟩
    ·exact⟨(hd u h).1,by have:=(hd u h).2;lia⟩
   ·rw[xaY,vi];exact E.trans<|G.mul hl
def br{p:J}{u:Pz}:∀{us:N Pz},(∀w∈us,Fs w)->u∈us->Di p u (prZ us)
 |[],_,h=>by cases h
 |w::us,c,h=>by
  have i:=Fs.prZ λg e=>c g<|UV _ e;obtain rfl|h:=xaf.1 h
  ·exact⟨prZ us,i,Cg.of<|zk _ _⟩
  ·exact(br (λg e=>c g<|UV _ e) h).mul w<|c w<|H1
def Qx.mem{p:J}(hp:qk p=wL){u:N J}(c:Qx p u)(k:X u<=290):∀{us:N (N J)},(∀w∈us,Qx p w/\X w<=290)->Di p (C u) (prZ<|us.map C)->u∈us
 |[],_,h=>wS h<|c.ne (zw hp).1
 |w::us,i,h=>by
  by_cases e:u=w
  ·rw[e];exact H1
  ·have h1:=c.cop hp (i w<|H1).1 k (i w<|H1).2 e;refine UV _<|Qx.mem hp c k (λg j=>i g<|UV _ j)<|Di.euclid (Fs.prZ λg j=> ?_) h1 h;obtain⟨l,_,rfl⟩:=xas.1 j;exact Fs.ci l
def Fs.to{n:K}(h:∀k,n<=k->f k=0):Fs f:=⟨n,h⟩
def Fs.vx:Fs vx:=⟨2,λk c=>zB⟩
def lst(hp:0<p){n:K}(h:∀k,n<=k->f k=0):∃l:N J,Fp p l/\X l<=n/\Cg p (C l) f:=by
 refine⟨pm p<|zl n f,CZ hp _,xap (zbg _ _) (by rw[zZ];exact IR _),?_⟩;exact(Pf p _).trans<|Cg.of<|funext λk=>Xg h k
def Qx.or'(hp:qk p=wL)(e:Qx p u)(i:X u<=290){n:K}(h:∀k,n<=k->f k=0)(hn:n<=290):Di p (C u) f\/jZ p (C u) f:=by
 have⟨j,o⟩:=zw hp;have⟨l,h1,q,c⟩:=lst (p:=p) W h;obtain h4|h4:=e.or hp i h1 W
 ·exact .inl<|h4.cg c
 ·exact .inr<|h4.congr Cg.rfl c
def Qx.const(hp:2<=p)(e:Qx p u){c:J}(h:Di p (C u) (F c)):p∣c:=by
 have⟨q,fq,h⟩:=h;have hl:=e.l1;have h1:=e.mn.mn.zero hp fq λk j=>by rw[<-h k,show F c k=0 from zB,xau]
 have i:=(h.trans<|h1.mul_zero_r _) 0;rw[zQ,xau]at i;exact xaH i
def Di.const{c:J}{u:Pz}(h:p∣c):Di p u (F c):=(Di.zero p u).cg λk=>by
 rw[zQ];unfold F;split
 ·rw[xau,xaz h]
 ·rfl
def Vl(p:J)(u:N J)(v:Pz)(c:J):Prop:=Di p (C u)<|v-F c
theorem SY(a b:J):F (a-b)=F a-F b:=by grind [F,yX]
def Vl.uniq(hp:2<=p)(c:Qx p u){b:J}(h:Vl p u v a)(g:Vl p u v b):p∣a-b:=by
 refine c.const hp<|(Di.sub g h).cg<|Cg.of ?_;rw[SY];funext k;simp only[yX];lia
def Vl.add{p:J}{u:N J}{v w:Pz}{a b:J}(h:Vl p u v a)(g:Vl p u w b):Vl p u (v+w) (a+b):=by
 refine(Di.add h g).cg<|Cg.of ?_;rw[Tz];funext k;simp only[zU,yX];lia
def Vl.sub{p:J}{u:N J}{v w:Pz}{a b:J}(h:Vl p u v a)(g:Vl p u w b):Vl p u (v-w) (a-b):=by
 refine(Di.sub h g).cg<|Cg.of ?_;rw[SY];funext k;simp only[yX];lia
def Vl.mul{p:J}{u:N J}{v w:Pz}{a b:J}(c:Fs v)(h:Vl p u v a)(g:Vl p u w b):Vl p u (v*w) (a*b):=by
 refine(Di.add (Di.mul v c g)<|Di.mul (F b) (Fs.pc b) h).cg<|Cg.of ?_;rw[qp,qp,zk v<|F b,kf,xbE b a];funext k;simp only[zU,yX];lia
def Vl.pc(p:J)(u:N J)(c:J):Vl p u (F c) c:=(Di.zero p<|C u).cg<|Cg.of<|funext λk=>by rw[yX,zQ,xek]
def Vl.pp{p:J}{u:N J}{v:Pz}{a:J}(c:Fs v)(h:Vl p u v a):∀n,Vl p u (pp v n) (a^n)
 |0=>by rw[xcj];exact Vl.pc p u 1
 |n+1=>by rw[xbU];exact Vl.mul (c.pp n) (Vl.pp c h n) h
def Vl.cg{p:J}{u:N J}{v w:Pz}{a:J}(h:Vl p u v a)(g:Cg p v w):Vl p u w a:=Di.cg h<|g.sub Cg.rfl
def Vl.md{b:J}(h:Vl p u v a)(g:p∣a-b):Vl p u v b:=by
 refine(Di.add h<|Di.const (u:=C u) g).cg<|Cg.of ?_;rw[SY];funext k;simp only[zU,yX];lia
def Vl.di(hp:2<=p)(c:Qx p u)(h:Vl p u v a):Di p (C u) v↔p∣a:=by
 constructor
 ·intro g;have h0:Vl p u v 0:=g.cg (Cg.of<|funext λk=>by rw[yX,zQ,xdi]);have:=h.uniq hp c h0;rwa[xdi]at this
 ·intro g;have h0:Vl p u v 0:=h.md (by rwa[xdi]);exact Di.cg h0<|Cg.of<|funext λk=>by rw[yX,zQ,xdi]
def zdD{p:J}(hp:qk p=wL){u:N J}(e:Qx p u)(o:X u<=290){v:Pz}{n:K}(hv:∀k,n<=k->v k=0)(hd:1<=n)(hn:n<=290):∀j,Di p (C u) (prv v j)->∃c:K,c<j/\Vl p u v c
 |0,h=>wS h<|e.ne (zw hp).1
 |j+1,h=>by
  have q:∀k,n<=k->(v-F (j:J)) k=0:=λk r=>by rw[yX,hv k r,show F (j:J) k=0 from zB];rfl
  obtain h1|h1:=e.or' hp o q hn
  ·exact⟨j,W,h1⟩
  ·have s:∀i,Fs (prv v i):=λi=>by
    induction i with
    |zero=>exact Fs.pc 1
    |succ i t=>exact t.mul<|(Fs.to hv).subt<|Fs.pc _
   have x:Di p (C u) (prv v j):=Di.euclid (s j) h1<|h.cg<|Cg.of<|zk _ _;have⟨c,hc,z⟩:=zdD hp e o hv hd hn j x;exact⟨c,W,z⟩
def zjW(hp:qk (P:J)=wL)(h:Qx (P:J) u)(hc:X u<=290)(hd:Di (P:J) (C u) (C m)){n:K}(hv:∀k,n<=k->v k=0)(i:1<=n)(hn:n<=290)(j:Di (P:J) (C m) (pp v P-v)):∃c:K,c<P/\Vl (P:J) u v c:=by
 have⟨o,q⟩:=zw hp;have e:=X4 hp;rw[xbe]at e;exact zdD hp h hc hv i hn P<|(hd.trans j).cg (zjH W e v).symm
def zpb{p:J}{m:N J}(c:vB p m):∀(n:K) (f:Pz),(∀k,n<=k->f k=0)->∃q r:Pz,Fs q/\(∀k,X m-1<=k->r k=0)/\f=q*C m+r
 |0,f,h=>⟨F 0,F 0,Fs.pc 0,λk _=>zQ k,jp λk=>by rw[zU,yu,zQ,h k W];rfl⟩
 |n+1,f,h=>by
  have hl:=c.ln;by_cases hn:n+1<=X m-1
  ·exact⟨F 0,f,Fs.pc 0,λk i=>h k W,jp λk=>by rw[zU,yu,zQ,xcS]⟩
  ·have⟨d,hd⟩:∃d,d=X m-1:=⟨_,O⟩;have⟨q,r,fq,j,o⟩:=zpb c n (f-mono (n-d) (f n)*C m) λk i=>by
    rw[yX,VL];unfold sh;rw[zX];by_cases e:k=n
    ·have ht:=c.top;rw[e,(W:n-(n-d)=X m-1),ht];lia
    ·rw[h k W,yp W];lia
   refine⟨q+mono (n-d) (f n),r,fq.add ⟨n+1,λk i=>zB⟩,j,?_⟩;rw[yR];funext k;have:=Wn o k;simp only[zU,yX]at this⊢;lia
def zpe(hp:qk (P:J)=wL)(R:vB (P:J) m)(G:∀u∈us,Qx (P:J) u/\X u<=290)(JN:us.Pairwise (λa b=>jZ (P:J) (C a)<|C b))(hc:Cg (P:J) (C m) (prZ<|us.map C))(hd:u∈us):
 ∃e:Pz,(∀k,X m-1<=k->e k=0)/\Vl (P:J) u e 1/\(∀w,w∈us->w≠u->Vl (P:J) w e 0)/\Di (P:J) (C m) (pp e P-e):=by
 have⟨H,p2⟩:=zw hp;have S:=X4 hp;rw[xbe]at S;have⟨a,b,K⟩:=xem hd;have o:∀{l:N (N J)},∀g∈l.map C,Fs g:=λg x=>by obtain⟨l,_,rfl⟩:=xas.1 x;exact Fs.ci l
 have⟨i,D⟩:∃i,i=prZ ((a++b).map C):=⟨_,O⟩;have T:Fs i:=by rw[D];exact Fs.prZ o
 have hi:jZ (P:J) (C u) i:=by
  rw[D];refine(jZ.prZ (Fs.ci u) o λg x=> ?_).symm;obtain⟨l,hl,rfl⟩:=xas.1 x;rw[K,xdp,xdl]at JN;obtain h|h:=So.1 hl
  ·exact JN.2.2 l h u<|H1
  ·exact(JN.2.1.1 l h).symm
 have⟨s,t,fs,L,h1⟩:=hi;have⟨n,hn⟩:=L.mul T;have⟨q,e,fq,M,U⟩:=zpb R n (t*i) hn;have V:∀w∈us,Di (P:J) (C w) (C m):=λw j=>Di.cg (br o<|xbJ j) hc.symm;have Q:∀w∈us,∀{c:J},Vl (P:J) w (t*i) c->Vl (P:J) w e c:=λw j c h=>by
  have z:=Di.sub h<|Di.mul q fq<|V w j;refine z.cg<|Cg.of ?_;rw[U];funext k;simp only[zU,yX];lia
 have v1:Vl (P:J) u e 1:=Q u hd (by
  have z:Di (P:J) (C u) (F 0-s*C u):=(Di.zero _ _).sub ⟨s,fs,Cg.rfl⟩;refine z.cg<|Cg.trans (Cg.of ?_)<|(Cg.rfl (f:=t*i)).sub h1;funext k;simp only[zU,yX,zQ];lia)
 have v0:∀w,w∈us->w≠u->Vl (P:J) w e 0:=λw j ht=>Q w j (by
  have Y:w∈a++b:=by
   rw[K]at j;obtain h|h:=So.1 j
   ·exact xdU _ h
   ·obtain h|h:=xaf.1 h
    ·exact wS h ht
    ·exact xen _ h
  have z:Di (P:J) (C w) i:=by rw[D];exact br o<|xbJ Y
  exact(z.mul t L).cg<|Cg.of<|funext λk=>by rw[yX,zQ,xdi])
 refine⟨e,M,v1,v0,?_⟩;have B:=Fs.to M;have hk:Di (P:J) (prZ<|us.map C) (pp e P-e):=by
  refine Di.prz ((B.pp P).subt B) o ?_ λg x=> ?_
  ·exact xew.2 JN
  ·obtain⟨w,j,rfl⟩:=xas.1 x;by_cases E:w=u
   ·subst E;have A:=Vl.sub (Vl.pp B v1 P) v1;rw[Int.one_pow,xek]at A;exact(A.di H (G w j).1).2<|xdM _
   ·have A:=Vl.sub (Vl.pp B (v0 w j E) P)<|v0 w j E;rw[Int.zero_pow W,xek]at A;exact(A.di H (G w j).1).2<|xdM _
 have⟨r,fr,h5⟩:=hk;exact⟨r,fr,h5.trans<|Cg.rfl.mul hc.symm⟩
def oT{p:J}{u:N J}{a c:K->J}{b:K->Pz}:∀n,(∀i,i<n->Vl p u (b i) (c i))->Vl p u (smP n λi=>F (a i)*b i) (yh n λi=>a i*c i)
 |0,_=>Vl.pc p u 0
 |n+1,h=>Vl.add (oT n λi hi=>h i W)<|Vl.mul (Fs.pc _) (Vl.pc p u<|a n)<|h n W
def sep(hp:qk (P:J)=wL)(s:vB (P:J) m)(j:∀u∈us,Qx (P:J) u/\X u<=290)(JN:us.Pairwise (λa b=>jZ (P:J) (C a)<|C b))(hc:Cg (P:J) (C m) (prZ<|us.map C)){n:K}(t:∀e:Pz,(∀k,X m-1<=k->e k=0)->Di (P:J) (C m) (pp e P-e)->∃a:K->J,Cg (P:J) e<|smP n λi=>F (a i)*b i){w:N J}(hd:u∈us)(o:w∈us){c:K->J}(h1:∀i,i<n->Vl (P:J) u (b i) (c i))(x:∀i,i<n->Vl (P:J) w (b i) (c i)):u=w:=by
 have⟨q,L⟩:=zw hp;apply xai;intro z;have⟨e,e1,A,B,D⟩:=zpe hp s j JN hc hd;have⟨a,r⟩:=t e e1 D;have f1:=(oT (a:=a) n h1).cg r.symm;have f2:=(oT (a:=a) n x).cg r.symm;have g1:=A.uniq q (j u hd).1 f1;have E:=(B w o λh=>z h.symm).uniq q (j w o).1 f2;have G:=xdB g1 E;have⟨k,M⟩:=G;have H:(P:J)*k=1:=W
 have h6:k=1\/k<=0\/2<=k:=W
 obtain h6|h6|h6:=h6
 ·rw[h6]at H;lia
 ·have:=xaZ h6 (W:(0:J)<=P);lia
 ·have:=xaZ h6 (W:(0:J)<=P);lia
theorem zbR{P:J}{a b:J}(h:P∣a-b):∀n:K,P∣a^n-b^n
 |0=>by rw[xcj,xcj,xek];exact xdM _
 |n+1=>by
  have⟨x,c⟩:=h;have⟨y,e⟩:=zbR ⟨x,c⟩ n;refine⟨y*a+b^n*x,?_⟩;rw[xbU,xbU];grind
def rM(P:K)(y:J):Prop:=if 2<P then(P:J)∣y^((P-1)/2)-1 else(P:J)∣y
def rM.md{z:J}(h:(P:J)∣y-z)(g:rM P y):rM P z:=by
 unfold rM at g⊢;split
 ·rw[am ‹_›]at g;have:=zbR h<|(P-1)/2;have e:=xdB g this;have c:y^((P-1)/2)-1-(y^((P-1)/2)-z^((P-1)/2))=z^((P-1)/2)-1:=W
  rwa[c]at e
 ·rw[if_neg ‹_›]at g;have e:=xdB g h;have c:y-(y-z)=z:=W
  rwa[c]at e
def rM.iff{z:J}(h:(P:J)∣y-z):rM P y↔rM P z:=by
 refine⟨rM.md h,rM.md ?_⟩;have⟨k,c⟩:=h;exact⟨-k,by rw[Int.mul_neg];lia⟩
def TC(hp:qk (P:J)=wL){d:J}(hd:¬(P:J)∣d):∃k:K,(P:J)∣(k:J)*d-1:=by
 have⟨n,o⟩:=zw hp;have h0:=xcR d (W:(P:J)≠0);have h1:=xdQ d (W:(0:J)<P);have q:d%P≠0:=λe=>hd<|xaH e;have c:=Sk hp (W:0<d%P) h1;have⟨x,h⟩:∃x,x=(d%P)^((P:J)-2).toNat:=⟨_,O⟩;rw[<-h]at c;have i:0<=x:=by rw[h];exact xfG h0
 refine⟨x.toNat,?_⟩;rw[xdf i];have j:(x*d)%P=1%P:=by rw[xci,<-xcF d<|xej _,<-xci,c,xaJ i0 W]
 exact xaH<|xaO.1 j
def zjo(hp:qk (P:J)=wL)(A:P=2\/P%2=1){b:J}(h:∀c:K,c<P->(rM P (a+c)↔rM P (b+c))):(P:J)∣a-b:=by
 have⟨B,C⟩:=zw hp;apply xai;intro hd;have hc:∀y:J,rM P (a+y)↔rM P (b+y):=λy=>by
  have e1:=xcR y (W:(P:J)≠0);have D:=xdQ y (W:(0:J)<P);have j:=h (y%P).toNat W;rw[xdf e1]at j;have E:(P:J)∣y-y%P:=⟨y/P,by have:=Int.emod_add_mul_ediv y P;lia⟩;have o:(P:J)∣a+y-(a+y%P):=by rwa[(W:a+y-(a+y%P)=y-y%P)]
  have r:(P:J)∣b+y-(b+y%P):=by rwa[(W:b+y-(b+y%P)=y-y%P)]
  exact(rM.iff o).trans<|j.trans (rM.iff r).symm
 have s:∀y:J,rM P y↔rM P (y+(a-b)):=λy=>by
  have:=hc<|y-b;rw[(W:b+(y-b)=y),(W:a+(y-b)=y+(a-b))]at this;exact this.symm
 have t:∀k:K,rM P 0↔rM P ((k:J)*(a-b)):=λk=>by
  induction k with
  |zero=>rw[show((0:K):J)=0 from O,xbd]
  |succ k x=>
   refine x.trans<|(s _).trans ?_;rw[xeO,Int.add_mul,show((1:K):J)=1 from O,xdg]
 have⟨k,h1⟩:=TC hp hd;have e:=(t k).trans<|rM.iff h1;have n:¬(P:J)∣1:=λ⟨q,z⟩=>by
  have h6:q<=0\/1<=q:=W
  obtain h6|h6:=h6
  ·have:=xaZ h6 (W:(0:J)<=P);lia
  ·have:=xaZ h6 (W:(0:J)<=P);lia
 unfold rM at e;by_cases i:2<P
 ·rw[iq i,iq i,Int.one_pow,xek,Int.zero_pow W]at e;have:=e.2<|xdM _;refine n ?_;have⟨q,z⟩:=this;exact⟨-q,by rw[Int.mul_neg];lia⟩
 ·rw[ir i,ir i]at e;exact n<|e.1<|xdM _
theorem zeG(A B D:K->J)(x z:J):∀n,yh n (λi=>A i*(B i-x*D i*z))=yh n (λi=>A i*B i)-x*z*yh n (λi=>A i*D i)
 |0=>by show(0:J)=0-x*z*0;lia
 |n+1=>by
  show yh n _+A n*(B n-x*D n*z)=yh n _+A n*B n-x*z*(yh n _+A n*D n);rw[zeG A B D x z n];grind
theorem DT{P:K}(hp:qk (P:J)=wL):∀(n:K) (c:N K) (A C:K->K->J),c.Nodup->(∀j∈c,∀k∈c,(P:J)∣yh n (λi=>A j i*C i k)-(if j=k then 1 else 0))->X c<=n
 |0,[],_,_,_,_=>IR _
 |0,j::c,A,C,_,h=>by
  exfalso;have⟨Y,p2⟩:=zw hp;have:=h j (H1) j<|H1;rw[iq O]at this;have⟨q,H⟩:=this;have hi:(0:J)-1=P*q:=H;have h6:q<= -1\/0<=q:=W
  obtain h6|h6:=h6
  ·have:=xaZ h6 (W:(0:J)<=P);lia
  ·have:=xcC (W:(0:J)<=P) h6;lia
 |n+1,c,A,C,t,h=>by
  by_cases D:∀j∈c,(P:J)∣C n j
  ·refine Nat.le_succ_of_le<|DT hp n c A C t λj r k z=> ?_;have h1:=h j r k z;have B:(P:J)∣A j n*C n k:=xbw (D k z)<|xcU _ _;have L:=xdB h1 B;have e:yh (n+1) (λi=>A j i*C i k)-(if j=k then 1 else 0)-A j n*C n k=yh n (λi=>A j i*C i k)-(if j=k then 1 else 0):=by
    show yh n _+A j n*C n k-_-A j n*C n k=_;lia
   rwa[e]at L
  ·have⟨o,hd,hc⟩:∃o,o∈c/\¬(P:J)∣C n o:=by
    apply xai;intro M;refine D λj r=> ?_;apply xai;intro h1;exact M ⟨j,r,h1⟩
   have⟨x,Q⟩:=TC hp hc;have R:=List.length_erase_of_mem hd;have S:=xfz hd;have:=DT hp n (c.erase o) A (λi k=>C i k-(x:J)*C i o*C n k) (t.erase o) λj r k z=>by
    have⟨n1,F⟩:=t.mem_erase_iff.1 r;have⟨n2,T⟩:=t.mem_erase_iff.1 z;have h1:=h j F k T;have B:=h j F o hd;rw[ir n1,xdi]at B;rw[zeG];have⟨k1,e1⟩:=h1;have⟨k2,G⟩:=B;have⟨U,e3⟩:=Q;have s:yh n (λi=>A j i*C i k)+A j n*C n k-(if j=k then 1 else 0)=P*k1:=e1;have E:yh n (λi=>A j i*C i o)+A j n*C n o=P*k2:=G;have V:(if j=k then(1:J)else 0)=if j=k then 1 else 0:=O;generalize(if j=k then(1:J)else 0)=dl at s⊢;generalize yh n (λi=>A j i*C i k)=s1 at s⊢;generalize yh n (λi=>A j i*C i o)=s0 at E⊢;refine⟨k1-((x:J)*C n k*k2-A j n*C n k*U),?_⟩;clear e1 G V D hc h R S;grind
   lia
structure Sf(p:J)(m:N J)(us:N (N J)):Prop where
 hp:qk p=wL
 mn:vB p m
 ml:m.length<=290
 ir:∀u∈us,Qx p u/\u.length<=290
 pw:us.Pairwise (λa b=>jZ p (C a)<|C b)
 cg:Cg p (C m) (prZ<|us.map C)
theorem U9:∀g∈l.map C,Fs g:=by grind [C,Fs.ci]
theorem Qx.self(hp:2<=p)(c:Qx p u):¬jZ p (C u) (C u):=λ⟨s,t,fs,e,h⟩=>by
 refine c.ne hp ⟨s+t,fs.add e,h.symm.trans<|Cg.of ?_⟩;rw[yR]
def Sf.dv(h:Sf p m us)(c:u∈us):Di p (C u) (C m):=(br U9<|xbJ c).cg h.cg.symm
def Sf.mem{p:J}{m:N J}{us:N (N J)}(h:Sf p m us){u:N J}(c:Qx p u)(e:X u<=290)(hd:Di p (C u) (C m)):u∈us:=c.mem h.hp e h.ir<|hd.cg h.cg
def Sf.sq(h:Sf p m us)(e:u∈us):¬Di p (C u*C u) (C m):=λhd=>by
 have⟨c,A⟩:=zw h.hp;obtain⟨a,b,rfl⟩:=xem e;have⟨hi,j⟩:=h.ir u e;have JN:=h.pw;rw[xdp,xdl]at JN;have⟨q,fq,h1⟩:=hd;have i:=h.cg;rw[xaY,xbS,vi]at i;have n:Cg p (prZ (a.map C)*(C u*prZ (b.map C))) (q*(C u*C u)):=i.symm.trans h1;have o:Fs (prZ<|(a++b).map C):=Fs.prZ U9;have r:Cg p ((prZ ((a++b).map C)-q*C u)*C u) (F 0):=by
  rw[jU,xaY,vi];refine Cg.trans (Cg.sub (Cg.of ?_)<|Cg.of<|zd q (C u)<|C u)<|Cg.iff_sub.1 n;rw[zd,zk<|prZ<|b.map C]
 have s:=hi.mn.mn.zero c (o.subt<|fq.mul<|Fs.ci u) λk B=>by rw[r k,zQ,xau]
 have t:Di p (C u) (prZ<|(a++b).map C):=⟨q,fq,Cg.iff_sub.2 s⟩;have x:=hi.mem h.hp j (us:=a++b) (λw z=>by
  obtain h|h:=So.1 z
  ·exact(by assumption:Sf p m (a++u::b)).ir w<|xdU _ h
  ·exact(by assumption:Sf p m (a++u::b)).ir w<|xen _<|UV _ h) t
 obtain h8|h8:=So.1 x
 ·exact hi.self c<|JN.2.2 u h8 u<|H1
 ·exact hi.self c<|JN.2.1.1 u h8
def Sf.len(h:Sf p m us)(c:vB p g)(hd:Di p (C g) (C m)):X g<=290:=by
 have⟨q,fq,h1⟩:=hd;exact xap (gm (zw h.hp).1 h.mn c fq h1) h.ml
def Sf.some{p:J}{m:N J}{us:N (N J)}(h:Sf p m us){g:N J}(e:vB p g)(hd:Di p (C g) (C m))(hl:1<X g):∃u,u∈us/\Di p (C u) (C g):=by
 have j:=h.len e hd;have⟨vs,h1,i⟩:=zom h.hp (X g) O j e
 cases vs with
 |nil=>
  exfalso;have c:=i<|X g-1;have ht:=e.top;have hp:=(zw h.hp).1;rw[ht,show prZ (List.map C [])=F 1 from O,show F 1 (X g-1)=0 from zB,xau,xaJ i0 W]at c;cases c
 |cons v vs=>
  have c:Di p (C v) (C g):=(br U9<|xbJ<|H1).cg i.symm;have⟨k,n⟩:=h1 v<|H1;exact⟨v,h.mem k W<|c.trans hd,c⟩
def Sf.one{p:J}{m:N J}{us:N (N J)}(h:Sf p m us){g:N J}(c:vB p g)(hd:Di p (C g) (C m))(hl:1<X g)(o:∀u∈us,∀w∈us,Di p (C u) (C g)->Di p (C w) (C g)->u=w):Qx p g:=by
 have⟨s,A⟩:=zw h.hp;have B:=h.len c hd;have⟨u,i,h1⟩:=h.some c hd hl;have⟨hi,D⟩:=h.ir u i;have⟨q,j,hc,hn⟩:=quo h.hp c hi.mn W h1;by_cases t:1<X q
 ·exfalso;have k:Di p (C q) (C g):=⟨C u,Fs.ci u,hc.trans<|Cg.of<|zk _ _⟩;have⟨w,x,n⟩:=h.some j (k.trans hd) t;have e:=o w x u i (n.trans k) h1;subst e;have⟨r,fr,z⟩:=n;refine h.sq i<|Di.trans ⟨r,fr,hc.trans<|(z.mul Cg.rfl).trans<|Cg.of<|zd _ _ _⟩ hd
 ·have hp:=j.ln;have E:=j.one W;have:g=u:=by
   refine(Iu s hi.mn c h1 ?_).symm;lia
  rw[this];exact hi
def Sf.apart(h:Sf p m us){a b:Pz}(k:Fs a)(n:Fs b)(c:Di p (a*b) (C m))(e:u∈us)(h1:Di p (C u) a)(i:Di p (C u) b):QR:=by
 have⟨q,fq,e1⟩:=h1;have⟨r,fr,j⟩:=i;refine h.sq e<|Di.trans ⟨q*r,fq.mul fr,(e1.mul j).trans<|Cg.of ?_⟩ c;rw[zd,zd,zD (C u) r]
def zm9{t e i:N J}{S:K}(c:BzR p g t d e i S)(u:N J):Di p (ci u) (ci d)↔Di p (ci u) (ci g)/\Di p (ci u) (ci t):=by
 have⟨A,C,j,k,h1,n⟩:=c.dv;refine⟨λh=>⟨h.trans ⟨A,j,h1⟩,h.trans ⟨C,k,n⟩⟩,λ⟨a,b⟩=> ?_⟩;exact(Di.add (a.mul _<|Fs.ci _)<|b.mul _<|Fs.ci _).cg c.cg.symm
def cH{α:Type}[DecidableEq α]:∀{vs us:N α},vs.Nodup->(∀v∈vs,v∈us)->X vs<=X us
 |[],_,_,_=>xan _
 |v::vs,us,hn,h=>by
  have⟨h1,i⟩:=xfs.1 hn;have hv:=h v<|H1;have j:=cH (us:=us.erase v) i λw c=>by
   refine(List.mem_erase_of_ne λe=> ?_).2<|h w<|UV _ c;rw[e]at c;exact h1 c
  have k:=List.length_erase_of_mem hv;have n:=xfz hv;simp only[xax];lia
def Sf.nodup(h:Sf p m us):us.Nodup:=by
 have hp:=(zw h.hp).1;have:∀us:N (N J),(∀u∈us,Qx p u/\X u<=290)->us.Pairwise (λa b=>jZ p (C a)<|C b)->us.Nodup:=λus=>by
  induction us with
  |nil=>intro _ _;exact List.nodup_nil
  |cons u us c=>
   intro hi e;have⟨w1,i⟩:=xdl.1 e;refine xfs.2 ⟨λj=> ?_,c (λg k=>hi g<|UV _ k) i⟩;exact(hi u<|H1).1.self hp<|w1 u j
 exact this us h.ir h.pw
structure Pl(p:J)(m:N J)(l:N (N J)):Prop where
 mn:∀g∈l,vB p g/\1<g.length
 pr:Cg p (C m) (prZ<|l.map C)
def Pl.dv(h:Pl p m l)(c:g∈l):Di p (C g) (C m):=(br U9<|xbJ c).cg h.pr.symm
theorem zas(a b:N (N J))(g:N J):prZ ((a++g::b).map C)=C g*prZ ((a++b).map C):=by grind [prZ,C,vi,zD]
def Sf.pick{p:J}{m:N J}{us:N (N J)}(h:Sf p m us):∀{l:N (N J)},(∀g∈l,vB p g/\1<X g)->Di p (prZ<|l.map C) (C m)->∃vs:N (N J),X vs=X l/\vs.Nodup/\∀v∈vs,v∈us/\Di p (C v) (prZ<|l.map C)
 |[],_,_=>⟨[],O,List.nodup_nil,λv hv=>by cases hv⟩
 |g::l,c,hd=>by
  have fl:Fs (prZ<|l.map C):=Fs.prZ U9;have d1:Di p (C g) (prZ<|(g::l).map C):=⟨prZ<|l.map C,fl,Cg.of<|zk _ _⟩;have d2:Di p (prZ<|l.map C) (prZ<|(g::l).map C):=⟨C g,Fs.ci g,Cg.rfl⟩;have⟨j,k⟩:=c g<|H1;have⟨u,e,i⟩:=h.some j (d1.trans hd) k;have⟨vs,v1,n,v3⟩:=h.pick (λg o=>c g<|UV _ o)<|d2.trans hd;refine⟨u::vs,by simp[v1],xfs.2 ⟨λhc=> ?_,n⟩,λv hv=> ?_⟩
  ·exact h.apart (Fs.ci g) fl hd e i (v3 u hc).2
  ·obtain rfl|hv:=xaf.1 hv
   ·exact⟨e,i.trans d1⟩
   ·exact⟨(v3 v hv).1,(v3 v hv).2.trans d2⟩
def Sf.more(h:Sf p m us)(hl:Pl p m l){w:N J}(j:g∈l)(c:u∈us)(e:w∈us)(h1:Di p (C u) (C g))(k:Di p (C w) (C g))(n:u≠w):X l<X us:=by
 obtain⟨a,b,rfl⟩:=xem j;have i:=hl.pr;rw[zas]at i;have fl:Fs (prZ<|(a++b).map C):=Fs.prZ U9;have hd:Di p (C g*prZ ((a++b).map C)) (C m):=⟨F 1,Fs.pc 1,i.trans<|Cg.of (zC _).symm⟩;have⟨vs,v1,o,v3⟩:=h.pick (l:=a++b) (λx q=>by
  obtain h|h:=So.1 q
  ·exact hl.mn x<|xdU _ h
  ·exact hl.mn x<|xen _<|UV _ h) (Di.trans ⟨C g,Fs.ci g,Cg.rfl⟩ hd)
 have hn:(u::w::vs).Nodup:=by
  refine xfs.2 ⟨λhc=> ?_,xfs.2 ⟨λhc=> ?_,o⟩⟩
  ·obtain hc|hc:=xaf.1 hc
   ·exact n hc
   ·exact h.apart (Fs.ci g) fl hd c h1 (v3 u hc).2
  ·exact h.apart (Fs.ci g) fl hd e k (v3 w hc).2
 have:=cH (us:=us) hn λv hv=>by
  obtain rfl|hv:=xaf.1 hv
  ·exact c
  ·obtain rfl|hv:=xaf.1 hv
   ·exact e
   ·exact(v3 v hv).1
 simp only[xax,xaw]at this v1⊢;lia
def Pl.split{a b:N (N J)}{q:N J}(h:Pl p m (a++g::b))(hd:vB p d)(c:vB p q)(e:1<X d)(i:1<X q)(hc:Cg p (C g) (C q*C d)):Pl p m (a++d::(b++[q])):=by
 refine⟨λx hx=> ?_,?_⟩
 ·obtain hx|hx:=So.1 hx
  ·exact h.mn x<|xdU _ hx
  ·obtain rfl|hx:=xaf.1 hx
   ·exact⟨hd,e⟩
   ·obtain hx|hx:=So.1 hx
    ·exact h.mn x<|xen _<|UV _ hx
    ·rw[xag.1 hx];exact⟨c,i⟩
 ·have h1:=h.pr;rw[zas]at h1⊢;rw[<-xad,xaY,vi];refine h1.trans<|(hc.mul Cg.rfl).trans<|Cg.of ?_;show C q*C d*prZ ((a++b).map C)=C d*(prZ ((a++b).map C)*(C q*F 1));rw[yf,zk (prZ _)<|C q,zD<|C d,zd]
structure Bs(P:K)(m:N J)(b:K->Pz)(n:K):Prop where
 od:P=2\/P%2=1
 ml:1<m.length
 sp:∀e:Pz,(∀k,m.length-1<=k->e k=0)->Di (P:J) (C m) (pp e P-e)->∃a:K->J,Cg (P:J) e<|smP n λi=>F (a i)*b i
 sm:∀i,i<n->∀k,m.length-1<=k->b i k=0
 fx:∀i,i<n->Di (P:J) (C m) (pp (b i) P-b i)
def Bs.val(h:Sf (P:J) m us){n:K}(e:Bs P m b n)(j:u∈us){i:K}(hi:i<n):∃c:K,c<P/\Vl (P:J) u (b i) c:=by
 have hl:=h.ml;have k:=e.ml;exact zjW h.hp (h.ir u j).1 (h.ir u j).2 (h.dv j) (n:=X m-1) (e.sm i hi) W W<|e.fx i hi
def Bs.le(h:Sf (P:J) m us){n:K}(D:Bs P m b n):X us<=n:=by
 have⟨E,V⟩:=zw h.hp;have hl:=h.nodup;have hd:∀j,j<X us->us.getD j []∈us:=λj k=>by rw[FS,xab k];exact xbQ k
 have G:∀i j,∃c:J,i<n->j<X us->Vl (P:J) (us.getD j []) (b i) c:=λi j=>by
  by_cases hi:i<n
  ·by_cases k:j<X us
   ·have⟨c,_,hc⟩:=D.val h (hd j k) hi;exact⟨c,λ_ _=>hc⟩
   ·exact⟨0,λ_ h=>wS h k⟩
  ·exact⟨0,λh=>wS h hi⟩
 have H:∀j,∃a:K->J,j<X us->∃e:Pz,Cg (P:J) e (smP n λi=>F (a i)*b i)/\Vl (P:J) (us.getD j []) e 1/\∀w,w∈us->w≠us.getD j []->Vl (P:J) w e 0:=λj=>by
  by_cases k:j<X us
  ·have⟨e,e1,t,x,s⟩:=zpe h.hp h.mn h.ir h.pw h.cg<|hd j k;have⟨a,S⟩:=D.sp e e1 s;exact⟨a,λ_=>⟨e,S,t,x⟩⟩
  ·exact⟨λ_=>0,λh=>wS h k⟩
 have z:∃A:K->K->J,∀j,j<X us->∃e:Pz,Cg (P:J) e (smP n λi=>F (A j i)*b i)/\Vl (P:J) (us.getD j []) e 1/\∀w,w∈us->w≠us.getD j []->Vl (P:J) w e 0:=⟨λj=>Classical.choose<|H j,λj=>xfM<|H j⟩;have B:∃C:K->K->J,∀i j,i<n->j<X us->Vl (P:J) (us.getD j []) (b i) (C i j):=⟨λi j=>Classical.choose<|G i j,λi j=>xfM<|G i j⟩;have⟨A,z⟩:=z;have⟨C,B⟩:=B;have:=DT h.hp n (xaN (X us)) A C List.nodup_range λj k o T=>by
  have l1:=xbg.1 k;have r:=xbg.1 T;have⟨e,e1,t,x⟩:=z j l1;have s:=(oT (a:=A j) n λi hi=>B i o hi r).cg e1.symm;have L:=(h.ir _<|hd o r).1;by_cases q:j=o
  ·subst q;rw[iq O];exact s.uniq E L t
  ·rw[ir q];refine s.uniq E L<|x _ (hd o r) λU=>q ?_;have g1:=FS (l:=us) (i:=j) (a:=[]);have M:=FS (l:=us) (i:=o) (a:=[]);rw[xab l1]at g1;rw[xab r]at M;have Q:us[j]=us[o]:=by
    have:us.getD j []=us.getD o []:=U.symm;rw[g1,M]at this;exact this
   apply xai;intro Y;have R:=xcZ.1 hl;obtain hlt|hlt:=Nat.lt_or_gt_of_ne q
   ·exact R j o l1 r hlt Q
   ·exact R o j r l1 hlt Q.symm
 rwa[xev]at this
def Ct(P:K)(us:N (N J))(v:Pz)(c:J)(g:N J):Prop:=
 (∀u∈us,Di (P:J) (C u) (C g)->∀a,Vl (P:J) u v a->rM P (a+c))\/(∀u∈us,Di (P:J) (C u) (C g)->∀a,Vl (P:J) u v a->¬rM P (a+c))
def Ct.sub{c:J}(h:Ct P us v c g)(hd:Di (P:J) (C d) (C g)):Ct P us v c d:=by
 obtain h|h:=h
 ·exact .inl λu e i=>h u e<|i.trans hd
 ·exact .inr λu e i=>h u e<|i.trans hd
def Pl.done(h:Sf (P:J) m us){n:K}(e:Bs P m b n)(hl:Pl (P:J) m l)(h0:∃c:J,Cg (P:J) (b 0)<|F c)(B:X l=n\/∀i,1<=i->i<n->∀c:K,c<P->∀g∈l,Ct P us (b i) c g):∀g∈l,Qx (P:J) g:=λg o=>by
 have⟨H,L⟩:=zw h.hp;have⟨g1,D⟩:=hl.mn g o;refine h.one g1 (hl.dv o) D λu j w k h1 r=> ?_;apply xai;intro A;have hn:=e.le h;have M:=h.more hl o j k h1 r A;obtain he|he:=B
 ·lia
 ·refine A ?_;have hc:∀i,∃c:J,i<n->Vl (P:J) u (b i) c/\Vl (P:J) w (b i) c:=λi=>by
   by_cases hi:i<n
   ·by_cases E:i=0
    ·have⟨c,hc⟩:=h0;subst E;exact⟨c,λ_=>⟨(Vl.pc _ u c).cg hc.symm,(Vl.pc _ w c).cg hc.symm⟩⟩
    ·have⟨x,_,s⟩:=e.val h j hi;have⟨y,_,t⟩:=e.val h k hi;have hd:(P:J)∣(x:J)-y:=zjo h.hp e.od λc G=>by
      obtain ht|ht:=he i W hi c G g o
      ·exact⟨λ_=>ht w k r _ t,λ_=>ht u j h1 _ s⟩
      ·exact⟨λz=>wS z<|ht u j h1 _ s,λz=>wS z<|ht w k r _ t⟩
     exact⟨y,λ_=>⟨s.md hd,t⟩⟩
   ·exact⟨0,λh=>wS h hi⟩
  have q:∃C:K->J,∀i,i<n->Vl (P:J) u (b i) (C i)/\Vl (P:J) w (b i) (C i):=⟨λi=>Classical.choose<|hc i,λi=>xfM<|hc i⟩;have⟨C,q⟩:=q;exact sep h.hp h.mn h.ir h.pw h.cg e.sp j k (λi hi=>(q i hi).1) λi hi=>(q i hi).2
end
section
variable{p:wl}{a g d t v ds m:xS wl}{y:Pz}{E fu P k i nb:wr}{us l bs:xS (xS wl)}
def Em(p:J)(a:N J)(x y:Pz):Prop:=Di p (C a)<|x-y
def Em.rfl{x:Pz}:Em p a x x:=(Di.zero p<|C a).cg<|Cg.of<|funext λk=>by rw[yX,zQ,xek]
def Em.cg{p:J}{a:N J}{x y:Pz}(h:Cg p x y):Em p a x y:=(Di.zero p<|C a).cg (Cg.iff_sub.1 h).symm
def Em.symm{x:Pz}(h:Em p a x y):Em p a y x:=(Di.sub (Di.zero p<|C a) h).cg<|Cg.of<|funext λk=>by simp only[yX,zQ];lia
def Em.trans{x z:Pz}(h:Em p a x y)(g:Em p a y z):Em p a x z:=(Di.add h g).cg<|Cg.of<|funext λk=>by simp only[zU,yX];lia
def Em.mul{p:J}{a:N J}{x y z w:Pz}(fx:Fs x)(b:Fs w)(h:Em p a x y)(g:Em p a z w):Em p a (x*z) (y*w):=by
 refine(Di.add (Di.mul x fx g)<|Di.mul w b h).cg<|Cg.of ?_;rw[qp,qp,zk w x,zk w y];funext k;simp only[zU,yX];lia
def Em.dv{b:N J}{x:Pz}(h:Em p a x y)(g:Di p (C b) (C a)):Em p b x y:=g.trans h
def Em.vl{u:N J}{x:Pz}{c:J}(h:Em p u x y)(g:Vl p u y c):Vl p u x c:=by
 refine(Di.add h g).cg<|Cg.of ?_;funext k;simp only[zU,yX];lia
def Em.rest{x q r:N J}(h:Cg p (C x) (C q*C a+C r)):Em p a (C x) (C r):=by
 refine⟨C q,Fs.ci q,(h.sub Cg.rfl).trans<|Cg.of ?_⟩;funext k;simp only[zU,yX];lia
theorem zio(h0:0<E)(h:E<18446744073709551616):yz (E:J)=(I,[E]):=by grind [yz,GJ]
def zpH(n:K):n<2^bl n:=by
 induction n using xdG with
 |ind n b=>
  obtain rfl|h:=xcx n
  ·skip;decide
  ·have h1:=b (n/2) W;rw[cB h];lia
structure PwI(p:J)(a w:N J)(E i:K)(t:N J):Prop where
 fp:Fp p t
 ln:t.length<a.length
 em:Em p a (pp (C w)<|E/2^i) (C t)
def KF{w:N J}(hp:qk p=wL)(o:Fp p w)(e:vB p a)(hm:X w<=40000)(hn:X a<=40000)(h0:0<E)(hE:E<1048576)(c:3000000<=fu):
 ∃r,Ze fu w (yz E) a p=Z (r,0)/\Fp p r/\X r<X a/\Em p a (pp (C w) E) (C r):=by
 have⟨p1,h⟩:=zw hp;have hc:=e.ln;have u:=zio h0 (W:E<18446744073709551616);have z:zm [E]:=λx H=>by rw[xag.1 H];lia
 have M:A [E]=E:=by simp[A]
 have Q:gV (yz (E:J)):=by rw[u];exact⟨z,i7⟩
 have⟨q1,r1,d1,d2,d3,d4,d5,d6⟩:=xJ (fu:=fu) hp (VR (x:=1)) e.fm hc i7 W c;have⟨q2,r2,f1,f2,f3,f4,f5,f6⟩:=xJ (fu:=fu) hp o e.fm hc W W c;have R:bl E<=20:=UI (W:E<2^20);have hl:jH (E:J) 0=1:=by unfold jH;rw[zB,zX]
 unfold Ze;rw[U<|uK hp,iq O,U<|xe Q c,zn,hl,ir i0,U<|zL W h (e.fm.rl h) W c,e.fm.pm,zB,U d1];simp only;rw[U<|zL W h (o.rl h) W c,o.pm,U f1];simp only;rw[u];show∃r,Y (uU fu [E]) _=_/\_;rw[U (WM z i7<|by simp;lia),M,zb];have hd:=yc (f:=We fu (I,[E]) p a) (λs:N J×N J×J=>∃(i:K) (t:N J),s=(t,r2,(i:J)-1)/\i<=20/\PwI p a w E i t) (λs=>(s.2.2+1).toNat) (λr=>PwI p a w E 0 r) (by
  rintro s L ⟨i,t,rfl,hi,b⟩ B;unfold We;simp only
  cases i with
  |zero=>rw[zB];exact⟨t,O,b⟩
  |succ i=>
   have ho:=b.ln;have ml:=jw p t t;have⟨q3,j,g1,g2,D,T,V,g6⟩:=xJ (fu:=fu) hp (qY (p:=p) W t t) e.fm hc W W c;have n:Em p a (pp (C w)<|E/2^(i+1)+E/2^(i+1)) (C j):=by
    rw[Cl];refine(Em.mul ((Fs.ci w).pp _) (Fs.ci t) b.em b.em).trans<|(Em.cg (Zx p t t).symm).trans<|Em.rest T
   have ei:((i+1:K):J)-1=(i:J):=W
   have e1:xdE (i:J) 64=0:=by rw[xeV W];lia
   have e2:xcv (i:J) 64=(i:J):=by rw[Int.tmod_eq_emod_of_nonneg W];lia
   have e3:E/2^i/2=E/2^(i+1):=by rw[xaF,xba]
   rw[ei,zX,U<|vj W h b.fp b.fp W W c,U g1];simp only;rw[w8 i0,e1,Df ⟨i0,i0⟩,show(0:J)=((0:K):J)from O,zo i7,S,w8 i0,e2,S,yW,S,S];have e4:(([E]:N K).getD 0 0/2^(min (i:J).toNat 64)) &&& 1=E/2^i%2:=by rw[Nat.and_one_is_mod,xbe,xcq W];rfl
   rw[e4];by_cases hb:E/2^i%2=1
   ·rw[zX];have a0:=jw p j r2;have⟨q4,G,k1,k2,k3,k4,k5,k6⟩:=xJ (fu:=fu) hp (qY (p:=p) W j r2) e.fm hc W W c;rw[U<|vj W h D f3 W W c,U k1];simp only;rw[zb];refine B _ ⟨i,G,O,W,⟨k3,k5,?_⟩⟩ (by show((i:J)-1+1).toNat<(((i+1:K):J)-1+1).toNat;lia);have q:E/2^i=E/2^(i+1)+E/2^(i+1)+1:=W
    rw[q];show Em p a (pp (C w) (E/2^(i+1)+E/2^(i+1))*C w) (C G);exact(Em.mul ((Fs.ci w).pp _) (Fs.ci r2) n<|Em.rest f4).trans<|(Em.cg (Zx p j r2).symm).trans<|Em.rest k4
   ·rw[zB,zb];refine B _ ⟨i,j,O,W,⟨D,V,?_⟩⟩ (by show((i:J)-1+1).toNat<(((i+1:K):J)-1+1).toNat;lia);have q:E/2^i=E/2^(i+1)+E/2^(i+1):=W
    rw[q];exact n)
 have⟨r,hr,b⟩:=hd fu (r1,r2,((bl E:K):J)-1) ⟨bl E,r1,O,R,⟨d3,d5,by
  have hz:E/2^bl E=0:=xbi<|zpH E;rw[hz];show Em p a (F 1) (C r1);have h1:Em p a (C [1]) (C r1):=Em.rest d4;rwa[jQ]at h1⟩⟩ (by show(((bl E:K):J)-1+1).toNat<fu;lia)
 refine⟨r,?_,b.fp,b.ln,?_⟩
 ·rw[U hr]
 ·have:=b.em;rwa[xez,xeq]at this
def zgj{h s:N J}{S:K}(hp:2<=p)(c:vB p h)(b:BzR p g h d s t S)(hd:X d=0\/ci d (X d-1)=1):vB p d:=by
 have⟨A,C,f,z2,d1,d2⟩:=b.dv;have hl:0<X d:=by
  refine xcJ λe=> ?_;have h1:=d2<|X h-1;rw[c.top,wI,yL λi hi=>by rw[yp W,xaA],xaJ i0 W]at h1;cases h1
 exact⟨b.df,hl,hd.resolve_left W⟩
def Fb(hp:qk p=wL)(ht:Fp p t)(c:vB p g)(e:X t<=290)(hc:X g<=290)(f:3000000<=fu):
 ∃d,af fu t g p=Z d/\vB p d/\Di p (ci d) (ci g)/\∀u:N J,Di p (ci u) (ci d)↔Di p (ci u) (ci t)/\Di p (ci u) (ci g):=by
 have⟨h,n⟩:=zw hp;have⟨d,o,q,e1,b,j⟩:=JD hp ht c.fm e hc f;have⟨A,C,r,z2,d1,d2⟩:=b.dv;refine⟨d,?_,zgj h c b j,⟨C,z2,d2⟩,λu=>zm9 b u⟩;unfold af;rw[U e1]
def LU(hp:qk p=wL)(e:vB p g)(hd:vB p d)(z:X g<=290)(h:Di p (C d) (C g))(j:3000000<=fu):
 ∃q,fY fu g d p=Z q/\vB p q/\Cg p (C g) (C q*C d)/\X g+1=X q+X d:=by
 have⟨n,f⟩:=zw hp;have⟨A,o,h1⟩:=h;have hc:=gm n e hd o h1;have⟨q,r,e1,s,u,w,x,B⟩:=xJ hp e.fm hd.fm hd.ln W W j;have⟨a,b,c⟩:=GI n e hd o h1 s u w x;refine⟨q,?_,a,b,c⟩;unfold fY j7;rw[U (v:=(q,r,0))];rw[U<|uK hp,iq O,U<|zL W f (hd.fm.rl f) W j,hd.fm.pm,zB,U<|zL W f (e.fm.rl f) W j,e.fm.pm,U e1]
def AN{c:J}(hp:qk (P:J)=wL)(hv:Rl v)(M:X v<=290)(n:vB (P:J) g)(Q:X g<=290)(hl:0<=c)(R:c<P)(b:3000000<=fu):
 ∃t,QP fu v c g P=Z t/\Fp (P:J) t/\X t<=290/\∀u:N J,Qx (P:J) u->Di (P:J) (C u) (C g)->∀x,Vl (P:J) u (C v) x->(Di (P:J) (C u) (C t)↔rM P (x+c)):=by
 have⟨o,h⟩:=zw hp;have hi:=n.ln;have A:Rl [c]:=λk=>by
  rw[jQ];unfold F;split
  ·lia
  ·lia
 have⟨w,f⟩:∃w,w=XG (P:J) (pm P v) (pm P [c]) 1:=⟨_,O⟩;have l1:=zbg (P:J) v;have q:=zbg (P:J) [c];have B:X w<=290:=by
  have:=Bj (P:J) (pm P v) (pm P [c]) 1;rw[<-f]at this;simp only[xax,xbP]at q;lia
 have s:Fp (P:J) w:=by rw[f];exact aO W _ _ _
 have D:Cg (P:J) (C w) (C v+F c):=by
  rw[f];refine(IU _ _ _ _).trans<|(Pf _ v).add ?_;rw[zC];exact(Pf _ [c]).trans<|Cg.of<|jQ c
 have G:Ks fu v [c] P=Z (w,0):=by
  unfold Ks;rw[U<|uK hp,iq O,U<|zL W h hv W b,U<|zL W h A i7 b,U<|JH W h (CZ W v) (CZ W [c]) i0 W W (by simp only[xax,xbP]at q;lia) b,f]
 have vw:∀u:N J,∀x,Vl (P:J) u (C v) x->Vl (P:J) u (C w) (x+c):=λu x e=>(Vl.add e<|Vl.pc _ u c).cg D.symm;unfold QP;rw[U G];simp only;by_cases z:2<P
 ·have⟨r,e1,H,S,L⟩:=KF (fu:=fu) (E:=(P-1)/2) hp s n W W W W b;have hd:xdE ((P:J)-1) 2=(((P-1)/2:K):J):=by rw[xeV W];lia
  have⟨t,ht⟩:∃t,t=XG (P:J) r [1] ((P:J)-1):=⟨_,O⟩;have f1:Fp (P:J) [1]:=VR;have lt:=Bj (P:J) r [1]<|(P:J)-1;rw[<-ht]at lt;have ct:Cg (P:J) (C t) (C r-F 1):=by
   rw[ht];refine(IU _ _ _ _).trans ?_;rw[jQ,kf,xcY];intro k;rw[zU,yX];unfold F;split
   ·rw[(W:C r k+((P:J)-1)=C r k-1+P*1),Int.add_mul_emod_self_left]
   ·rw[xcd,xdi]
  rw[zX,zb,w8 i0,hd,zb,U<|yi ⟨W,W⟩ b,U e1];simp only;rw[U<|eF hp H f1 W i7 b];refine⟨t,by rw[ht],by rw[ht];exact aO W _ _ _,by simp only[xax,xbP]at lt;lia,λu j hc x e=> ?_⟩
  have v1:Vl (P:J) u (C t) ((x+c)^((P-1)/2)-1):=
   (Vl.sub ((Em.dv L hc).symm.vl<|Vl.pp (Fs.ci w) (vw u x e)<|(P-1)/2)<|Vl.pc _ u 1).cg ct.symm
  refine(v1.di o j).trans ?_;unfold rM;rw[iq z]
 ·rw[zB];refine⟨w,O,s,B,λu j hc x e=> ?_⟩;refine((vw u x e).di o j).trans ?_;unfold rM;rw[ir z]
def nxt(P:K)(ds:N J)(k:K):J:=if k<X ds then ds.getD k 0%P else((k-X ds:K):J)
theorem lY(b:2<=P)(c:P<=65521)(hd:Rl ds)(e:k<P+X ds)(hc:X ds<=1000):ZZ fu (k:J) ds P=Z (nxt P ds k)/\0<=nxt P ds k/\nxt P ds k<P:=by
 unfold ZZ nxt;by_cases h:k<X ds
 ·rw[zo h,S,U (show uY fu (ds.getD k 0) P=Z (ds.getD k 0%P)from YK W W<|hd k)];have:=xi (a:=ds.getD k 0) (p:=P);simp_all
 ·rw[zb];grind
abbrev Ts:=Pz->J->Prop
structure Pd(P:K)(m:N J)(us:N (N J))(S:Ts)(l:N (N J)):Prop where
 pl:Pl (P:J) m l
 ts:∀v c,S v c->∀g∈l,Ct P us v c g
def zf5{α:Type}{a b:N α}{g q d:α}:((a++g::b)++[q]).set (X a) d=a++d::(b++[q]):=by
 simp_all
def zgO{α:Type}{l:N α}(h:i<X l)(z:α):∃a b,l=a++l.getD i z::b/\X a=i:=by
 refine⟨l.take i,l.drop<|i+1,?_,by rw[xav];lia⟩;simp_all
theorem Yx{α:Type}{l:N α}(h:i<X l)(z:α):l.getD i z∈l:=by grind
def Sf.pl_len(h:Sf p m us)(hl:Pl p m l):X l<=X us:=by
 have⟨vs,v1,b,v3⟩:=h.pick hl.mn ⟨F 1,Fs.pc 1,hl.pr.trans<|Cg.of (zC _).symm⟩;have:=cH b λv hv=>(v3 v hv).1;lia
def zfB{t7:N (N J)}{i2 i4:J}{S:Ts}(h:Sf (P:J) m us)(hJ:X us<=290)(hK:X bs=nb)(hG:nb<=290)(hd:Rl ds)(hA:X ds<=1000)(hv:Rl v)(hB:X v<=290)(hk:k<P+X ds)(G:3000000<=fu)(hl:Pd P m us S l):
 ∃r,zg (Qk fu P ds bs P ds i2 (k:J) t7 i4 v) fu (l,0)=Z r/\
  ((∃A,r=.inl A/\Pl (P:J) m A/\X A=nb)\/∃A,r=.inr A/\Pd P m us (λw c=>S w c\/w=C v/\c=nxt P ds k) A):=by
 have⟨H,p2⟩:=zw h.hp;have⟨n1,n2,n3⟩:=lY (fu:=fu) (P:=P) (k:=k) (ds:=ds) W W hd hk hA;refine yc (λs:N (N J)×J=>∃(i:K) (l:N (N J)),s=(l,(i:J))/\Pd P m us S l/\i<=X l/\∀j,j<i->Ct P us (C v) (nxt P ds k) (l.getD j [])) (λs=>300-s.2.toNat) _ ?_ _ _ ⟨0,l,O,hl,xan _,λj F=>by lia⟩ (by show 300-0<fu;lia);rintro s L ⟨i,l,rfl,hl,hi,ht⟩ T;have hL:=h.pl_len hl.pl;unfold Qk;simp only;by_cases h1:i<X l
 ·rw[zX];by_cases h2:X l=nb
  ·rw[zX];exact⟨_,O,.inl ⟨l,O,hl.pl,h2⟩⟩
  rw[zB,U n1,zo h1,ze];have⟨a,b,hc,hp⟩:=zgO h1 [];have D:=Yx h1 [];have⟨g,f⟩:∃g,g=l.getD i []:=⟨_,O⟩;rw[<-f]at hc D⊢;have⟨g1,g2⟩:=hl.pl.mn g D;have hC:=hl.pl.dv D;have M:=h.len g1 hC;have⟨t,t1,t2,t3,t4⟩:=AN (fu:=fu) h.hp hv hB g1 M n2 n3 G;have⟨d,d1,d2,d3,d4⟩:=Fb (fu:=fu) h.hp t2 g1 t3 M G;have hM:=d2.ln;have hH:X d<=X g:=by
   have⟨q,fq,hq⟩:=d3;exact gm H g1 d2 fq hq
  rw[U t1,zo h1,ze,<-f,U d1];have hn:∀u∈us,Di (P:J) (C u) (C g)->∀x,Vl (P:J) u (C v) x->(Di (P:J) (C u) (C d)↔rM P (x+nxt P ds k)):=λu n o x hx=>
   ⟨λQ=>(t4 u (h.ir u n).1 o x hx).1 ((d4 u).1 Q).1,λQ=>(d4 u).2 ⟨(t4 u (h.ir u n).1 o x hx).2 Q,o⟩⟩
  by_cases h3:1<X d/\X d<X g
  ·have⟨q,q1,q2,Y,q4⟩:=LU (fu:=fu) h.hp g1 d2 M d3 G;rw[zX,zo h1,ze,<-f,zX,U O];simp only[uP];rw[zo h1,ze,<-f,U q1,w8 (by simp;lia),ze,zo (by simp;lia),ze,zb];have hr:(l++[q]).set i d=a++d::(b++[q]):=by rw[hc,<-hp,zf5]
   have hD:Di (P:J) (C q) (C g):=⟨C d,Fs.ci d,Y.trans<|Cg.of<|zk _ _⟩;have hw:∀x∈a++d::(b++[q]),x=d\/x=q\/x∈l:=λx hx=>by
    obtain hx|hx:=So.1 hx
    ·right;right;rw[hc];exact xdU _ hx
    ·obtain hx|hx:=xaf.1 hx
     ·exact .inl hx
     ·obtain hx|hx:=So.1 hx
      ·right;right;rw[hc];exact xen _<|UV _ hx
      ·exact .inr (.inl<|xag.1 hx)
   have hy:Pl (P:J) m (a++d::(b++[q])):=by
    have:=hl.pl;rw[hc]at this;exact this.split d2 q2 W W Y
   refine T _ ⟨i+1,_,O,?_,?_,?_⟩ ?_
   ·rw[hr];refine⟨hy,λw c z x hx=> ?_⟩;obtain rfl|rfl|hx:=hw x hx
    ·exact(hl.ts w c z g D).sub d3
    ·exact(hl.ts w c z g D).sub hD
    ·exact hl.ts w c z x hx
   ·rw[xbj,xaw];lia
   ·intro j F;rw[hr];by_cases R:j=i
    ·left;have e:(a++d::(b++[q])).getD j []=d:=by rw[R,<-hp,FS,xbr<|IR _,xcD];rfl
     rw[e];intro u n hz x hx;exact(hn u n (hz.trans d3) x hx).1 hz
    ·have e:(a++d::(b++[q])).getD j []=l.getD j []:=by rw[hc,FS,FS,xaX W,xaX W]
     rw[e];exact ht j W
   ·have:=h.pl_len hy;have hI:X l=X a+1+X b:=by rw[hc];simp;lia
    simp only[xaw,xax]at this;show 300-((i:J)+1).toNat<300-(i:J).toNat;lia
  ·have hE:Ct P us (C v) (nxt P ds k) g:=by
    by_cases h4:1<X d
    ·left;have e:d=g:=Iu H d2 g1 d3 W;intro u n o x hx;exact(hn u n o x hx).1<|by rw[e];exact o
    ·right;intro u n o x hx hT;have h5:=(hn u n o x hx).2 hT;have h6:d=[1]:=d2.one W;rw[h6,jQ]at h5;exact(h.ir u n).1.ne H h5
   have hF:(if(1:J)<(X d:J)then
    zI (i:J) (X l) λj5=>
    B (l.getD j5 []) λt13=>
    if(X d:J)<(X t13:J)then
    Z (bs,(P:J),ds,(k:J),v,t7,i4,i2,wL)
    else
    Z (bs,(P:J),ds,(k:J),v,t7,i4,i2,I)
    else
    Z (bs,(P:J),ds,(k:J),v,t7,i4,i2,I):V (N (N J)×J×N J×J×N J×N (N J)×J×J×qR))=Z (bs,(P:J),ds,(k:J),v,t7,i4,i2,I):=by
    by_cases h4:1<X d
    ·rw[zX,zo h1,ze,<-f,zB]
    ·rw[zB]
   rw[U hF];simp only[xao,uS];rw[zb];refine T _ ⟨i+1,l,O,hl,W,λj F=> ?_⟩ (by show 300-((i:J)+1).toNat<300-(i:J).toNat;lia);by_cases R:j=i
   ·rw[R,<-f];exact hE
   ·exact ht j W
 ·rw[zB];refine⟨_,O,.inr ⟨l,O,hl.pl,λw c z g f=> ?_⟩⟩;obtain z|⟨rfl,rfl⟩:=z
  ·exact hl.ts w c z g f
  ·have⟨j,F,e⟩:=xcK f;have:=ht j W;rw[FS,xab F]at this;rw[<-e];exact this
def Pd.mono{S T:Ts}(h:Pd P m us S l)(b:∀v c,T v c->S v c):Pd P m us T l:=⟨h.pl,λv c ht=>h.ts v c<|b v c ht⟩
def zgG{S:Ts}(h:Sf (P:J) m us)(hn:X us<=290)(hc:X bs=nb)(ht:1<=nb)(z:nb<=290)(hd:Rl ds)(A:X ds<=1000)(hv:∀v∈bs,Rl v/\X v<=290)(B:k<P+X ds)(D:3000000<=fu)(hl:Pd P m us S l):
 ∃r,zg (Qn fu P ds (k:J)<|bs.drop 1) fu (bs,(P:J),ds,l,0)=Z r/\
  ((∃f,r=.inl f/\Pl (P:J) m f/\X f=nb)\/∃f,r=.inr (bs,(P:J),ds,f)/\Pd P m us (λw c=>S w c\/∃i,1<=i/\i<nb/\w=C (bs.getD i [])/\c=nxt P ds k) f):=by
 refine yc (λs:N (N J)×J×N J×N (N J)×J=>∃(i:K) (l:N (N J)),s=(bs,(P:J),ds,l,(i:J))/\i+1<=nb/\Pd P m us (λw c=>S w c\/∃j,1<=j/\j<i+1/\w=C (bs.getD j [])/\c=nxt P ds k) l) (λs=>300-s.2.2.2.2.toNat) _ ?_ _ _ ⟨0,l,O,W,hl.mono λw c n=>n.elim id λ⟨j,a,b,_⟩=>by lia⟩ (by show 300-0<fu;lia);rintro s L ⟨i,l,rfl,hi,q⟩ F;unfold Qn;simp only;have o:X (bs.drop 1)=nb-1:=by rw[xbX,hc]
 have u:∀{β:Type} (x:β) (k:β->V ((N<|N J)⊕(N (N J)×J×N J×N (N J)))),Y (Z x) k=k x:=λ_ _=>O;by_cases h1:i+1<nb
 ·rw[iq (by rw[o];lia),u];simp only[uP];rw[zo (by rw[o];lia),ze];have e:(bs.drop 1).getD i []=bs.getD (i+1) []:=by rw[FS,FS,xfm,xdW]
  have⟨hp,G⟩:=hv _<|Yx (l:=bs) (i:=i+1) W [];rw[e];have⟨r,H,M⟩:=zfB (fu:=fu) (i2:=(i:J)) (i4:=((X (bs.drop 1):K):J)) (t7:=bs.drop 1) (ds:=ds) h hn hc z hd A hp G B D q;rw[U H];rcases M with⟨f,rfl,g1,Q⟩|⟨f,rfl,g1⟩
  ·exact⟨_,O,.inl ⟨f,O,g1,Q⟩⟩
  ·simp only;rw[zb];refine F _ ⟨i+1,f,O,W,g1.mono λw c n=> ?_⟩ (by show 300-((i:J)+1).toNat<300-(i:J).toNat;lia);obtain n|⟨j,a,b,c1,c2⟩:=n
   ·exact .inl (.inl n)
   ·by_cases R:j=i+1
    ·subst R;exact .inr ⟨c1,c2⟩
    ·exact .inl (.inr ⟨j,a,W,c1,c2⟩)
 ·rw[ir (by rw[o];lia),u];simp only[xao,uS];refine⟨_,O,.inr ⟨l,O,q.mono λw c n=> ?_⟩⟩;obtain n|⟨j,a,b,c1,c2⟩:=n
  ·exact .inl n
  ·exact .inr ⟨j,a,W,c1,c2⟩
def rI(h:Sf (P:J) m us)(hn:1<X m)(x:X us<=290)(hp:X bs=nb)(z:1<=nb)(hi:nb<=290)(hd:Rl ds)(ht:X ds<=1000)(hv:∀v∈bs,Rl v/\X v<=290)(A:3000000<=fu):
 ∃l,WY fu m bs P ds=Z l/\Pl (P:J) m l/\(X l=nb\/∀i,1<=i->i<nb->∀c:K,c<P->∀g∈l,Ct P us (C<|bs.getD i []) c g):=by
 have⟨T,V⟩:=zw h.hp;unfold WY
 have B:=yc (f:=Qf fu bs P ds) (λs:N (N J)×J=>∃(k:K) (l:N (N J)),s=(l,(k:J))/\k<=P+X ds/\Pd P m us (λw c=>∃j i,j<k/\1<=i/\i<nb/\w=C (bs.getD i [])/\c=nxt P ds j) l) (λs=>P+X ds-s.2.toNat)
  (λl=>Pl (P:J) m l/\(X l=nb\/∀i,1<=i->i<nb->∀c:K,c<P->∀g∈l,Ct P us (C<|bs.getD i []) c g)) (by
  rintro s L ⟨k,l,rfl,Y,b⟩ D
  unfold Qf
  simp only
  rw[zb]
  by_cases h1:k<P+X ds
  ·rw[zX,show(1:J)=((1:K):J)from O,yF,yW,S]
   have⟨r,F,G⟩:=zgG (fu:=fu) (ds:=ds) h x hp z hi hd ht hv h1 A b
   rw[U F]
   rcases G with⟨o,rfl,g1,H⟩|⟨o,rfl,g1⟩
   ·exact⟨_,O,g1,.inl H⟩
   ·simp only
    rw[zb]
    refine D _ ⟨k+1,o,O,W,g1.mono λw c e=> ?_⟩ (by show P+X ds-((k:J)+1).toNat<P+X ds-(k:J).toNat;lia)
    have⟨j,i,a1,q,a3,a4,a5⟩:=e
    by_cases u:j=k
    ·subst u;exact .inr ⟨i,q,a3,a4,a5⟩
    ·exact .inl ⟨j,i,W,q,a3,a4,a5⟩
  ·rw[zB]
   refine⟨_,O,b.pl,.inr λi M Q c hc g n=> ?_⟩
   refine b.ts _ _ ⟨X ds+c,i,W,M,Q,O,?_⟩ g n
   unfold nxt
   rw[zB,(W:X ds+c-X ds=c)])
 have⟨l,hl,R⟩:=B fu ([m],0) ⟨0,[m],O,xan _,⟨⟨λg n=>by rw[xag.1 n];exact⟨h.mn,hn⟩,Cg.of (yf<|C m).symm⟩,λv c e=>by have⟨j,i,u,_⟩:=e;lia⟩⟩ (by show P+X ds-0<fu;lia);exact⟨l,by rw[U hl],R⟩
end
section
variable{N w r i fu lo a:wr}{R M A B:wr->Pz}{g f:Pz}{σ:wr->wr}{p q:wl}{m:xS (xS wl)}{l:xS wl}{e:wr->wl}
def Zp(N w:K)(R:K->Pz):xS (xS J):=(xaN N).map λr=>zl w<|R r
def ZB(N w:K)(R:K->Pz):X (Zp N w R)=N:=by unfold Zp;simp
def qu(h:r<N):(Zp N w R).getD r []=zl w (R r):=by simp_all [Zp]
theorem Zv{S:K->Pz}(h:∀r,r<N->∀k,k<w->R r k=S r k):Zp N w R=Zp N w S:=by grind [Zp,yU,xbZ]
theorem IQ:(Zp N w R).set r (zl w g)=Zp N w λs=>if s=r then g else R s:=by
 refine xcA λi=> ?_;unfold Zp;by_cases h:r=i
 ·grind
 ·grind
def U6(N:K)(σ:K->K):xS K:=(xaN N).map σ
def WJ(N:K)(σ:K->K):X (U6 N σ)=N:=by unfold U6;simp
def uQ(h:i<N:=by lia):(U6 N σ).getD i 0=σ i:=by simp_all [U6]
def stk(p:J)(a:K)(own f:Pz):Pz:=λk=>(f k+(p-f a)*own k)%p
def Fw(p:J)(a:K)(own f:Pz)(i:K):Pz:=λk=>if k<i then stk p a own f k else f k
def ziX(hp:0<p)(a:K)(own f:Pz)(k:K):0<=stk p a own f k/\stk p a own f k<p:=xi hp
def zc1{ix:xS K}{n lo2 n2 q:K}{y:J}(h1:2<=p)(P:p<=65521)(h:∀s,s<N->∀k,0<=R s k/\R s k<p)(o:r<N)(t:q<N)(hd:q≠r)(Q:w<=64)(C:y=R q a)(b:xS (xS J))(h0:b=Zp N w R)(T:3000000<=fu):
 zg (λL (z:((xS (xS J)×xS K)×K×K)×(K×K)×K×K×K×J)=>
 if z.2.2.2.2.2<(X (b.getD r []):J)then
  zI z.2.2.2.2.2 (X (z.1.1.1.getD z.2.2.2.1 [])) λj=>
  nm ((z.1.1.1.getD z.2.2.2.1 []).getD j 0) λv=>
  zI z.2.2.2.2.2 (X (z.1.1.1.getD z.2.2.2.2.1 [])) λj=>
  nm ((z.1.1.1.getD z.2.2.2.2.1 []).getD j 0) λu=>
  zf (p-y) λe=>
  zf (e*v) λe=>
  zf (u+e) λe=>
  ck (p≠0)<|
  nm (xcv e p) λe=>
  zI z.2.2.2.2.2 (X (z.1.1.1.getD z.2.2.2.2.1 [])) λj=>
  nm (z.1.1.1.set z.2.2.2.2.1<|(z.1.1.1.getD z.2.2.2.2.1 []).set j e) λx=>
  zf (z.2.2.2.2.2+1) λi=>
  L (((x,z.1.1.2),z.1.2),z.2.1,z.2.2.1,z.2.2.2.1,z.2.2.2.2.1,i)
 else Z (z.1,z.2.1,z.2.2.1)) fu (((b,ix),lo,n),(lo2,n2),r,r,q,0)=Z (((Zp N w λs=>if s=q then stk p a (R r) (R q)else R s,ix),lo,n),(lo2,n2),r):=by
 subst h0;refine zA (λz:((xS (xS J)×xS K)×K×K)×(K×K)×K×K×K×J=>∃i:K,i<=w/\z=(((Zp N w λs=>if s=q then Fw p a (R r) (R q) i else R s,ix),lo,n),(lo2,n2),r,r,q,(i:J))) (λz=>w-z.2.2.2.2.2.toNat) _ ?_ _ _ ⟨0,xan _,by
  rw[Zv (R:=R) (S:=λs=>if s=q then Fw p a (R r) (R q) 0 else R s) λs _ k _=>by
   by_cases e:s=q
   ·rw[iq e,e];unfold Fw;rw[zB]
   ·rw[ir e]]
  rfl⟩ (by show w-0<fu;lia)
 rintro z L ⟨i,hi,rfl⟩ D;simp only;rw[qu o,zZ];by_cases c:i<w
 ·have E:(Zp N w λs=>if s=q then Fw p a (R r) (R q) i else R s).getD r []=zl w (R r):=by rw[qu o,ir<|λe=>hd e.symm]
  have F:(Zp N w λs=>if s=q then Fw p a (R r) (R q) i else R s).getD q []=zl w (Fw p a (R r) (R q) i):=by rw[qu t,iq O]
  have ev:Fw p a (R r) (R q) i i=R q i:=zB;have⟨v1,U⟩:=h r o i;have⟨V,Y⟩:=h q t i;have⟨G,H⟩:=h q t a;rw[<-C]at G H;have m1:0<=(p-y)*R r i:=xcC W v1;have m2:(p-y)*R r i<=65521*65521:=Int.mul_le_mul W W v1 W;rw[zX,E,zZ,zo c,ze,ks c,F,zZ,zo c,ze,ks c,ev,zb,zb,zb,yW,ze,gj,zo c,ze,ZK,IQ,zb];refine D _ ⟨i+1,W,?_⟩ (by show w-((i:J)+1).toNat<w-(i:J).toNat;lia);rw[Zv (S:=λs=>if s=q then Fw p a (R r) (R q) (i+1)else R s) λs _ k _=>by
   by_cases e:s=q
   ·rw[iq e,iq e];unfold Xh Fw;by_cases d:k=i
    ·rw[iq d,zX,d,C];rfl
    ·rw[ir d];by_cases hc:k<i
     ·rw[iq hc,zX]
     ·rw[ir hc,zB]
   ·rw[ir e,ir e,ir e]]
  rfl
 ·rw[zB];obtain rfl:i=w:=W
  rw[Zv (S:=λs=>if s=q then stk p a (R r) (R q)else R s) λs _ k d=>by
   by_cases e:s=q
   ·rw[iq e,iq e];unfold Fw;rw[iq d]
   ·rw[ir e,ir e]]
structure Ps(N:K)(σ:K->K):Prop where
 lt:∀i,i<N->σ i<N
 ij:∀i j,i<N->j<N->σ i=σ j->i=j
def Hr{n t:K}(h1:2<=p)(P:p<=65521)(Q:∀s,s<N->∀k,0<=R s k/\R s k<p)(b:Ps N σ)(ht:t<N)(hp:t<lo\/lo+n<=t)(hn:lo+n<=N)(hN:N<=64)(T:w<=64)(E:a<w)(V:3000000<=fu):
 ∃S:K->Pz,qc fu (Zp N w R) (U6 N σ) (σ t) (a:J) p lo n=Z (Zp N w S)/\(∀s,s<N->∀k,0<=S s k/\S s k<p)/\∀j,j<N->S (σ j)=if lo<=j/\j<lo+n then stk p a (R<|σ t) (R<|σ j)else R (σ j):=by
 unfold qc;have hd:=yc (f:=(λL (x:((xS (xS J)×xS K)×K×K)×(K×K)×K×J)=>
 if x.2.2.2<(n:J)then
  zI x.2.2.2 x.2.1.2 λj=>
  nm (x.1.1.2.getD (x.2.1.1+j) 0) λq=>
  zI (a:J) (X (x.1.1.1.getD q [])) λj=>
  nm ((x.1.1.1.getD q []).getD j 0) λy=>
  Y (zg (λL (z:((xS (xS J)×xS K)×K×K)×(K×K)×K×K×K×J)=>
   if z.2.2.2.2.2<(X (x.1.1.1.getD x.2.2.1 []):J)then
    zI z.2.2.2.2.2 (X (z.1.1.1.getD z.2.2.2.1 [])) λj=>
    nm ((z.1.1.1.getD z.2.2.2.1 []).getD j 0) λv=>
    zI z.2.2.2.2.2 (X (z.1.1.1.getD z.2.2.2.2.1 [])) λj=>
    nm ((z.1.1.1.getD z.2.2.2.2.1 []).getD j 0) λu=>
    zf (p-y) λe=>
    zf (e*v) λe=>
    zf (u+e) λe=>
    ck (p≠0)<|
    nm (xcv e p) λe=>
    zI z.2.2.2.2.2 (X (z.1.1.1.getD z.2.2.2.2.1 [])) λj=>
    nm (z.1.1.1.set z.2.2.2.2.1<|(z.1.1.1.getD z.2.2.2.2.1 []).set j e) λD=>
    zf (z.2.2.2.2.2+1) λi=>
    L (((D,z.1.1.2),z.1.2),z.2.1,z.2.2.1,z.2.2.2.1,z.2.2.2.2.1,i)
   else Z (z.1,z.2.1,z.2.2.1)) fu (x.1,x.2.1,x.2.2.1,x.2.2.1,q,0)) λz=>
  zf (x.2.2.2+1) λi=>
  L (z.1,z.2.1,z.2.2,i)
 else Z x.1)) (λx=>∃(c:K) (S:K->Pz),x=(((Zp N w S,U6 N σ),lo,n),(lo,n),σ t,(c:J))/\c<=n/\(∀s,s<N->∀k,0<=S s k/\S s k<p)/\∀j,j<N->S (σ j)=if lo<=j/\j<lo+c then stk p a (R (σ t)) (R (σ j))else R (σ j)) (λx=>n-x.2.2.2.toNat)
  (λy=>∃S:K->Pz,y=((Zp N w S,U6 N σ),lo,n)/\(∀s,s<N->∀k,0<=S s k/\S s k<p)/\∀j,j<N->S (σ j)=if lo<=j/\j<lo+n then stk p a (R<|σ t) (R<|σ j)else R (σ j)) (by
  rintro x L ⟨c,S,rfl,hc,C,d⟩ ih
  simp only
  by_cases hi:c<n
  ·have o:lo+c<N:=W
   have hk:=b.lt t ht
   have F:=b.lt (lo+c) o
   have hl:σ (lo+c)≠σ t:=λe=>by have:=b.ij _ _ o ht e;lia
   have hm:S (σ<|lo+c)=R (σ<|lo+c):=by rw[d _ o,zB]
   have ho:S (σ t)=R (σ t):=by rw[d _ ht,zB]
   rw[zX,zo hi,ze,uQ o,qu F,zZ,zo E,ze,ks E,U<|zc1 (ix:=U6 N σ) (lo:=lo) (n:=n) (lo2:=lo) (n2:=n) h1 P C hk F hl T O _ O V]
   simp only
   rw[zb]
   refine ih _ ⟨c+1,λs=>if s=σ (lo+c)then stk p a (S<|σ t) (S<|σ<|lo+c)else S s,O,W,λs hs k=> ?_,λj G=> ?_⟩ (by show n-((c:J)+1).toNat<n-(c:J).toNat;lia)
   ·show 0<=(if s=σ (lo+c)then stk p a (S<|σ t) (S<|σ<|lo+c)else S s) k/\(if s=σ (lo+c)then stk p a (S<|σ t) (S<|σ<|lo+c)else S s) k<p
    by_cases e:s=σ (lo+c)
    ·rw[iq e];exact ziX (W:0<p) _ _ _ _
    ·rw[ir e];exact C s hs k
   ·show(if σ j=σ (lo+c)then stk p a (S<|σ t) (S<|σ<|lo+c)else S (σ j))=_
    by_cases e:j=lo+c
    ·rw[e,iq O,zX,ho,hm]
    ·rw[ir<|λh=>e<|b.ij _ _ G o h,d j G]
     by_cases H:lo<=j/\j<lo+c
     ·rw[iq H,zX]
     ·rw[ir H,zB]
  ·rw[zB]
   obtain rfl:c=n:=W
   exact⟨_,O,S,O,C,d⟩)
 obtain⟨y,hy,S,rfl,C,d⟩:=hd fu (((Zp N w R,U6 N σ),lo,n),(lo,n),σ t,0) ⟨0,R,O,xan _,Q,λj o=>by rw[zB]⟩ (by show n-0<fu;lia);refine⟨S,?_,C,d⟩;rw[U hy];simp only;rw[w8 ⟨wR,wR,wR⟩]
def b7(hp:qk p=wL)(d:X m<=64)(b:∀r∈m,X r=w)(j:w<=64)(n:3000000<=fu):Xx fu m p=Z 0:=by
 unfold Xx;rw[U<|uK hp,iq O,zB,U (v:=Sum.inl ())];refine zA (λi:J=>∃k:K,i=(k:J)/\k<=X m) (λi=>X m-i.toNat) _ ?_ _ _ ⟨0,O,xan _⟩ W;rintro i L ⟨k,rfl,o⟩ c;unfold dS;by_cases h:k<X m
 ·have e1:=b _<|Yx h [];have s:=b _<|Yx (W:0<X m) [];rw[zX,U O];simp only[uP];rw[zo h,S,zB,show(0:J)=((0:K):J)from O,z8,S,zX,zb];exact c _ ⟨k+1,W,W⟩ W
 ·rw[zB,U O];simp_all
def AD(h1:1<=p)(d:p<=65521)(j:Rl l)(hl:X l<=1000000)(o:3000000<=fu):Xm fu l p=Z (zl (X l)<|λk=>C l k%p):=by
 unfold Xm;rw[yF,yW,S,dk,U (v:=zl (X l)<|λk=>C l k%p)];refine zA (λs:J×xS J=>∃i:K,i<=X l/\s=((i:J),zl (X l) (λk=>if k<i then C l k%p else 0))) (λs=>X l-s.1.toNat) _ ?_ _ _ ⟨0,xan _,by rw[yU (f:=λ_=>0) (g:=λk=>if k<0 then C l k%p else 0) λk _=>by rw[zB]];rfl⟩ (by show X l-0<fu;lia);rintro s L ⟨i,hi,rfl⟩ n;unfold dD;simp only;by_cases h:i<X l
 ·rw[zX,zo h,S,U (show uY fu (l.getD i 0) p=Z (l.getD i 0%p)from YK h1 d<|j i),zo (by rw[zZ];exact h),S,ZK,zb];refine n _ ⟨i+1,W,?_⟩ (by show X l-((i:J)+1).toNat<X l-(i:J).toNat;lia);rw[yU (g:=λk=>if k<i+1 then C l k%p else 0) λk _=>by
   unfold Xh;by_cases b:k=i
   ·rw[iq b,zX,b,QK]
   ·rw[ir b];show(if k<i then C l k%p else 0)=_;by_cases c:k<i
    ·rw[iq c,zX]
    ·rw[ir c,zB]]
  rfl
 ·rw[zB];rw[yU (g:=λk=>C l k%p) λk b=>by rw[zX]]
theorem Nu{l:xS (xS J)}{g:xS J->V qR}{b:xS J->qR}(o:∀z∈l,g z=Z (b z))(hl:X l<=1000000)(v:3000000<=fu):
 (yP fu l g=Z (-1)/\∀z∈l,b z=I)\/∃i:K,i<X l/\yP fu l g=Z (i:J)/\b (l.getD i [])=wL/\∀j,j<i->b (l.getD j [])=I:=by
 unfold yP
 have s:=yc (f:=vP fu l g) (λi:J=>∃k:K,i=(k:J)/\k<=X l/\∀j,j<k->b (l.getD j [])=I) (λi=>X l-i.toNat)
  (λr=>(r=.inl ()/\∀j,j<X l->b (l.getD j [])=I)\/∃i:K,i<X l/\r=.inr (i:J)/\b (l.getD i [])=wL/\∀j,j<i->b (l.getD j [])=I) (by
  rintro i L ⟨k,rfl,x,c⟩ t
  unfold vP
  by_cases h:k<X l
  ·rw[zX,zo h,S,U<|o _<|Yx h []]
   cases d:b (l.getD k [])with
   |true=>
    grind
   |false=>
    rw[ir i0,zb]
    refine t _ ⟨k+1,W,W,λj y=> ?_⟩ W
    by_cases e:j=k
    ·rw[e];exact d
    ·exact c j W
  ·rw[zB]
   exact⟨_,O,.inl ⟨O,λj C=>c j W⟩⟩)
 have⟨r,n,hc⟩:=s fu 0 ⟨0,O,xan _,λj c=>by lia⟩ (by show X l-0<fu;lia);rcases hc with⟨rfl,hd⟩|⟨i,hi,rfl,d,c⟩
 ·left;refine⟨by rw[U n],λz u=> ?_⟩;have⟨j,c,e⟩:=xcK u;have:=hd j c;rw[FS,xab c]at this;rw[<-e];exact this
 ·right;exact⟨i,hi,by rw[U n],d,c⟩
theorem zcI{g:J->V qR}{b:J->qR}(o:∀z,g z=Z (b z))(hl:X l<=1000000)(u:3000000<=fu):
 (xq fu l g=Z (-1)/\∀j,j<X l->b (C l j)=I)\/∃i:K,i<X l/\xq fu l g=Z (i:J)/\b (C l i)=wL/\∀j,j<i->b (C l j)=I:=by
 unfold xq
 have s:=yc (f:=vm fu l g) (λi:J=>∃k:K,i=(k:J)/\k<=X l/\∀j,j<k->b (C l j)=I) (λi=>X l-i.toNat)
  (λr=>(r=.inl ()/\∀j,j<X l->b (C l j)=I)\/∃i:K,i<X l/\r=.inr (i:J)/\b (C l i)=wL/\∀j,j<i->b (C l j)=I) (by
  rintro i L ⟨k,rfl,v,c⟩ t
  unfold vm
  by_cases h:k<X l
  ·rw[zX,zo h,S,U<|o _,QK]
   cases d:b (C l k)with
   |true=>
    grind
   |false=>
    rw[ir i0,zb]
    refine t _ ⟨k+1,W,W,λj x=> ?_⟩ W
    by_cases e:j=k
    ·rw[e];exact d
    ·exact c j W
  ·rw[zB]
   exact⟨_,O,.inl ⟨O,λj y=>c j W⟩⟩)
 have⟨r,n,hc⟩:=s fu 0 ⟨0,O,xan _,λj c=>by lia⟩ (by show X l-0<fu;lia);rcases hc with⟨rfl,hd⟩|⟨i,hi,rfl,d,c⟩
 ·exact .inl ⟨by rw[U n],hd⟩
 ·exact .inr ⟨i,hi,by rw[U n],d,c⟩
def dt(w:K)(f:Pz)(e:K->J):J:=yh w λk=>f k*e k
def zfJ(h:∀k,k<w->f k%p=g k%p):dt w f e%p=dt w g e%p:=gl λk b=>by rw[xci,h k b,<-xci]
theorem zeU(c d:J):dt w (λk=>c*f k+d*g k) e=c*dt w f e+d*dt w g e:=by
 unfold dt;rw[<-Zb,<-Zb,<-YU];grind
def Kr(p:J)(N w:K)(A:K->Pz)(e:K->J):Prop:=∀i,i<N->p∣dt w (A i) e
structure DM(p:J)(N w:K)(M A:K->Pz)(n c:K)(pv:K->K):Prop where
 hn:n<=N
 hc:c<=w
 rg:∀i,i<N->∀k,0<=A i k/\A i k<p
 lt:∀i,i<n->pv i<c
 on:∀i,i<n->A i (pv i)=1
 no:∀i,i<n->∀j,j<N->j≠i->A j (pv i)=0
 ld:∀i,i<n->∀k,k<pv i->A i k=0
 zr:∀i,n<=i->i<N->∀k,k<c->A i k=0
 kr:∀e,Kr p N w A e↔Kr p N w M e
def DM.skip{n c:K}{pv:K->K}(h:DM p N w M A n c pv)(hc:c<w)(d:∀i,n<=i->i<N->A i c=0):DM p N w M A n (c+1) pv:=
 ⟨h.hn,hc,h.rg,λi hi=>by have:=h.lt i hi;lia,h.on,h.no,h.ld,λi h1 b k j=>by
  by_cases e:k=c
  ·simp_all
  ·exact h.zr i h1 b k W,h.kr⟩
theorem DM.swap{n c:K}{pv:K->K}(h:DM p N w M A n c pv)(y:n<=a)(z:a<N)(C:∀i,i<N->B i=if i=n then A a else if i=a then A n else A i):DM p N w M B n c pv:=by
 have o:∀i,i<n->B i=A i:=λi hi=>by grind
 have hc:∀i,i<N->∃j,j<N/\B i=A j/\(n<=i->n<=j)/\(∀x,x<n->(i≠x->j≠x)):=λi hi=>by
  by_cases e1:i=n
  ·grind
  ·grind
 have hd:∀i,i<N->∃j,j<N/\A i=B j:=λi hi=>by
  by_cases e1:i=n
  ·grind
  ·grind
 refine⟨h.hn,h.hc,λi hi=> ?_,h.lt,λi hi=> ?_,λi hi j b s=> ?_,λi hi k d=> ?_,λi h1 t k d=> ?_,λe=> ?_⟩
 ·have⟨j,b,e,_⟩:=hc i hi;rw[e];exact h.rg j b
 ·rw[o i hi];exact h.on i hi
 ·have⟨x,u,e,_,v⟩:=hc j b;rw[e];exact h.no i hi x u<|v i hi s
 ·rw[o i hi];exact h.ld i hi k d
 ·have⟨j,b,e,hl,_⟩:=hc i t;rw[e];exact h.zr j (hl h1) b k d
 ·refine Iff.trans ⟨λd i hi=> ?_,λd i hi=> ?_⟩<|h.kr e
  ·have⟨j,b,e⟩:=hd i hi;rw[e];exact d j b
  ·have⟨j,b,e,_⟩:=hc i hi;rw[e];exact d j b
theorem DM.step{n c:K}{pv:K->K}(hp:2<=p)(h:DM p N w M A n c pv)(hc:n<N)(ht:c<w)(C:(q*A n c)%p=1)(t:B n=λk=>(A n k*q)%p)(P:∀j,j<N->j≠n->B j=stk p c (B n) (A j)):
 DM p N w M B (n+1) (c+1) (λi=>if i=n then c else pv i):=by
 have hl:∀k,k<c->B n k=0:=λk d=>by rw[t];show A n k*q%p=0;rw[h.zr n (IR _) hc k d,xbd,xau]
 have hn:B n c=1:=by rw[t];show A n c*q%p=1;rw[xbE,C]
 have hd:∀j,j<N->j≠n->∀k,B j k=(A j k+(p-A j c)*B n k)%p:=λj b s k=>by rw[P j b s];rfl
 have u:∀j,j<N->j≠n->∀k,B n k=0->B j k=A j k:=λj b s k d=>by
  rw[hd j b s,d,xaA,xcd];exact xaJ (h.rg j b k).1 (h.rg j b k).2
 have z:∀i,i<n->B n (pv i)=0:=λi hi=>hl _<|h.lt i hi;refine⟨hc,ht,λi hi k=> ?_,λi hi=> ?_,λi hi=> ?_,λi hi j b Q=> ?_,λi hi k d=> ?_,λi h1 o k d=> ?_,λe=> ?_⟩
 ·by_cases e:i=n
  ·rw[e,t];exact xi
  ·rw[hd i hi e];exact xi
 ·show(if i=n then c else pv i)<c+1;by_cases e:i=n
  ·rw[iq e];lia
  ·rw[ir e];have:=h.lt i W;lia
 ·show B i (if i=n then c else pv i)=1;by_cases e:i=n
  ·rw[iq e,e,hn]
  ·rw[ir e,u i W e _<|z i W];exact h.on i W
 ·show B j (if i=n then c else pv i)=0;by_cases e:i=n
  ·rw[iq e,hd j b W,hn,xcY,(W:A j c+(p-A j c)=p),Int.emod_self]
  ·rw[ir e];by_cases D:j=n
   ·rw[D];exact z i W
   ·rw[u j b D _<|z i W];exact h.no i W j b Q
 ·have v:k<(if i=n then c else pv i):=d;by_cases e:i=n
  ·rw[iq e]at v;rw[e];exact hl k v
  ·rw[ir e]at v;have E:=h.lt i W;rw[u i W e k<|hl k W];exact h.ld i W k v
 ·by_cases e:k=c
  ·rw[e,hd i o W,hn,xcY,(W:A i c+(p-A i c)=p),Int.emod_self]
  ·rw[u i o W k<|hl k W];exact h.zr i W o k W
 ·refine Iff.trans ?_<|h.kr e;have F:dt w (B n) e%p=(q*dt w (A n) e)%p:=by
   have:=zfJ (p:=p) (w:=w) (f:=B n) (g:=λk=>q*A n k+0*A n k) (e:=e) λk _=>by rw[t];show A n k*q%p%p=_;rw[xaW];congr 1;grind
   rw[this,zeU];congr 1;grind
  have G:∀j,j<N->j≠n->dt w (B j) e%p=(dt w (A j) e+(p-A j c)*dt w (B n) e)%p:=λj b s=>by
   have:=zfJ (p:=p) (w:=w) (f:=B j) (g:=λk=>1*A j k+(p-A j c)*B n k) (e:=e) λk _=>by rw[hd j b s,xaW];congr 1;grind
   rw[this,zeU];congr 1;grind
  have dv:∀{x y:J},x%p=y%p->(p∣x↔p∣y):=λ{x y} H=>⟨λS=>xaH (by rw[<-H];exact xaz S),λT=>xaH<|by rw[H];exact xaz T⟩;have hv:p∣dt w (B n) e->p∣dt w (A n) e:=λU=>by
   have h1:=(dv F).1 U;have o:p∣A n c*(q*dt w (A n) e):=xbw h1<|xcU _ _;refine(dv ?_).1 o;rw[<-xdc,xci,xbE (A n c) q,C,xdg,xaW]
  constructor
  ·intro d j b;by_cases e1:j=n
   ·rw[e1];exact hv<|d n hc
   ·have h1:=(dv<|G j b e1).1<|d j b;have o:p∣(p-A j c)*dt w (B n) e:=xbw (d n hc)<|xcU _ _;have E:=xdB h1 o;rwa[Int.add_sub_cancel]at E
  ·intro d j b;have L:p∣dt w (B n) e:=(dv F).2<|xbw (d n hc)<|xcU _ _;by_cases e1:j=n
   ·rw[e1];exact L
   ·exact(dv<|G j b e1).2<|Int.dvd_add (d j b)<|xbw L<|xcU _ _
theorem Rv(N w:K)(R:K->Pz):Zp N w R++[zl w<|R N]=Zp (N+1) w R:=by grind [Zp,xdk]
theorem zfu(N:K)(σ:K->K):U6 N σ++[σ N]=U6 (N+1) σ:=by grind [U6,xdk]
theorem A6{v:K}:(U6 N σ).set i v=U6 N λs=>if s=i then v else σ s:=by
 refine xcA λj=> ?_;unfold U6;by_cases h:i=j
 ·grind
 ·grind
def zfO(b:∀i,i<N->σ i<N):((U6 N σ).map λr=>(Zp N w R).getD r [])=Zp N w λi=>R (σ i):=by
 show((xaN N).map σ).map _=(xaN N).map _;rw[xcN];exact xbZ λi hi=>qu<|b i<|xbg.1 hi
def zfi{n:K}(h:n<=N):(Zp N w R).take n=Zp n w R:=by
 unfold Zp;rw[<-xeU,List.take_range,xcq h]
theorem zgT{n:K}(h:n<=N):(Zp N w R).drop n=Zp (N-n) w λi=>R (n+i):=by
 refine xcA λi=> ?_;unfold Zp;by_cases hi:n+i<N
 ·grind
 ·grind
def zgF{n:K}(h1:2<=p)(E:p<=65521)(v:∀s,s<N->∀k,0<=R s k/\R s k<p)(d:r<N)(x:σ n=r)(hn:n<N)(hc:0<=q)(F:q<p)(G:w<=64)(b:xS (xS J))(h0:b=Zp N w R)(t:J)(C:t=(n:J))(H:3000000<=fu):
 zg (λL (z:(xS (xS J)×xS K)×K×J)=>
  if z.2.2<(X (b.getD r []):J)then
   zI z.2.2 (X (z.1.1.getD z.2.1 [])) λj=>
   nm ((z.1.1.getD z.2.1 []).getD j 0) λy=>
   zI t (X z.1.2) λj=>
   nm (z.1.2.getD j 0) λr=>
   zf (y*q) λe=>
   ck (p≠0)<|
   nm (xcv e p) λe=>
   zI z.2.2 (X (z.1.1.getD r [])) λj=>
   nm (z.1.1.set r<|(z.1.1.getD r []).set j e) λh=>
   zf (z.2.2+1) λi=>L ((h,z.1.2),z.2.1,i)
  else Z z.1) fu ((b,U6 N σ),r,0)=Z (Zp N w λs=>if s=r then λk=>(R r k*q)%p else R s,U6 N σ):=by
 subst h0 C;refine zA (λz:(xS (xS J)×xS K)×K×J=>∃i:K,i<=w/\z=((Zp N w λs=>if s=r then λk=>if k<i then(R r k*q)%p else R r k else R s,U6 N σ),r,(i:J))) (λz=>w-z.2.2.toNat) _ ?_ _ _ ⟨0,xan _,by
  rw[Zv (R:=R) (S:=λs=>if s=r then λk=>if k<0 then(R r k*q)%p else R r k else R s) λs _ k _=>by
   by_cases e:s=r
   ·simp_all
   ·rw[ir e]]
  rfl⟩ (by show w-0<fu;lia)
 rintro z L ⟨i,hi,rfl⟩ D;simp only;rw[qu d,zZ];by_cases o:i<w
 ·have u:(Zp N w λs=>if s=r then λk=>if k<i then(R r k*q)%p else R r k else R s).getD r []=zl w (λk=>if k<i then(R r k*q)%p else R r k):=by rw[qu d,iq O]
  have⟨v1,P⟩:=v r d i;have Q:0<=R r i*q:=xcC v1 hc;have T:R r i*q<=65521*65521:=Int.mul_le_mul W W hc W;rw[zX,u,zZ,zo o,ze,ks o,zB,WJ,zo hn,ze,uQ hn,x,zb,yW,ze,gj,u,zZ,zo o,ze,ZK,IQ,zb];refine D _ ⟨i+1,W,?_⟩ (by show w-((i:J)+1).toNat<w-(i:J).toNat;lia);rw[Zv (S:=λs=>if s=r then λk=>if k<i+1 then(R r k*q)%p else R r k else R s) λs _ k _=>by
   by_cases e:s=r
   ·rw[iq e,iq e];unfold Xh;show _=if k<i+1 then(R r k*q)%p else R r k;by_cases c:k=i
    ·rw[iq c,zX,c]
    ·rw[ir c];show(if k<i then(R r k*q)%p else R r k)=_;by_cases hd:k<i
     ·rw[iq hd,zX]
     ·rw[ir hd,zB]
   ·rw[ir e,ir e,ir e]]
  rfl
 ·rw[zB];obtain rfl:i=w:=W
  rw[Zv (S:=λs=>if s=r then λk=>(R r k*q)%p else R s) λs _ k c=>by
   by_cases e:s=r
   ·rw[iq e,iq e];show(if k<i then _ else _)=_;rw[iq c]
   ·rw[ir e,ir e]]
def zpo(hp:0<p):DM p N w M (λi k=>M i k%p) 0 0 (λ_=>0):=
 ⟨xan _,xan _,λi _ k=>xi hp,λi hi=>by lia,λi hi=>by lia,λi hi=>by lia,λi hi=>by lia,λi _ _ k j=>by lia,λe=>by
  have dv:∀{x y:J},x%p=y%p->(p∣x↔p∣y):=λ{x y} b=>⟨λc=>xaH (by rw[<-b];exact xaz c),λd=>xaH<|by rw[b];exact xaz d⟩;have:∀i,p∣dt w (λk=>M i k%p) e↔p∣dt w (M i) e:=λi=>dv<|zfJ λk _=>xaW _ _;exact⟨λh i hi=>(this i).1<|h i hi,λh i hi=>(this i).2<|h i hi⟩⟩
def zdA(fu:K)(p:J):(((xS (xS J)×xS K)×J×J)->V ((xS (xS J)×xS K)×J))->((xS (xS J)×xS K)×J×J)->V ((xS (xS J)×xS K)×J):=λL (x:(xS (xS J)×xS K)×J×J)=>if x.2.1<(X x.1.2:J)then zI 0 (X x.1.2) λj=>nm (x.1.2.getD j 0) λr=>if x.2.2<(X (x.1.1.getD r []):J)then jX x.2.1 λj=>ck (j<=X x.1.2)<|Y (yP fu (xdH (X x.1.2-j)<|xdT j<|x.1.2.map λr=>x.1.1.getD r []) λz=>jD fu z x.2.2) λi=>if i<0 then zf (x.2.2+1) λc=>L (x.1,x.2.1,c)else zf (x.2.1+i) λa=>zf (x.2.1+i) λb=>zI b (X x.1.2) λj=>nm (x.1.2.getD j 0) λr1=>zI x.2.1 (X x.1.2) λj=>nm (x.1.2.getD j 0) λr2=>zI x.2.1 (X x.1.2) λj=>nm (x.1.2.set j r1) λix=>zI a (X ix) λj=>nm (ix.set j r2) λix=>zI x.2.1 (X ix) λj=>nm (ix.getD j 0) λr=>zI x.2.2 (X (x.1.1.getD r [])) λj=>nm ((x.1.1.getD r []).getD j 0) λy=>Y (VG fu y p) λq=>zI x.2.1 (X ix) λj=>nm (ix.getD j 0) λr=>Y (zg (λL (z:(xS (xS J)×xS K)×K×J)=>if z.2.2<(X (x.1.1.getD r []):J)then zI z.2.2 (X (z.1.1.getD z.2.1 [])) λj=>nm ((z.1.1.getD z.2.1 []).getD j 0) λy=>zI x.2.1 (X z.1.2) λj=>nm (z.1.2.getD j 0) λr=>zf (y*q.1) λe=>ck (p≠0)<|nm (xcv e p) λe=>zI z.2.2 (X (z.1.1.getD r [])) λj=>nm (z.1.1.set r<|(z.1.1.getD r []).set j e) λd=>zf (z.2.2+1) λi=>L ((d,z.1.2),z.2.1,i)else Z z.1) fu ((x.1.1,ix),r,0)) λm=>zI x.2.1 (X m.2) λj=>nm (m.2.getD j 0) λr=>jX x.2.1 λj=>ck (j<=X m.2)<|Y (qc fu m.1 m.2 r x.2.2 p 0 j) λd=>zI x.2.1 (X m.2) λj=>nm (m.2.getD j 0) λr=>zf (x.2.1+1) λe=>jX e λj=>ck (j<=X m.2)<|Y (qc fu d m.2 r x.2.2 p j<|X m.2-j) λd=>zf (x.2.1+1) λk=>zf (x.2.2+1) λc=>L ((d,m.2),k,c)else Z (x.1,x.2.1)else Z (x.1,x.2.1)
def EI(p:J)(N w:K)(M:K->Pz)(x:(xS (xS J)×xS K)×J×J):Prop:=
 ∃(R:K->Pz) (σ:K->K) (n c:K) (pv:K->K),x=((Zp N w R,U6 N σ),(n:J),(c:J))/\(∀s,s<N->∀k,0<=R s k/\R s k<p)/\Ps N σ/\DM p N w M (λi=>R<|σ i) n c pv
def EQ(p:J)(N w:K)(M:K->Pz)(y:(xS (xS J)×xS K)×J):Prop:=
 ∃(R:K->Pz) (σ:K->K) (n c:K) (pv:K->K),y=((Zp N w R,U6 N σ),(n:J))/\Ps N σ/\DM p N w M (λi=>R<|σ i) n c pv/\(n=N\/c=w)
def zkT{α:Type}{n:K}{k:K->V α}(h:0<n):zI (0:J) n k=k 0:=by
 rw[show 0=((0:K):J)from O,zo h]
def zec(hp:qk p=wL)(hN:N<=64)(hw:w<=64)(F:3000000<=fu){x:(xS (xS J)×xS K)×J×J}(hx:EI p N w M x):∃y,zg (zdA fu p) fu x=Z y/\EQ p N w M y:=by
 have⟨Q,p2⟩:=zw hp;refine yc (EI p N w M) (λx=>w-x.2.2.toNat) _ ?_ _ _ hx (by obtain⟨R,σ,n,c,pv,rfl,_⟩:=hx;show w-(c:J).toNat<fu;lia);rintro x L ⟨R,σ,n,c,pv,rfl,T,d,E⟩ ih;unfold zdA;simp only;have hq:=E.hn;have hr:=E.hc;rw[WJ];by_cases h1:n<N
 ·have hl:=d.lt 0 W;rw[zX,zkT W,S,uQ,qu hl,zZ];by_cases u:c<w
  ·rw[zX,yF,yW,zfO d.lt,zgT W,xaQ<|by rw[ZB];exact IR _];have hg:∀z∈Zp (N-n) w (λi=>R<|σ<|n+i),jD fu z (c:J)=Z (!decide (C z c=0)):=λz hz=>by
    obtain⟨j,o,rfl⟩:=xas.1 hz;unfold jD;rw[zo (by rw[zZ];exact u),S,QK];by_cases e:C (zl w<|R<|σ<|n+j) c=0
    ·rw[iq e,Wf e];rfl
    ·rw[ir e,Wl e];rfl
   rcases Nu (fu:=fu) (b:=λz=> !decide (C z c=0)) hg (by rw[ZB];lia) F with⟨g1,V⟩|⟨i,hi,g1,V,g3⟩
   ·rw[U g1,iq i0,zb];refine ih _ ⟨R,σ,n,c+1,pv,O,T,d,E.skip u λi h3 h4=> ?_⟩ (by show w-((c:J)+1).toNat<w-(c:J).toNat;lia);have g4:=V ((Zp (N-n) w<|λi=>R<|σ<|n+i).getD (i-n) [])<|Yx (by rw[ZB];lia) [];rw[qu W,uV u,(W:n+(i-n)=i)]at g4;show R (σ i) c=0;simpa using g4
   ·rw[ZB]at hi;rw[qu hi,uV u]at V;have G:R (σ<|n+i) c≠0:=by simpa using V
    have⟨τ,v⟩:∃τ:K->K,τ=λs=>if s=n+i then σ n else if s=n then σ (n+i)else σ s:=⟨_,O⟩;have hm:τ n=σ (n+i):=by
     rw[v];show(if n=n+i then σ n else if n=n then σ (n+i)else σ n)=_;by_cases e:n=n+i
     ·rw[iq e];exact ut σ e
     ·rw[ir e,iq O]
    have hc:Ps N τ:=by
     have hd:∀s,τ s=σ (if s=n+i then n else if s=n then n+i else s):=λs=>by
      rw[v];show(if s=n+i then σ n else if s=n then σ (n+i)else σ s)=_;by_cases e1:s=n+i
      ·rw[iq e1,iq e1]
      ·rw[ir e1,ir e1];by_cases h:s=n
       ·rw[iq h,iq h]
       ·rw[ir h,ir h]
     refine⟨λs hs=> ?_,λs t hs ht e=> ?_⟩
     ·rw[hd];refine d.lt _ ?_;split<;>(try split)<;>lia
     ·rw[hd,hd]at e;have:=d.ij _ _ (by split<;>(try split)<;>lia) (by split<;>(try split)<;>lia) e;split at this<;>(try split at this)<;>(try split at this)<;>(try split at this)<;>lia
    have hn:DM p N w M (λj=>R<|τ j) n c pv:=E.swap (a:=n+i) W W λj o=>by
     rw[v];show R (if j=n+i then σ n else if j=n then σ (n+i)else σ j)=if j=n then R (σ<|n+i)else if j=n+i then R (σ n)else R (σ j);by_cases h:j=n+i
     ·rw[iq h];by_cases e1:j=n
      ·rw[iq e1];have e3:n+i=n:=W
       rw[e3]
      ·rw[ir e1,iq h]
     ·rw[ir h];by_cases e1:j=n
      ·rw[iq e1,iq e1]
      ·rw[ir e1,ir e1,ir h]
    have hk:=hc.lt n h1;have⟨y1,y2⟩:=T (τ n) hk c;have⟨q,q1,q2,q3,q4⟩:=KE (fu:=fu) (a:=R (τ n) c) hp (by rw[hm]at y1 y2⊢;lia) y2 F;have e1:(n:J)+(i:J)=((n+i:K):J):=W
    have ho:(U6 N σ).set n (σ<|n+i)=U6 N λs=>if s=n then σ (n+i)else σ s:=A6;rw[U g1,zB,e1,zb,zb,z8,S,uQ,zo h1,S,uQ h1,zo h1,S,A6,WJ,z8,S,A6,WJ];rw[show(λs=>if s=n+i then σ n else if s=n then σ (n+i)else σ s)=τ from v.symm];rw[zo h1,S,uQ h1,qu hk,zZ,zo u,S,ks u,U q1];simp only;rw[zo h1,S,uQ h1,U<|zgF (fu:=fu) (n:=n) (r:=τ n) (q:=q) Q p2 T hk O h1 q2 q3 hw _ O _ O F];simp only;have⟨S1,Y⟩:∃S1:K->Pz,S1=λs=>if s=τ n then λk=>(R (τ n) k*q)%p else R s:=⟨_,O⟩;rw[<-Y];have r1:∀s,s<N->∀k,0<=S1 s k/\S1 s k<p:=λs hs k=>by
     rw[Y];show 0<=(if s=τ n then λk=>(R (τ n) k*q)%p else R s) k/\(if s=τ n then λk=>(R (τ n) k*q)%p else R s) k<p;by_cases e:s=τ n
     ·rw[iq e];exact xi (W:0<p)
     ·rw[ir e];exact T s hs k
    have a0:S1 (τ n)=λk=>(R (τ n) k*q)%p:=by rw[Y];exact iq O
    have H:∀j,j<N->j≠n->S1 (τ j)=R (τ j):=λj o G=>by rw[Y];exact ir λe=>G<|hc.ij _ _ o h1 e
    have⟨S2,t1,r2,t2⟩:=Hr (fu:=fu) (a:=c) (lo:=0) (n:=n) (t:=n) Q p2 r1 hc h1 (.inr W) W hN hw u F;have⟨S3,t3,r3,t4⟩:=Hr (fu:=fu) (a:=c) (lo:=n+1) (n:=N-(n+1)) (t:=n) Q p2 r2 hc h1 (.inl W) W hN hw u F;have P:S2 (τ n)=S1 (τ n):=by rw[t2 n h1,zB]
    have D:S3 (τ n)=S1 (τ n):=by rw[t4 n h1,zB,P]
    have h:(n:J)+1=((n+1:K):J):=W
    rw[WJ,zo h1,S,uQ h1,yF,yW,U t1,zo h1,S,uQ h1,h,zb,yF,yW,U t3,zb,zb];refine ih _ ⟨S3,τ,n+1,c+1,λi=>if i=n then c else pv i,O,r3,hc,?_⟩ (by show w-((c:J)+1).toNat<w-(c:J).toNat;lia);refine hn.step (q:=q) Q h1 u q4 (D.trans a0) λj o G=> ?_;show S3 (τ j)=stk p c (S3<|τ n) (R<|τ j);by_cases hu:j<n
    ·rw[t4 j o,zB,t2 j o,am ⟨W,W⟩,D,H j o G]
    ·rw[t4 j o,am ⟨W,W⟩,P,t2 j o,zB,D,H j o G]
  ·rw[zB];exact⟨_,O,R,σ,n,c,pv,O,d,E,.inr W⟩
 ·rw[zB];exact⟨_,O,R,σ,n,c,pv,O,d,E,.inl W⟩
def o6(hp:qk p=wL)(hd:X m=N)(D:N<=64)(o:∀r∈m,X r=w/\Rl r)(t:w<=64)(b:3000000<=fu):
 ∃(A:K->Pz) (n c:K) (pv:K->K),u5 fu m p=Z (Zp n w A,0)/\DM p N w (λi=>C<|m.getD i []) A n c pv/\(n=N\/c=w):=by
 have⟨V,E⟩:=zw hp;unfold u5;rw[U<|b7 hp W (λr F=>(o r F).1) t b,iq O];have⟨M,u⟩:∃M:K->Pz,M=λi=>C (m.getD i []):=⟨_,O⟩;rw[<-u];rw[U (v:=(Zp N w<|λi k=>M i k%p,U6 N λi=>i))]
 ·show∃A n c pv,Y (zg (zdA fu p) fu ((Zp N w<|λi k=>M i k%p,U6 N λi=>i),0,0)) _=_/\_;obtain⟨y,G,R,σ,n,c,pv,rfl,d,z,H⟩:=zec (fu:=fu) (M:=M) hp D t b (x:=((Zp N w<|λi k=>M i k%p,U6 N λi=>i),0,0)) ⟨_,_,0,0,λ_=>0,O,λs _ k=>xi,⟨λi hi=>hi,λi j _ _ h=>h⟩,zpo W⟩;have hn:=z.hn;refine⟨λi=>R<|σ i,n,c,pv,?_,z,H⟩;rw[U G];simp only;rw[yF,zfO d.lt,ZB,w8 hn,S,zfi hn]
 ·refine zA (λx:(xS (xS J)×xS K)×J=>∃i:K,i<=N/\x=((Zp i w<|λi k=>M i k%p,U6 i λi=>i),(i:J))) (λx=>N-x.2.toNat) _ ?_ _ _ ⟨0,xan _,O⟩ (by show N-0<fu;lia);rintro x L ⟨i,hi,rfl⟩ P;simp only;by_cases h:i<N
  ·have hc:=Yx (l:=m) (i:=i) W [];have⟨e1,Q⟩:=o _ hc;have T:Xm fu (m.getD i []) p=Z (zl w<|λk=>M i k%p):=by rw[AD W E Q W b,e1,u]
   rw[zX,z8,S,U T,WJ,yW,S,ZB,S,zb];refine P _ ⟨i+1,W,?_⟩ (by show N-((i:J)+1).toNat<N-(i:J).toNat;lia);rw[<-Rv,<-zfu];rfl
  ·rw[zB];obtain rfl:i=N:=W
   rfl
end
section
variable{fu w i N c0:wr}{p:wl}{M A:wr->Pz}
def dJ{n c:K}{pv:K->K}(h:DM p N w M A n c pv)(hi:i<n)(q:w<=64)(k:3000000<=fu):Vm fu (zl w<|A i)=Z (pv i:J):=by
 have hc:=h.lt i hi;have hd:=h.hc;unfold Vm;have m:∀z,(λd=>ZP fu d) z=Z (!decide (z=0)):=λz=>by
  show ZP fu z=_;unfold ZP;by_cases e:z=0
  ·simp_all
  ·simp_all
 have f:=h.on i hi;rcases zcI (fu:=fu) (l:=zl w<|A i) (b:=λz=> !decide (z=0)) m (by rw[zZ];lia) k with⟨g1,a⟩|⟨j,g,g1,a,o⟩
 ·exfalso;have:=a (pv i) (by rw[zZ];lia);rw[uV W,f]at this;simp_all
 ·rw[zZ]at g;rw[uV g]at a;have e:j=pv i:=by
   rcases Nat.lt_trichotomy j (pv i)with h1|h1|h1
   ·rw[h.ld i hi j h1]at a;exact wS a i0
   ·exact h1
   ·have:=o (pv i) h1;rw[uV W,f]at this;simp_all
  rw[U g1,e]
def ri(n:K)(pv:K->K)(c:K):qR:=(xaN n).all λi=> !E (pv i) c
theorem iE{n c:K}{pv:K->K}:ri n pv c=wL↔∀i,i<n->pv i≠c:=by grind [ri,Nat.beq_refl,xcL]
theorem Pg{n c:K}{pv:K->K}(h:DM p N w M A n c0 pv)(m:N<=64)(f:w<=64)(d:3000000<=fu):xW fu (Zp n w A) (λz=>jd fu z (c:J))=Z (!ri n pv c):=by
 have hn:=h.hn;unfold xW;have g:∀i,i<n->jd fu (zl w<|A i) (c:J)=Z (decide<|pv i=c):=λi hi=>by
  unfold jd;rw[U<|dJ h hi f d];by_cases e:pv i=c
  ·simp_all
  ·grind
 have⟨b,j⟩:∃b:xS J->qR,b=λz=>match jd fu z (c:J)with
  |some x=>x
  |none=>I:=⟨_,O⟩
 have hc:∀i,i<n->b (zl w<|A i)=decide (pv i=c):=λi hi=>by rw[j];simp only[g i hi]
 have k:∀z∈Zp n w A,(λz=>jd fu z (c:J)) z=Z (b z):=λz l=>by
  obtain⟨i,hi,rfl⟩:=xas.1 l;simp_all
 rcases Nu (fu:=fu) k (by rw[ZB];lia) d with⟨g1,a⟩|⟨i,hi,g1,a,o⟩
 ·rw[U g1,ir i0];have:ri n pv c=wL:=iE.2 λi hi e=>by
   have:=a _ (xbJ (xbg.2 hi):zl w (A i)∈Zp n w A);grind
  rw[this];rfl
 ·rw[ZB]at hi;rw[qu hi,hc i hi]at a;rw[U g1,zX];have:ri n pv c=I:=by
   cases hd:ri n pv c with
   |false=>rfl
   |true=>exact wS (Ws a)<|iE.1 hd i hi
  rw[this];rfl
def AQ(p:J)(A:K->Pz)(pv:K->K)(c:K):K->Pz
 |0=>λk=>if k=c then 1 else 0
 |i+1=>Xh (AQ p A pv c i) (pv i) (-A i c%p)
theorem zmP{n c:K}{pv:K->K}{t2:xS (xS J)}{i4:J}(h1:2<=p)(b:p<=65521)(h:DM p N w M A n c0 pv)(g:N<=64)(d:w<=64)(hc:c<w)(e:3000000<=fu):
 zg (KZ fu (c:J) (w:J) p (Zp n w A) i4) fu (0,t2,zl w<|AQ p A pv c 0)=Z (t2,zl w<|AQ p A pv c n):=by
 have hn:=h.hn;have j:=h.hc;refine zA (λs:J×xS (xS J)×xS J=>∃i:K,i<=n/\s=((i:J),t2,zl w<|AQ p A pv c i)) (λs=>n-s.1.toNat) _ ?_ _ _ ⟨0,xan _,O⟩ (by show n-0<fu;lia);rintro s L ⟨i,hi,rfl⟩ f;unfold KZ;simp only;have hd:∀{β:Type} (x:β) (k:β->V (xS (xS J)×xS J)),Y (Z x) k=k x:=λ_ _=>O;by_cases a:i<n
 ·have l:=h.lt i a;have⟨m,o⟩:=h.rg i W c;rw[iq (by rw[ZB];lia),hd];simp only[uP];rw[zo (by rw[ZB];exact a),S,qu a,U<|dJ h a d e,zo (by rw[zZ];exact hc),S,ks hc,zb,U<|YK W b ⟨W,W⟩,zo (by rw[zZ];lia),S,ZK,zb];refine f _ ⟨i+1,W,?_⟩ (by show n-((i:J)+1).toNat<n-(i:J).toNat;lia);rw[Int.zero_sub];rfl
 ·rw[ir (by rw[ZB];lia),hd];grind
def pQ(n:K)(pv:K->K)(w:K):xS K:=(xaN w).filter<|ri n pv
theorem Cm(n:K)(pv:K->K)(w:K):pQ n pv (w+1)=if ri n pv w=wL then pQ n pv w++[w]else pQ n pv w:=by grind [pQ,xdk]
def zev(n:K)(pv:K->K)(w:K):X (pQ n pv w)<=w:=by
 have:=xfN (ri n pv)<|xaN w;rw[xev]at this;exact this
def Cq{m:xS (xS J)}(hp:qk p=wL)(l:X m=N)(e:N<=64)(f:∀r∈m,X r=w/\Rl r)(a:w<=64)(b:3000000<=fu):
 ∃(A:K->Pz) (n c:K) (pv:K->K),Vg fu m (w:J) p=Z ((pQ n pv w).map λc=>zl w<|AQ p A pv c n,0)/\DM p N w (λi=>C<|m.getD i []) A n c pv/\(n=N\/c=w):=by
 have⟨o,q⟩:=zw hp;have⟨A,n,c,pv,e1,d,t⟩:=o6 (fu:=fu) hp l e f a b;refine⟨A,n,c,pv,?_,d,t⟩;have hn:=d.hn;unfold Vg;rw[U (v:=Sum.inl ())]
 ·simp only;rw[U e1];simp only;rw[U (v:=(pQ n pv w).map λc=>zl w<|AQ p A pv c n)];refine zA (λs:xS (xS J)×J=>∃k:K,k<=w/\s=((pQ n pv k).map λc=>zl w<|AQ p A pv c n,(k:J))) (λs=>w-s.2.toNat) _ ?_ _ _ ⟨0,xan _,O⟩ (by show w-0<fu;lia);rintro s L ⟨k,z,rfl⟩ g;unfold gX;simp only;have h:∀{β:Type} (x:β) (k:β->V (xS<|xS J)),Y (Z x) k=k x:=λ_ _=>O;by_cases hc:k<w
  ·rw[zX,h];simp only[uP];rw[U<|Pg (c:=k) d e a b]
   cases hd:ri n pv k with
   |false=>
    rw[show(!I)=wL from O,iq O,zb];refine g _ ⟨k+1,W,?_⟩ (by show w-((k:J)+1).toNat<w-(k:J).toNat;lia);rw[Cm,ir<|by rw[hd];decide];rfl
   |true=>
    have B:=zev n pv k;have u:zl w (Xh (λ_=>0) k 1)=zl w (AQ p A pv k 0):=yU λj _=>by unfold Xh;rfl
    rw[show(!wL)=I from O,ir i0,yF,yW,S,dk,zo (by rw[zZ];exact hc),S,ZK,u,U<|zmP (i4:=(w:J)) o q d e a hc b];simp only;rw[w8 (by rw[xaj];simp;lia),S,zb];refine g _ ⟨k+1,W,?_⟩ (by show w-((k:J)+1).toNat<w-(k:J).toNat;lia);rw[Cm,iq hd,xaY];rfl
  ·rw[zB,h];simp only[xao,uS];obtain rfl:k=w:=W
   rfl
 ·rw[U<|b7 hp W (λr y=>(f r y).1) a b,iq O,zB,zB];by_cases h0:0<X m
  ·have D:=(f _<|Yx h0 []).1;rw[zX,zkT h0,S,zX]
  ·rw[zB]
def mW{p:J}{A:K->Pz}{pv:K->K}{c k:K}:∀{n:K},(∀i,i<n->pv i≠k)->AQ p A pv c n k=if k=c then 1 else 0
 |0,_=>rfl
 |n+1,h=>by
  show Xh (AQ p A pv c n) (pv n) _ k=_;unfold Xh;rw[ir<|λe=>h n W e.symm];exact mW λi hi=>h i W
def A8{p:J}{A:K->Pz}{pv:K->K}{c i:K}:∀{n:K},i<n->(∀j,j<n->j≠i->pv j≠pv i)->AQ p A pv c n (pv i)= -A i c%p
 |0,h,_=>by lia
 |n+1,h,hd=>by
  show Xh (AQ p A pv c n) (pv n) _ (pv i)=_;unfold Xh;by_cases e:i=n
  ·simp_all
  ·rw[ir<|λa=>hd n W (λb=>e b.symm) a.symm];exact A8 W λj f d=>hd j W d
def DM.pv_ne{n c:K}{pv:K->K}(h:DM p N w M A n c pv){j:K}(hi:i<n)(a:j<n)(b:j≠i):pv j≠pv i:=λe=>by
 have h1:=h.on i hi;have hn:=h.hn;have f:=h.no j a i W λd=>b d.symm;simp_all
def zbW{p:J}(hp:2<=p){A:K->Pz}{pv:K->K}{c:K}:∀(n k:K),0<=AQ p A pv c n k/\AQ p A pv c n k<p
 |0,k=>by
  show 0<=(if k=c then 1 else 0)/\(if k=c then 1 else 0)<p;lia
 |n+1,k=>by
  show 0<=Xh (AQ p A pv c n) (pv n) (-A n c%p) k/\Xh (AQ p A pv c n) (pv n) (-A n c%p) k<p;unfold Xh;split
  ·exact xi
  ·exact zbW hp n k
theorem zbq(n:K)(pv:K->K)(F:K->J):∀w,yh (X (pQ n pv w)) (λj=>F<|(pQ n pv w).getD j 0)=yh w λc=>if ri n pv c=wL then F c else 0
 |0=>rfl
 |w+1=>by
  have a:=zbq n pv F w;show _=yh w _+(if ri n pv w=wL then F w else 0);rw[Cm];by_cases h:ri n pv w=wL
  ·rw[iq h,xaw,<-a];show yh (X (pQ n pv w)) _+F ((pQ n pv w++[w]).getD (X (pQ n pv w)) 0)=_;congr 1
   ·exact yr λj b=>by grind
   ·simp_all
  ·simp_all
def zfh{n c:K}{pv:K->K}(h:DM p N w M A n c pv)(hi:i<n)(e:K->J):dt w (A i) e=e (pv i)+yh w λk=>if ri n pv k=wL then A i k*e k else 0:=by
 have l:=h.lt i hi;have m:=h.hc;have hn:=h.hn;have h1:dt w (A i) e=yh w (λk=>(if k=pv i then e k else 0)+if ri n pv k=wL then A i k*e k else 0):=by
  refine yr λk f=> ?_;by_cases e1:k=pv i
  ·have a:=λa=>iE.1 a i hi e1.symm;rw[iq e1,ir a,e1,h.on i hi,xdg,xcd]
  ·rw[ir e1];by_cases a:ri n pv k=wL
   ·simp_all
   ·rw[ir a,xcd];have⟨j,d,b⟩:∃j,j<n/\pv j=k:=by
     apply xai;intro hc;exact a<|iE.2 λj d b=>hc ⟨j,d,b⟩
    have hd:i≠j:=λg=>by rw[<-g]at b;exact e1 b.symm
    rw[<-b,h.no j d i W hd,xbd]
 rw[h1,YU,wA<|λk f=>ir f,zX,iq O]
def zlK(hp:2<=p){n:K}{pv:K->K}(h:DM p N w M A n c0 pv)(hd:n=N\/c0=w){c:K}(hc:c<w)(hl:ri n pv c=wL):Kr p N w M (AQ p A pv c n):=(h.kr _).1 λi hi=>by
 by_cases a:i<n
 ·rw[zfh h a,A8 a λj f l=>h.pv_ne (i:=i) (j:=j) a f l];have m:yh w (λk=>if ri n pv k=wL then A i k*AQ p A pv c n k else 0)=A i c:=by
   rw[yr (g:=λk=>if k=c then A i k else 0) λk b=>by
    by_cases d:ri n pv k=wL
    ·rw[iq d,mW<|iE.1 d];by_cases e:k=c
     ·simp_all
     ·simp_all
    ·rw[ir d];by_cases e:k=c
     ·simp_all
     ·rw[ir e],wA (i:=c)<|λk b=>ir b,iq hc,iq O]
  rw[m];refine xaH ?_;rw[Int.emod_add_emod,(W:-A i c+A i c=0),xau]
 ·obtain he|he:=hd
  ·lia
  ·have:dt w (A i) (AQ p A pv c n)=0:=by
    unfold dt;rw[yL λk b=>by rw[h.zr i W hi k W,xbd]]
   simp_all
theorem zjE(hp:2<=p){n:K}{pv:K->K}(h:DM p N w M A n c0 pv){e:K->J}(f:Kr p N w M e){k:K}(l:k<w):
 e k%p=yh (X (pQ n pv w)) (λj=>e ((pQ n pv w).getD j 0)*AQ p A pv ((pQ n pv w).getD j 0) n k)%p:=by
 rw[zbq n pv (λc=>e c*AQ p A pv c n k) w];by_cases d:ri n pv k=wL
 ·congr 1;rw[yr (g:=λc=>if c=k then e c else 0) λc hc=>by
   rw[mW<|iE.1 d];by_cases e1:c=k
   ·simp_all
   ·rw[ir e1,ir (λh:k=c=>e1 h.symm),xaA,ite_self],wA (i:=k)<|λc hc=>ir hc,iq l,iq O]
 ·obtain⟨i,hi,rfl⟩:∃i,i<n/\pv i=k:=by
   apply xai;intro hd;exact d<|iE.2 λj b m=>hd ⟨j,b,m⟩
  have hn:=h.hn;have h1:=(h.kr e).2 f i W;rw[zfh h hi]at h1;have o:yh w (λc=>if ri n pv c=wL then e c*AQ p A pv c n (pv i)else 0)%p=(-(yh w λk=>if ri n pv k=wL then A i k*e k else 0))%p:=by
   have q: -(yh w λk=>if ri n pv k=wL then A i k*e k else 0)=yh w λk=> -1*(if ri n pv k=wL then A i k*e k else 0):=by rw[Zb];lia
   rw[q];refine gl λc hc=> ?_;by_cases a:ri n pv c=wL
   ·rw[iq a,iq a,A8 hi λj b hl=>h.pv_ne (i:=i) (j:=j) hi b hl,xci,xaW,<-xci];grind
   ·rw[ir a,ir a,xaA]
  rw[o];refine xaO.2<|xaz ?_;rw[Int.sub_neg];exact h1
end
section
variable{N w r fu P:wr}{R:wr->Pz}{m:xS wl}
def Mw(h:r<N):(([]:xS J)::Zp N w R).getD (r+1) []=zl w (R r):=qu h
theorem zeF{g:Pz}:(([]:xS J)::Zp N w R).set (r+1) (zl w g)=[]::Zp N w λs=>if s=r then g else R s:=by grind [IQ]
theorem zmv{c:K}{h:xS J}(f:w<=64)(hc:c<w)(hl:X h<=w)(b:J)(d:b=(c:J))(g:3000000<=fu):
 zg (λL (y:(xS (xS J)×xS K)×J)=>
 if y.2<(X h:J)then
  zI y.2 (X h) λj=>
  B (h.getD j 0) λv=>
  zI y.2 (X y.1.2) λj=>
  B (y.1.2.getD j 0) λr=>
  zI b (X (y.1.1.getD r [])) λj=>
  B (y.1.1.set r<|(y.1.1.getD r []).set j v) λa=>
  zf (y.2+1) λi=>L ((a,y.1.2),i)
 else Z y.1) fu (([]::Zp w w R,U6 w λi=>i+1),0)=Z ([]::Zp w w λs=>if s<X h then Xh (R s) c (C h s)else R s,U6 w λi=>i+1):=by
 subst d;refine zA (λy:(xS (xS J)×xS K)×J=>∃i:K,i<=X h/\y=(([]::Zp w w λs=>if s<i then Xh (R s) c (C h s)else R s,U6 w λi=>i+1),(i:J))) (λy=>X h-y.2.toNat) _ ?_ _ _ ⟨0,xan _,by rw[Zv (R:=R) (S:=λs=>if s<0 then Xh (R s) c (C h s)else R s) λs _ k _=>by rw[zB]];rfl⟩ (by show X h-0<fu;lia);rintro y L ⟨i,hi,rfl⟩ e;simp only;by_cases h1:i<X h
 ·rw[zX,zo h1,ze,QK,WJ,z8,ze,uQ,Mw W,zZ,zo hc,ze,ZK,zeF,zB,zb];refine e _ ⟨i+1,W,?_⟩ (by show X h-((i:J)+1).toNat<X h-(i:J).toNat;lia);grind
 ·grind
def JN(a:K->xS J)(c:K):K->Pz:=λi k=>if k<c then C (a k) i-(if i=k then 1 else 0)else 0
def En{a b:xS J}{p:J}(hp:qk p=wL)(e:Fp p a)(c:vB p b)(hc:X a<=90000)(hd:X b<=90000)(f:3000000<=fu):
 ∃q r,j7 fu a b p=Z (q,r,0)/\Fp p r/\Cg p (C a) (C q*C b+C r)/\X r<X b:=by
 have⟨j,d⟩:=zw hp;have⟨q,r,e1,k,g,h,i,l⟩:=xJ hp e c.fm c.ln hc hd f;refine⟨q,r,?_,g,h,i⟩;unfold j7;rw[U<|uK hp,iq O,U<|zL W d (c.fm.rl d) W f,c.fm.pm,zB,U<|zL W d (e.rl d) W f,e.pm,U e1]
def zd3(fu:K)(f:xS J)(p n:J):(((xS (xS J)×xS K)×xS J×xS J×J)->V (xS (xS J)×xS K))->((xS (xS J)×xS K)×xS J×xS J×J)->V (xS (xS J)×xS K):=λL (x:(xS (xS J)×xS K)×xS J×xS J×J)=>if x.2.2.2<n then Y (zg (λL (y:(xS (xS J)×xS K)×J)=>if y.2<(X x.2.1:J)then zI y.2 (X x.2.1) λj=>B (x.2.1.getD j 0) λv=>zI y.2 (X y.1.2) λj=>B (y.1.2.getD j 0) λr=>zI x.2.2.2 (X (y.1.1.getD r [])) λj=>B (y.1.1.set r<|(y.1.1.getD r []).set j v) λa=>zf (y.2+1) λi=>L ((a,y.1.2),i)else Z y.1) fu (x.1,0)) λy=>zI x.2.2.2 (X y.2) λj=>B (y.2.getD j 0) λr=>zI x.2.2.2 (X (y.1.getD r [])) λj=>B ((y.1.getD r []).getD j 0) λv=>zf (v-1) λe=>zI x.2.2.2 (X (y.1.getD r [])) λj=>B (y.1.set r<|(y.1.getD r []).set j e) λa=>Y (kh fu x.2.1 x.2.2.1 p) λu=>Y (j7 fu u.1 f p) λw=>zf (x.2.2.2+1) λi=>L ((a,y.2),w.2.1,x.2.2.1,i)else Z x.1
def zlQ:((U6 N λi=>i+1).map λr=>(([]:xS J)::Zp N w R).getD r [])=Zp N w R:=by
 show((xaN N).map λi=>i+1).map _=(xaN N).map _;rw[xcN];exact xbZ λi hi=>Mw<|xbg.1 hi
def FxI(P:K)(m x:xS J)(w:K)(y:(xS (xS J)×xS K)×xS J×xS J×J):Prop:=
 ∃(a:K->xS J) (c:K),y=(([]::Zp w w (JN a c),U6 w λi=>i+1),a c,x,(c:J))/\c<=w/\∀k,k<=c->Fp (P:J) (a k)/\X (a k)<=w/\Em (P:J) m (pp (pp vx P) k) (C<|a k)
def zf6{x:xS J}(hp:qk (P:J)=wL)(o:vB (P:J) m)(hi:X m=w+1)(B:1<=w)(q:w<=64)(t:Fp (P:J) x)(hl:X x<=w)(hd:Em (P:J) m (pp vx P) (C x))(h:3000000<=fu){y:(xS (xS J)×xS K)×xS J×xS J×J}(j:FxI P m x w y):
 ∃r,zg (zd3 fu m P (w:J)) fu y=Z r/\∃a:K->xS J,r=([]::Zp w w (JN a w),U6 w λi=>i+1)/\∀k,k<=w->Fp (P:J) (a k)/\X (a k)<=w/\Em (P:J) m (pp (pp vx P) k) (C<|a k):=by
 have⟨D,E⟩:=zw hp;refine yc (FxI P m x w) (λy=>w-y.2.2.2.toNat) _ ?_ _ _ j (by obtain⟨a,c,rfl,_⟩:=j;show w-(c:J).toNat<fu;lia);rintro y L ⟨a,c,rfl,hc,d⟩ u;unfold zd3;simp only;by_cases h1:c<w
 ·have⟨k1,k2,v⟩:=d c<|IR _;have F:=k1.nn c;have hn:=k1.lt c;have⟨R,f⟩:∃R:K->Pz,R=λs=>if s<X (a c) then Xh (JN a c s) c (C (a c) s)else JN a c s:=⟨_,O⟩;have l:∀s,R s c=C (a c) s:=λs=>by
   rw[f];show(if s<X (a c) then Xh (JN a c s) c (C (a c) s)else JN a c s) c=_;by_cases e:s<X (a c)
   ·rw[iq e];exact iq O
   ·rw[ir e,yp W];exact zB
  have z:∀s k,k≠c->R s k=JN a c s k:=λs k g=>by
   rw[f];show(if s<X (a c) then Xh (JN a c s) c (C (a c) s)else JN a c s) k=_;by_cases e:s<X (a c)
   ·rw[iq e];exact ir g
   ·rw[ir e]
  have G:=jw (P:J) (a c) x;have⟨q2,r2,d1,d2,d3,d4⟩:=En (fu:=fu) hp (qY (p:=(P:J)) W (a c) x) o W W h;rw[zX,U<|zmv (fu:=fu) (R:=JN a c) q h1 k2 _ O h,<-f];simp only;rw[WJ,zo h1,ze,uQ h1,Mw h1,zZ,zo h1,ze,ks h1,l,zb,zo h1,ze,ZK,zeF,U<|Zf hp k1 t,U d1];simp only;rw[zb];refine u _ ⟨λk=>if k=c+1 then r2 else a k,c+1,?_,W,λk g=> ?_⟩ (by show w-((c:J)+1).toNat<w-(c:J).toNat;lia)
  ·show _=((_,_),(if c+1=c+1 then r2 else a (c+1)),x,_);rw[iq O,Zv (S:=JN (λk=>if k=c+1 then r2 else a k)<|c+1) λs H k g=>by
    show(if s=c then Xh (R c) c (C (a c) c-1)else R s) k=if k<c+1 then C (if k=c+1 then r2 else a k) s-(if s=k then 1 else 0)else 0;by_cases e1:k=c
    ·rw[e1,show(if c<c+1 then C (if c=c+1 then r2 else a c) s-(if s=c then(1:J)else 0)else 0)=C (a c) s-(if s=c then(1:J)else 0)by rw[zX,zB]];by_cases b:s=c
     ·rw[iq b,iq b,b];exact iq O
     ·rw[ir b,ir b,l,xdi]
    ·have A:(if s=c then Xh (R c) c (C (a c) c-1)else R s) k=R s k:=by
      by_cases b:s=c
      ·rw[iq b,b];exact ir e1
      ·rw[ir b]
     rw[A,z s k e1];unfold JN;by_cases n:k<c
     ·rw[iq n,show(if k<c+1 then C (if k=c+1 then r2 else a k) s-(if s=k then(1:J)else 0)else 0)=C (a k) s-(if s=k then(1:J)else 0)by rw[zX,zB]]
     ·rw[ir n,ir (W:¬k<c+1)]]
   rfl
  ·show Fp (P:J) (if k=c+1 then r2 else a k)/\X (if k=c+1 then r2 else a k)<=w/\Em (P:J) m (pp (pp vx P) k) (C (if k=c+1 then r2 else a k));by_cases e:k=c+1
   ·rw[iq e,e];refine⟨d2,W,?_⟩;show Em (P:J) m (pp (pp vx P) c*pp vx P) (C r2);exact(Em.mul ((Fs.vx.pp P).pp c) (Fs.ci x) v hd).trans<|(Em.cg (Zx (P:J) (a c) x).symm).trans<|Em.rest d3
   ·rw[ir e];exact d k W
 ·rw[zB];obtain rfl:c=w:=W
  exact⟨_,O,a,O,d⟩
def o7(hp:qk (P:J)=wL)(d:vB (P:J) m)(j:X m=w+1)(hc:1<=w)(l:w<=64)(c:3000000<=fu):
 ∃b:K->xS J,YV fu m P=Y (Vg fu (Zp w w<|JN b w) (w:J) P) (λr=>Z r.1)/\∀k,k<=w->Fp (P:J) (b k)/\X (b k)<=w/\Em (P:J) m (pp (pp vx P) k) (C<|b k):=by
 have⟨z,A⟩:=zw hp;have cx:C [0,1]=vx:=by
  funext k
  match k with
  |0=>rfl
  |1=>rfl
  |k+2=>rw[yp i7];exact(show(if k+2=1 then(1:J)else 0)=0 from zB).symm
 have fx:Fp (P:J) [0,1]:=⟨λk=>by rw[cx];show 0<=(if k=1 then(1:J)else 0);split<;>lia,λk=>by rw[cx];show(if k=1 then(1:J)else 0)<P;split<;>lia,.inr i0⟩;have n:Fp (P:J) [1]:=VR;have⟨x,o,p,B,f⟩:=KF (fu:=fu) (w:=[0,1]) (a:=m) (E:=P) hp fx d i0 W W W c;rw[cx]at f;have hd:Zp w w (JN (λ_=>[1]) 0)=Zp w w (λ_ _=>0):=Zv λs _ k _=>zB;obtain⟨r,g,b,rfl,q⟩:=zf6 (fu:=fu) hp d j hc l p W f c (y:=(([]::Zp w w (JN (λ_=>[1]) 0),U6 w λi=>i+1),[1],x,0)) ⟨λ_=>[1],0,O,xan _,λk D=>⟨n,by simp;lia,by
  obtain rfl:k=0:=W
  show Em (P:J) m (F 1) (C [1]);rw[jQ];exact Em.rfl⟩⟩
 rw[hd]at g;refine⟨b,?_,q⟩;unfold YV;rw[zb,(W:(X m:J)-1=(w:J)),yF,yW,S,U (v:=([]::Zp w w (λ_ _=>0),U6 w λi=>i+1))]
 ·rw[U<|yi ⟨W,W⟩ c,U o];show Y (zg (zd3 fu m P (w:J)) fu (([]::Zp w w (λ_ _=>0),U6 w λi=>i+1),[1],x,0)) _=_;rw[U g];simp only;rw[zlQ]
 ·have t:xaa w 0=U6 w λs=>if s<0 then s+1 else 0:=by
   unfold U6;rw[show(λs=>if s<0 then s+1 else 0)=λ_=>0 from jp λs=>zB,List.map_const',xev]
  rw[t];refine zA (λx:(xS (xS J)×xS K)×J=>∃i:K,i<=w/\x=(([]::Zp i w (λ_ _=>0),U6 w λs=>if s<i then s+1 else 0),(i:J))) (λx=>w-x.2.toNat) _ ?_ _ _ ⟨0,xan _,O⟩ (by show w-0<fu;lia);rintro x L ⟨i,hi,rfl⟩ u;simp only;rw[WJ];by_cases h1:i<w
  ·rw[zX,yF,yW,S,dk,WJ,zo h1,S,xbC,Rv i w<|λ_ _=>0,S,A6,xax,ZB,zb];refine u _ ⟨i+1,W,?_⟩ (by show w-((i:J)+1).toNat<w-(i:J).toNat;lia);have:(λs=>if s=i then i+1 else if s<i then s+1 else 0)=λs=>if s<i+1 then s+1 else 0:=jp λs=>by
    by_cases e:s=i
    ·rw[iq e,zX,e]
    ·rw[ir e];by_cases h:s<i
     ·rw[iq h,zX]
     ·rw[ir h,zB]
   rw[this];rfl
  ·rw[zB];obtain rfl:i=w:=W
   congr 2;unfold U6;exact xbZ λs b=>iq<|xbg.1 b
end
section
variable{m:xS wl}{P w:wr}
def Di.short{p:J}(hp:2<=p)(a:vB p m){f:Pz}(b:∀k,X m-1<=k->f k=0)(h:Di p (C m) f):Cg p f (F 0):=by
 have⟨q,fq,hc⟩:=h;have:=a.mn.zero hp fq λk c=>by rw[<-hc k,b k c,xau]
 exact hc.trans<|this.mul_zero_r _
def IG(F:K->Pz)(k:K):∀n,smP n F k=yh n λi=>F i k
 |0=>by show pc 0 k=0;unfold pc;split<;>rfl
 |n+1=>by
  show(smP n F+F n) k=yh n (λi=>F i k)+F n k;rw[zU,IG F k n]
def Em.smP{p:J}{a:N J}{F G:K->Pz}:∀n,(∀i,i<n->Em p a (F i) (G i))->Em p a (smP n F) (smP n G)
 |0,_=>Em.rfl
 |n+1,h=>(Di.add (Em.smP n λi hi=>h i W)<|h n W).cg (Cg.of (jp λk=>by
  show(Go.Proofs.YtoegnnjcmlghhaaGreat.smP n F k-Go.Proofs.YtoegnnjcmlghhaaGreat.smP n G k)+(F n k-G n k)=(Go.Proofs.YtoegnnjcmlghhaaGreat.smP n F k+F n k)-(Go.Proofs.YtoegnnjcmlghhaaGreat.smP n G k+G n k);lia))
theorem zaN{a:K->N J}(hp:qk (P:J)=wL)(o:vB (P:J) m)(hc:X m=w+1)(d:∀k,k<=w->Fp (P:J) (a k)/\X (a k)<=w/\Em (P:J) m (pp (pp vx P) k) (C<|a k)){e:Pz}(f:∀k,w<=k->e k=0):
 Di (P:J) (C m) (pp e P-e)↔∀s,s<w->(P:J)∣dt w (JN a w s) e:=by
 have⟨q,r⟩:=zw hp;have hn:=X4 hp;rw[xbe]at hn;let S:Pz:=smP w λi=>F (e i)*C (a i)
 have h1:Em (P:J) m (pp e P) S:=(Em.cg<|zoa W hn f).trans<|Em.smP w λi hi=>Em.mul (Fs.pc _) (Fs.ci _) Em.rfl (d i W).2.2;have j:∀k,w<=k->(S-e) k=0:=λk b=>by
  show S k-e k=0;rw[f k b,show S k=yh w λi=>(F (e i)*C (a i)) k from IG _ k w,yL λi hi=>by rw[zN,yp (by have:=(d i W).2.1;lia),xaA]];rfl
 have l:∀s,s<w->dt w (JN a w s) e=(S-e) s:=λs c=>by
  show yh w (λk=>(if k<w then C (a k) s-(if s=k then 1 else 0)else 0)*e k)=S s-e s;rw[show S s=yh w λi=>(F (e i)*C (a i)) s from IG _ s w,yr (g:=λk=>(F (e k)*C (a k)) s+(if k=s then-e k else 0)) λk b=>by
   rw[iq b,zN];by_cases h:k=s
   ·grind
   ·rw[ir<|λg=>h g.symm,ir h,xdi,xcd,xbE],YU,wA (i:=s)<|λk b=>ir b,iq c,iq O]
  lia
 have p:Di (P:J) (C m) (pp e P-e)↔Di (P:J) (C m) (S-e):=⟨λh=>(h1.symm.trans (show Em _ _ _ e from h):Em _ _ _ e),λh=>(h1.trans (show Em _ _ _ e from h):Em _ _ _ e)⟩;rw[p];constructor
 ·intro h s c;have:=Di.short W o (λk b=>j k W) h;rw[l s c];have n:=this s;rw[zQ,xau]at n;exact xaH n
 ·intro h;refine(Di.zero _ _).cg λs=> ?_;rw[zQ,xau];symm;by_cases c:s<w
  ·rw[<-l s c];exact xaz<|h s c
  ·rw[j s W,xau]
def zia(hp:qk (P:J)=wL):P=2\/P%2=1:=by
 have⟨a,b⟩:=zw hp;have hn:=X4 hp;by_cases h:P=2
 ·lia
 ·have:=hn 2 W;by_cases c:4<=P
  ·lia
  ·lia
def Ar{fu:K}(hp:qk (P:J)=wL)(x:vB (P:J) m)(hn:X m=w+1)(S:1<=w)(z:w<=64)(D:3000000<=fu):
 ∃bs,YV fu m P=Z bs/\1<=X bs/\X bs<=w/\(∀v∈bs,Rl v/\X v=w)/\Bs P m (λi=>C<|bs.getD i []) (X bs)/\∃c:J,Cg (P:J) (C<|bs.getD 0 []) (pc c):=by
 have⟨p1,p2⟩:=zw hp;have⟨b,h1,t⟩:=o7 (fu:=fu) hp x hn S z D;have T:∀s k,KH (JN b w s k):=λs k=>by
  show KH (if k<w then C (b k) s-(if s=k then 1 else 0)else 0);by_cases h:k<w
  ·rw[iq h];have f:=(t k W).1;have f1:=f.nn s;have f2:=f.lt s;split
   ·exact⟨W,W⟩
   ·exact⟨W,W⟩
  ·rw[ir h];exact⟨W,W⟩
 have⟨A,n,c,pv,e1,o,V⟩:=Cq (fu:=fu) (N:=w) (w:=w) (m:=Zp w w<|JN b w) hp (ZB _ _ _) z (λr E=>by
  unfold Zp at E;obtain⟨s,_,rfl⟩:=xas.1 E;refine⟨zZ _ _,λk=> ?_⟩;by_cases a:k<w
  ·rw[uV a];exact T s k
  ·rw[yp<|by rw[zZ];lia];exact⟨W,W⟩) z D
 have B:∀e:Pz,Kr (P:J) w w (λi=>C<|(Zp w w<|JN b w).getD i []) e↔∀s,s<w->(P:J)∣dt w (JN b w s) e:=λe=>forall_congr' λs=>imp_congr_right λhc=>by rw[show dt w (C<|(Zp w w<|JN b w).getD s []) e=dt w (JN b w s) e from yr λk a=>by rw[qu hc,uV a]]
 let F:K->xS J:=λc=>zl w<|AQ (P:J) A pv c n
 have G:∀i,i<X (pQ n pv w)->(pQ n pv w).getD i 0<w/\ri n pv ((pQ n pv w).getD i 0)=wL:=λi hi=>by
  rw[FS,xab hi,xdq];have:=xbQ hi;have d:=xcg.1 this;exact⟨xbg.1 d.1,d.2⟩
 have q:∀i,i<X (pQ n pv w)->((pQ n pv w).map F).getD i []=F ((pQ n pv w).getD i 0):=λi hi=>by rw[FS,FS,xbV,xab hi];rfl
 have H:∀i,i<w->(P:J)∣A i 0:=by
  have h0:Kr (P:J) w w A λk=>if k=0 then 1 else 0:=(o.kr _).2 ((B _).2 λs hc=>by
   show(P:J)∣yh w λk=>JN b w s k*(if k=0 then 1 else 0);rw[wA (i:=0) (λk a=>by rw[ir a,xaA]),zX,iq O,xcY];show(P:J)∣(if 0<w then C (b 0) s-(if s=0 then 1 else 0)else 0);rw[zX];have g:=(t 0<|xan _).2.2;have g1:Cg (P:J) (pc 1-C (b 0)) (pc 0):=Di.short W x (λk a=>by
    rw[yX,yp (by have:=(t 0<|xan _).2.1;lia)];show pc 1 k-0=0;unfold pc;rw[zB];rfl) g
   have L:=g1 s;rw[yX,zQ,xau]at L;have M:=xaH L;have Y:(pc 1 s:J)=if s=0 then 1 else 0:=O;rw[Y]at M;have:=Int.dvd_neg.2 M;rw[Int.neg_sub]at this;exact this)
  intro i hi;have:(P:J)∣yh w λk=>A i k*(if k=0 then 1 else 0):=h0 i hi;rw[wA (i:=0) (λk a=>by rw[ir a,xaA]),zX,iq O,xcY]at this;exact this
 have ht:ri n pv 0=wL:=iE.2 λi hi h=>by
  have d:=o.on i hi;rw[h]at d;have Q:=H i (by have:=o.hn;lia);rw[d]at Q;have:=Int.le_of_dvd W Q;lia
 have hA:∃l,pQ n pv w=0::l:=by
  obtain⟨u,rfl⟩:∃u,w=u+1:=⟨w-1,W⟩;unfold pQ;rw[List.range_succ_eq_map,xfP,iq ht];exact⟨_,O⟩
 have⟨l,hl⟩:=hA;refine⟨(pQ n pv w).map F,by rw[h1,U e1],by rw[hl];simp,by rw[xaj];exact zev n pv w,λv hv=> ?_,⟨zia hp,W,λe he hd=> ?_,λi hi k a=> ?_,λi hi=> ?_⟩,1,?_⟩
 ·obtain⟨c,_,rfl⟩:=xas.1 hv;refine⟨λk=> ?_,zZ _ _⟩;by_cases a:k<w
  ·show KH (C (zl w _) k);rw[uV a];have:=zbW (p:=(P:J)) W (A:=A) (pv:=pv) (c:=c) n k;exact⟨W,W⟩
  ·rw[yp (by show(zl w _).length<=k;rw[zZ];lia)];exact⟨W,W⟩
 ·have R:∀k,w<=k->e k=0:=λk a=>he k W;refine⟨λi=>e<|(pQ n pv w).getD i 0,λk=> ?_⟩;rw[IG,xaj];by_cases a:k<w
  ·rw[zjE W o ((B e).2<|(zaN hp x hn t R).1 hd) a];congr 1;refine yr λi hi=> ?_;rw[zN,q i hi];show _=_*C (zl w _) k;rw[uV a]
  ·rw[R k W,yL λi hi=>by
    rw[zN,q i hi];show _*C (zl w _) k=0;rw[yp (by rw[zZ];lia),xaA]]
 ·rw[xaj]at hi;rw[q i hi];exact yp (by show(zl w _).length<=k;rw[zZ];lia)
 ·rw[xaj]at hi;have hz:∀k,w<=k->C (((pQ n pv w).map F).getD i []) k=0:=λk a=>by
   rw[q i hi];exact yp (by show(zl w _).length<=k;rw[zZ];lia)
  refine(zaN hp x hn t hz).2<|(B _).1 ?_;have:=zlK W o V (G i hi).1 (G i hi).2;intro s hc;have d:=this s hc;rw[show dt w _ (C<|((pQ n pv w).map F).getD i [])=dt w _ (AQ (P:J) A pv ((pQ n pv w).getD i 0) n)from yr λk a=>by
   rw[q i hi];show _*C (zl w _) k=_;rw[uV a]]
  exact d
 ·intro k;rw[q 0 (by rw[hl];simp),hl];show C (zl w<|AQ (P:J) A pv 0 n) k%P=(if k=0 then(1:J)else 0)%P;by_cases a:k<w
  ·rw[uV a];by_cases y:ri n pv k=wL
   ·rw[mW<|iE.1 y]
   ·have:∃i,i<n/\pv i=k:=xai λh=>y<|iE.2 λi hi d=>h ⟨i,hi,d⟩;obtain⟨i,hi,rfl⟩:=this;rw[A8 hi λj hj hB=>o.pv_ne (i:=i) (j:=j) hi hj hB];have h0:pv i≠0:=λh=>by rw[h]at y;exact y ht
    rw[ir h0,xau];have h5:=H i (by have:=o.hn;lia);exact xaz<|xaH<|by rw[xcF _<|xej _];exact xaz<|Int.dvd_neg.2 h5
  ·rw[yp (by rw[zZ];lia),zB]
end
section
section
variable{α:Type}
def iB1(d:α)(cmp:α->α->V J):((J×J×J×N α)->V (J×J×N α))->(J×J×J×N α)->V (J×J×N α):=λL (i2,a,i4,t2)=>
 if i2<i4 then
 zI i4 (X t2) λb=>
 B ((t2.getD b d)) λt3=>
 zf (i4-(1:J)) λc=>
 zI c (X t2) λe=>
 B ((t2.getD e d)) λt4=>
 Y (cmp t3 t4) λf=>
 if f<(0:J)then
 zf (i4-(1:J)) λg=>
 zf (i4-(1:J)) λh=>
 zI h (X t2) λi=>
 B ((t2.getD i d)) λt5=>
 zI i4 (X t2) λj=>
 B ((t2.getD j d)) λt6=>
 zI i4 (X t2) λk=>
 B (t2.set k t5) λt7=>
 zI g (X t7) λl=>
 B (t7.set l t6) λt8=>
 zf (i4-(1:J)) λm=>
 L (i2,a,m,t8)
 else
 Z (i2,a,t2)
 else
 Z (i2,a,t2)
def iB0(fu:K)(d:α)(b a:J)(cmp:α->α->V J):((J×N α)->V (N α))->(J×N α)->V (N α):=λL (i1,t1)=>
 if i1<a then
 Y (zg (iB1 d cmp) fu (b,a,i1,t1)) λ(e,f,t9)=>
 zf (i1+(1:J)) λc=>
 L (c,t9)
 else
 Z t1
structure Od3(c:α->α->J)(S:α->Prop):Prop where
 tr:∀x y z,S x->S y->S z->¬c y x<0->¬c z y<0->¬c z x<0
 an:∀x y,S x->S y->c x y<0->¬c y x<0
def TS(d x:α):∀(a b:N α),(a++x::b).getD (X a) d=x
 |[],_=>rfl
 |_::a,b=>TS d x a b
def IL(d y x:α):∀(a b:N α),(a++y::x::b).getD (X a+1) d=x
 |[],_=>rfl
 |_::a,b=>IL d y x a b
def zee(x z:α):∀(a b:N α),(a++x::b).set (X a) z=a++z::b
 |[],_=>rfl
 |h::a,b=>ut (h:: ·)<|zee x z a b
def zbs(y x z:α):∀(a b:N α),(a++y::x::b).set (X a+1) z=a++y::z::b
 |[],_=>rfl
 |h::a,b=>ut (h:: ·)<|zbs y x z a b
def zaA{l:N α}(h:0<X l):∃a y,l=a++[y]:=⟨l.dropLast,l.getLast (λe=>by rw[e]at h;exact wS h<|xfW _),(List.dropLast_concat_getLast _).symm⟩
def zoC{fu:K}{d:α}{cmp:α->α->V J}{c:α->α->J}{S:α->Prop}(hc:∀x y,S x->S y->cmp x y=Z (c x y)){s rest:xS α}{x:α}(j:∀y∈s,S y)(k:S x)(hn:X (s++x::rest)<=1000)(o:3000000<=fu){N:J}:
 ∃r,zg (iB1 d cmp) fu (0,N,(X s:J),s++x::rest)=Z r/\∃r1 r2,s=r1++r2/\r=(0,N,r1++x::(r2++rest))/\(∀y∈r2,c x y<0)/\∀a y,r1=a++[y]->¬c x y<0:=by
 rw[xaw,xax]at hn;refine yc (λt:J×J×J×xS α=>∃r1 r2,s=r1++r2/\t=(0,N,(X r1:J),r1++x::(r2++rest))/\∀y∈r2,c x y<0) (λt=>t.2.2.1.toNat) _ ?_ fu _ ⟨s,[],(xbO s).symm,O,λy g=>by simp at g⟩ (by show(X s:J).toNat<fu;lia);rintro t L ⟨r1,r2,e,rfl,i⟩ l;unfold iB1;simp only;have hl:X s=X r1+X r2:=by rw[e,xaw]
 by_cases h:0<X r1
 ·obtain⟨a,y,rfl⟩:=zaA h;have m:X (a++[y])=X a+1:=i7
  have h1:a++[y]++x::(r2++rest)=a++y::x::(r2++rest):=i7
  have n:X (a++y::x::(r2++rest))=X a+2+X r2+X rest:=by simp;lia
  have g:S y:=j y (by rw[e];simp);rw[h1,m,zX,n,z8,ze,IL,zb,(W:((X a+1:K):J)-1=(X a:J)),z8,ze,TS,U<|hc x y k g];by_cases f:c x y<0
  ·rw[iq f,zb,zb,z8,ze,TS,z8,ze,IL,z8,ze,zbs,xaw,zo i7,ze,zee,zb];refine l _ ⟨a,y::r2,by rw[e];simp,O,λz hz=> ?_⟩ (by show(X a:J).toNat<(X (a++[y]):J).toNat;lia);obtain rfl|hz:=xaf.1 hz
   ·exact f
   ·exact i z hz
  ·rw[ir f];refine⟨_,O,a++[y],r2,e,by rw[h1],i,λb z hz=> ?_⟩;have:=List.append_inj' hz O;rw[List.singleton_inj.1 this.2]at f;exact f
 ·rw[zB];obtain rfl:r1=[]:=xbh.1 W;exact⟨_,O,[],r2,e,O,i,λb z hz=>by
   have:=ut xaG hz;simp at this⟩
def zeC{fu:K}{d:α}{cmp:α->α->V J}{c:α->α->J}{S:α->Prop}(hc:∀x y,S x->S y->cmp x y=Z (c x y)){t:xS α}(p:∀y∈t,S y)(hn:X t<=1000:=by lia)(q:3000000<=fu:=by lia):
 ∃r,zg (iB0 fu d 0 (X t:J) cmp) fu (1,t)=Z r/\r.Perm t/\(Od3 c S->r.Pairwise λa b=>¬c b a<0):=by
 cases t with
 |nil=>
  refine yc (λx:J×xS α=>x=(1,[])) (λ_=>0) _ ?_ fu _ O W;rintro x L rfl k;exact⟨[],O,xdD _,λ_=>List.Pairwise.nil⟩
 |cons z t=>
  refine yc (λx:J×xS α=>∃s rest,x=((X s:J),s++rest)/\(s++rest).Perm (z::t)/\(Od3 c S->s.Pairwise λa b=>¬c b a<0)) (λx=>X (z::t)-x.1.toNat) _ ?_ fu _ ⟨[z],t,O,xdD _,λ_=>List.pairwise_singleton _ _⟩ (by show(z::t).length-1<fu;lia);rintro x L ⟨s,rest,rfl,f,l⟩ k;unfold iB0;simp only;have hl:=f.length_eq;rw[xaw]at hl;have m:∀y∈s++rest,S y:=λy e=>p y<|f.mem_iff.1 e
  cases rest with
  |nil=>
   rw[ir<|by simp at hl;simp;lia];rw[xbO]at f;exact⟨s,by rw[xbO],f,l⟩
  |cons x rest=>
   rw[xax]at hl;rw[zX];have g:∀y∈s,S y:=λy e=>m y<|xdU _ e;have i:S x:=m x i7;obtain⟨r,e1,r1,r2,rfl,rfl,u,v⟩:=zoC (fu:=fu) (d:=d) (N:=(X (z::t):J)) (rest:=rest) hc g i (by rw[xaw,xax];lia) q;rw[U e1];simp only;rw[zb];have A:(r1++x::(r2++rest)).Perm (r1++r2++x::rest):=by
    rw[xad];refine xbL r1 ?_;rw[<-xbC];have:(x::r2++rest).Perm (r2++x::rest):=xcl.symm;exact this
   refine k _ ⟨r1++x::r2,rest,?_,?_,λj=> ?_⟩ ?_
   ·rw[show((X (r1++x::r2):K):J)=(X (r1++r2):J)+1 by simp;lia,xad,xbC]
   ·rw[xad,xbC];exact A.trans f
   ·have hp:=xdp.1<|l j;have hd:∀y∈r1,¬c x y<0:=λy e=>by
     obtain⟨a,w,rfl⟩:=zaA<|xfz e;have n:=v a w O;obtain h|h:=So.1 e
     ·have B:=xdp.1 hp.1;exact j.tr y w x (g y<|by simp[h]) (g w i7) i (B.2.2 y h w i7) n
     ·rw[xag.1 h];exact n
    refine xdp.2 ⟨hp.1,xdl.2 ⟨λy e=>j.an x y i (g y<|by simp[e])<|u y e,hp.2.1⟩,λa o b hb=> ?_⟩;obtain rfl|hb:=xaf.1 hb
    ·exact hd a o
    ·exact hp.2.2 a o b hb
   ·show(z::t).length-((X (r1++r2):J)+1).toNat<X (z::t)-(X (r1++r2):J).toNat;lia
end
def FI{fu:K}{cmp:N J->N J->V J}{c:N J->N J->J}{S:N J->Prop}(hc:∀x y,S x->S y->cmp x y=Z (c x y)){t:N (N J)}(d:∀y∈t,S y)(hn:X t<=12)(h:3000001<=fu):
 ∃r,wj fu t cmp=Z r/\r.Perm t/\(Od3 c S->r.Pairwise λa b=>¬c b a<0):=by
 obtain⟨g,rfl⟩:∃g,fu=g+2:=⟨fu-2,W⟩;obtain⟨r,h1,e,f⟩:=zeC (fu:=g+1) hc d;refine⟨r,?_,e,f⟩;unfold wj kX;rw[ze,U<|U<|qQ<|by unfold Cr;lia];refine U<|U ?_;rw[kH];unfold q8;simp only;rw[zb,zX];refine U ?_;exact U h1
def IC{fu:K}{cmp:N M->N M->V J}{c:N M->N M->J}{S:N M->Prop}(hc:∀x y,S x->S y->cmp x y=Z (c x y)){t:N (N M)}(d:∀y∈t,S y)(hn:X t<=12)(h:3000001<=fu):
 ∃r,yD fu t cmp=Z r/\r.Perm t/\(Od3 c S->r.Pairwise λa b=>¬c b a<0):=by
 obtain⟨g,rfl⟩:∃g,fu=g+2:=⟨fu-2,W⟩;obtain⟨r,h1,e,f⟩:=zeC (fu:=g+1) hc d;refine⟨r,?_,e,f⟩;unfold yD kX;rw[ze,U<|U<|qQ<|by unfold Cr;lia];refine U<|U ?_;rw[kH];unfold vT;simp only;rw[zb,zX];refine U ?_;exact U h1
end
section
variable{p:wl}{m a:xS wl}{fu:wr}
def oe{p:J}:∀{l1 c:N Pz},List.Sublist l1 c->(∀w∈c,Fs w)->Di p (prZ l1) (prZ c)
 |_,_,.slnil,_=>Di.refl _ _
 |_,_,.cons a h,b=>Di.mul a (b a<|H1)<|oe h λw d=>b w<|UV _ d
 |_,_,.cons_cons a h,b=>by
  obtain⟨q,fq,hc⟩:=oe h λw d=>b w<|UV _ d;refine⟨q,fq,((Cg.rfl).mul hc).trans<|Cg.of ?_⟩;exact zD _ _ _
def Fs.dvp{f:Pz}(h:Fs f):Fs (dvp f):=by
 have⟨n,hn⟩:=h;exact⟨n,λk b=>by show _*f (k+1)=0;rw[hn _ W,xaA]⟩
def jZ.sq(hp:2<=p){u:N J}(c:Qx p u)(hc:jZ p (C m) (dvp<|C m))(h:Di p (C u*C u) (C m)):QR:=by
 have⟨q,fq,b⟩:=h;have h1:Di p (C u) (C m):=⟨q*C u,fq.mul<|Fs.ci u,b.trans<|Cg.of (zd _ _ _).symm⟩;have d:Di p (C u) (dvp<|C m):=⟨dvp q*C u+(q*dvp (C u)+q*dvp (C u)),(fq.dvp.mul<|Fs.ci u).add<|(fq.mul (Fs.ci u).dvp).add<|fq.mul (Fs.ci u).dvp,(zgs b).trans<|Cg.of<|by rw[KM,KM,yR,yR,zd,zd,wC,zk (C u)<|dvp<|C u]⟩;have⟨s,t,fs,e,f⟩:=hc;exact c.ne hp<|(Di.add (Di.mul s fs h1)<|Di.mul t e d).cg f
def zoE(hp:qk p=wL)(e:vB p m)(hl:X m<=290)(hc:jZ p (C m) (dvp<|C m)):∃us,Sf p m us:=by
 have⟨i,j⟩:=zw hp;have⟨us,h1,f⟩:=zom hp (X m) O hl e;refine⟨us,hp,e,hl,λu g=>⟨(h1 u g).1,by have:=(h1 u g).2;lia⟩,?_,f⟩;refine xdu.2 λ{a b} c=> ?_;have d:a∈us:=c.subset i7;have h:b∈us:=c.subset i7;refine(h1 a d).1.cop hp (h1 b h).1 (by have:=(h1 a d).2;lia) (by have:=(h1 b h).2;lia) λhd=> ?_;subst hd;have:=oe (p:=p) (c.map C) U9;refine jZ.sq i (h1 a d).1 hc<|(Di.cg ?_ f.symm);refine Di.trans ?_ this;refine⟨F 1,Fs.pc 1,Cg.of ?_⟩;show C a*(C a*F 1)=_;rw[yf,zC]
def mV(hp:qk p=wL)(c:vB p m)(hl:X m<=290)(d:3000000<=fu):∃b,jg fu m p=Z (m,0)/\YA fu m p=Z (b,0)/\(b=wL↔jZ p (C m) (dvp<|C m)):=by
 have⟨f,n⟩:=zw hp;have hd:=c.ln;have⟨x,x0,i,e,e1⟩:=X0 (fu:=fu) hp c.fm c.ln W d;rw[c.top,xcY,xaJ W i]at e;subst e;rw[zeW W c.fm]at e1;have⟨g,s,t,g1,j,k⟩:=JD (fu:=fu) hp c.fm (ze3 (p:=p) W m) W (by have:=zno p m;lia) d;have l:jZ p (C m) (dvp<|C m)↔X g=1:=by
  rw[zbL f j k];exact⟨λh=>h.congr Cg.rfl (zfN p m).symm,λh=>h.congr Cg.rfl<|zfN p m⟩
 refine⟨decide<|X g=1,e1,?_,by rw[l];exact decide_eq_true_iff⟩;unfold YA QU;rw[U e1];simp only[uP];rw[zB,U O];simp only[uP];rw[U<|sy hp c.fm W d];simp only;rw[U g1];simp only;by_cases hc:X g=1
 ·simp_all
 ·rw[zB,Wl hc]
theorem rZ(hp:qk p=wL)(e:Fp p a)(h0:0<X a)(hl:X a<=65)(f:3000000<=fu):
 ∃m b,zeA p a m/\vB p m/\YA fu m p=Z (b,0)/\(b=wL↔jZ p (C m) (dvp<|C m))/\ud fu a p=if b=wL then Z (m,0)else Z ([],1):=by
 have⟨g,k⟩:=zw hp;have⟨x,x0,d,h,e1⟩:=X0 hp e h0 W f;have c:=PT g e h0 h;have⟨m,hc⟩:∃m,m=xF p a [x]:=⟨_,O⟩;rw[<-hc]at c e1;have hd:=c.ln;have i:vB p m:=⟨c.fm,W,c.top⟩;have⟨b,_,b1,b2⟩:=mV hp i W f;unfold ud aU;have j:(Y (jg fu a p) λ(t1,d)=>if d=(0:J)then if(X t1:J)=(0:J)then Z (([],(8:J)))else if(65:J)<(X t1:J)then Z (([],6))else Z ((t1,0))else Z ([],d))=Z (m,0):=by
  rw[U e1];grind
 rw[U j];simp only;rw[U b1];grind
def gP{b:N J}(j:X a<=1000)(l:X b<=1000)(n:3000000<=fu):∃c,vG fu a b=Z c:=by
 unfold vG;by_cases h:X a=X b
 ·rw[zX,zb];have⟨r,e,_⟩:=yc (f:=Wa fu a b) (λi:J=> -1<=i/\i<X a) (λi=>(i+1).toNat) (λ_=>XS) (by
   rintro i L ⟨h1,o⟩ g;unfold Wa;by_cases d:0<=i
   ·obtain⟨k,rfl⟩:=xaE d;rw[iq d,z8,S,z8,S];split
    ·simp_all
    ·rw[z8,S,z8,S];split
     ·simp_all
     ·rw[zb];exact g _ ⟨W,W⟩ W
   ·rw[ir d];exact⟨_,O,wR⟩) fu ((X a:J)-1) ⟨W,W⟩ W
  rw[U e]
  cases r with
  |inl _=>exact⟨_,O⟩
  |inr i=>exact⟨i,O⟩
 ·rw[zB,zb];exact⟨_,O⟩
def OC{l1 b:N Pz}(h:l1.Perm b):prZ l1=prZ b:=by
 induction h with
 |nil=>rfl
 |cons x _ c=>show x*prZ _=x*prZ _;rw[c]
 |swap x y l=>show y*(x*prZ l)=x*(y*prZ l);rw[zD]
 |trans _ _ h1 d=>rw[h1,d]
def Rl.take{l:N J}(h:Rl l)(n:K):Rl (l.take n):=λk=>by
 by_cases b:k<n
 ·have:C (l.take n) k=C l k:=by
   show(l.take n).getD k 0=l.getD k 0;simp_all
  rw[this];exact h k
 ·rw[yp<|by rw[xav];lia];exact⟨W,W⟩
def Ai{P:K}{ds:N J}(hp:qk (P:J)=wL)(G:Fp (P:J) a)(h0:1<X a)(hl:X a<=13)(hd:Rl ds)(hn:X ds<=1000)(o:3000001<=fu){b:qR}(q:zeA (P:J) a m)(k:vB (P:J) m)(s:ud fu a P=Z (m,0))(hc:jZ (P:J) (C m) (dvp<|C m)):
 ∃l us,Y9 fu a P ds=Z (l,0)/\Sf (P:J) m us/\Pl (P:J) m l/\∀g∈l,Qx (P:J) g:=by
 have⟨H,L⟩:=zw hp;have M:=q.ln;have⟨us,e⟩:=zoE hp k W hc;have⟨bs,e1,b1,b2,b3,n,c,u⟩:=Ar (fu:=fu) (w:=X m-1) hp k W W W W;have Q:=n.le e;have hi:Rl (ds.take<|min (X ds) 64):=hd.take _;have⟨l,z,d,A⟩:=rI (fu:=fu) (bs:=bs) (ds:=ds.take<|min (X ds) 64) e W W O b1 W hi (by rw[xav];lia) (λv hv=>⟨(b3 v hv).1,by have:=(b3 v hv).2;lia⟩) W;have B:=Pl.done e n d ⟨c,u⟩ A;have⟨vs,v1,D,v3⟩:=e.pick d.mn<|(Di.refl _ _).cg d.pr.symm;have ht:=cH D λv hv=>(v3 v hv).1;have E:∀g∈l,X g<=290:=λg f=>e.len (d.mn g f).1<|d.dv f;have⟨r,F,h,_⟩:=FI (fu:=fu) (cmp:=λi j=>vG fu i j) (c:=λx y=>(vG fu x y).getD 0) (S:=λx=>X x<=290) (λx y R T=>by
  have⟨c,hc⟩:=gP (fu:=fu) (a:=x) (b:=y) W W W;show vG fu x y=Z ((vG fu x y).getD 0);rw[hc];rfl) (t:=l) E W o
 refine⟨r,us,?_,e,⟨λg f=>d.mn g<|h.mem_iff.1 f,d.pr.trans ?_⟩,λg f=>B g<|h.mem_iff.1 f⟩
 ·unfold Y9;rw[U s];simp only;rw[iq wR,zB,U e1,ze,(W:min (X ds:J) 64=((min (X ds) 64:K):J)),yF,yW,ze,U z,U F]
 ·exact Cg.of<|OC<|h.symm.map C
end
section
variable{K fu:wr}{a:xS Zr}
def Wv(f:wr->J):wr->wr
 |0=>0
 |n+1=>xdt (Wv f n) (f n).natAbs
def CM(f:wr->J):∀n k,k<n->Wv f n∣(f k).natAbs
 |0,k,h=>wS h<|xbq _
 |n+1,k,h=>by
  by_cases e:k=n
  ·rw[e];exact xdC _ _
  ·exact Nat.dvd_trans (xfR _ _)<|CM f n k W
theorem BC(f:wr->J){K:wr}(h:∀k,Bz K<|f k):∀n,Wv f n<18446744073709551616^K
 |0=>xaV i0
 |n+1=>by
  show xdt (Wv f n) (f n).natAbs<_;by_cases e:Wv f n=0
  ·rw[e,Nat.gcd_zero_left];exact h n
  ·exact xaL (Nat.gcd_le_left _ W)<|BC f h n
def yv(a:N M):J:=if G (yo a) (X (yo a)-1)<0 then-((Wv (G a) (X (yo a)):wr):J)else((Wv (G a) (X (yo a)):wr):J)
def aJ(a:N M):yo a=wU (X (yo a)) (G<|yo a):=QX _ _
def zi6(a:N M):yo (yo a)=yo a:=(aJ a).symm
theorem Dd(h:y6 K a):Bz K (yv a):=by grind [yv,BC,y6.bz,Bz.nat,Bz.neg]
theorem Wu(a:N M)(k:wr):yv a∣G a k:=by
 have h:((Wv (G a) (X (yo a)):wr):J)∣G a k:=by
  by_cases b:k<X (yo a)
  ·exact xcr.1<|by skip;exact CM (G a) _ k b
  ·rw[<-ZG,ye W];exact xdM _
 unfold yv;split
 ·simp_all
 ·exact h
def pA(h:X (yo a)≠0):yv a≠0:=by
 intro e;have h1:=Xp (aJ a) h;rw[ZG]at h1;have b:=Wu a<|X (yo a)-1;simp_all
def kM(c:y6 K a)(g:K<=9999:=by lia)(hl:X a<=1000000:=by lia)(b:3000000<=fu:=by lia):wi fu a=Z (yz<|yv a):=by
 unfold wi;have hn:=da c;have hd:=Zs a;have hc:=BC (G a) c.bz;rw[U<|zJ c W hl b,show wU (X a) (G a)=yo a from O,U<|yi i0 b,U (v:=(yo a,(I,[]),yz ((Wv (G a) (X (yo a)):wr):J)))]
 ·simp only;by_cases h0:X (yo a)=0
  ·rw[zB];unfold yv;rw[h0];show Z (yz ((0:wr):J))=Z (yz (if G (yo a) 0<0 then-(((0:wr):J))else((0:wr):J)));simp_all
  ·rw[zX,(W:((X (yo a):wr):J)-1=((X (yo a)-1:wr):J)),zb,z8,S,Dw<|aJ a];unfold yv;by_cases h1:G (yo a) (X (yo a)-1)<0
   ·rw[iq<|(QH _).2 h1,iq h1,U<|K5 ((Bz.nat<|hc _).ok W) b,zn]
   ·rw[ir<|λe=>h1<|(QH _).1 e,ir h1]
 ·refine zA (λs:J×N M×M×M=>∃i:wr,i<=X (yo a)/\s=((i:J),yo a,(I,[]),yz ((Wv (G a) i:wr):J))) (λs=>X (yo a)-s.1.toNat) _ ?_ _ _ ⟨0,xan _,O⟩ (by show(yo a).length-0<fu;lia);rintro s L ⟨i,hi,rfl⟩ f;unfold KC;simp only;by_cases h:i<X (yo a)
  ·have d:=hn.get i;rw[zX,U O];simp only[uP];rw[zo h,S,U<|Ug (yx _) d.1 (Bz.nat<|hc i).len d.2 W b,zn,xaD,Vd,ZG,zb];exact f _ ⟨i+1,W,O⟩ (by show(yo a).length-((i:J)+1).toNat<X (yo a)-(i:J).toNat;lia)
  ·rw[zB,U O];simp only[xao,uS];obtain rfl:i=X (yo a):=W
   rfl
def zcF(a:N M):yv (yo a)=yv a:=by
 unfold yv;rw[zi6,show G (yo a)=G a from jp (ZG a)]
def mi(b:y6 K a)(g:K<=9999)(hl:X a<=1000000)(c:3000000<=fu):Yf fu a=Z (yz<|yv a):=by
 unfold Yf;have hn:=da b;have hd:=Zs a;have hc:=BC (G a) b.bz;rw[U<|vO b W hl c,show wU (X a) (G a)=yo a from O,U (iw i0),U (v:=yz ((Wv (G a) (X (yo a)):wr):J))]
 ·by_cases h0:X (yo a)=0
  ·rw[zB];unfold yv;rw[h0];show Z (yz ((0:wr):J))=Z (yz (if G (yo a) 0<0 then-(((0:wr):J))else((0:wr):J)));simp_all
  ·rw[zX,(W:((X (yo a):wr):J)-1=((X (yo a)-1:wr):J)),zb,z8,S,Dw<|aJ a];unfold yv;by_cases h1:G (yo a) (X (yo a)-1)<0
   ·rw[iq<|(QH _).2 h1,iq h1,U<|DP ((Bz.nat<|hc _).ok W) c,zn]
   ·rw[ir<|λe=>h1<|(QH _).1 e,ir h1]
 ·refine zA (λs:J×M=>∃i:wr,i<=X (yo a)/\s=((i:J),yz ((Wv (G a) i:wr):J))) (λs=>X (yo a)-s.1.toNat) _ ?_ _ _ ⟨0,xan _,O⟩ (by show(yo a).length-0<fu;lia);rintro s L ⟨i,hi,rfl⟩ f;unfold Ku;simp only;by_cases h:i<X (yo a)
  ·have d:=hn.get i;rw[zX,zo h,S,U<|CP (yx _) d.1 (Bz.nat<|hc i).len d.2 W c,zn,xaD,Vd,ZG,zb];exact f _ ⟨i+1,W,O⟩ (by show(yo a).length-((i:J)+1).toNat<X (yo a)-(i:J).toNat;lia)
  ·rw[zB];obtain rfl:i=X (yo a):=W
   rfl
def yg(a:N M):N M:=wU (X a)<|λk=>G a k/yv a
theorem ZQ(a:N M)(k:wr):G (yg a) k=G a k/yv a:=jW (λk b=>by rw[ye b,xel]) k
def oU(h:y6 K a):y6 K (yg a):=xh λk=>(h.bz k).le<|xbG _ _
theorem zmK{x c:J}(hd:c∣x)(b:x≠0):x/c≠0:=λe=>by
 have:=Int.ediv_mul_cancel hd;simp_all
theorem Zt(a:N M):X (yg a)=X (yo a):=by grind [yo,yg,xC,KD,qH,Qm,zmK,Wu,Qb,xel]
theorem zgi(a:N M):yg a=zi (X (yo a)) (λk=>G a k/yv a):=by grind [wU,yg,Zt,xC]
def vR(b:y6 K a)(d:K<=9999:=by lia)(hl:X a<=1000000:=by lia)(c:3000000<=fu:=by lia):xA fu a=Z (yg a):=by
 unfold xA;have hn:=da b;have hd:=Zs a;have hc:=Dd b;rw[U<|kM b d hl,U<|zJ b W hl c,show wU (X a) (G a)=yo a from O,U<|BG W W λj e=> ?_,zgi];unfold Jv;rw[U<|k9 (hn.okS W j) (hc.okS W) c,zn,Vd,ZG];unfold exI;rw[ir (pA W),iq<|xaz<|Wu a j]
def N4(c:y6 K a)(Q:K<=9985)(hl:X a<=1000)(h0:X (yo a)≠0)(f:3000000<=fu):J3 fu (yo a) [yz<|yv a]=Z (yg a,0):=by
 unfold J3;have hn:=da c;have R:=Zs a;have hc:=Dd c;have i:=pA h0;have w:=hc.len;have l:y6 K [yz<|yv a]:=λz o=>by
  obtain rfl:=xag.1 o;exact⟨yx _,w⟩
 have x:wU [yz<|yv a].length (G [yz<|yv a])=[yz<|yv a]:=by
  show wU 1 _=_;unfold wU;rw[show dg (G [yz<|yv a]) 1=1 from cF (m:=0) (by show zv (yz<|yv a)≠0;rw[zn];exact i)];show[yz<|zv<|yz<|yv a]=_;rw[zn]
 have r:∀k,G [yz<|yv a] k=if k=0 then yv a else 0:=λk=>by
  by_cases b:k=0
  ·rw[iq b,b];exact zn _
  ·rw[ir b];exact ye<|by simp;lia
 rw[U<|vO l W i7 f,x,ir (i7:¬((X ([yz<|yv a]:N M):wr):J)=0),U<|vO hn W W f,show wU (X (yo a)) (G<|yo a)=yo a from(aJ a).symm];have⟨n,ht⟩:∃n,n=X a:=⟨_,O⟩;rw[U (v:=.inl<|yg a)];refine zA (λs:N M×N M×N M=>∃m:wr,m<=n/\s=([yz<|yv a],wU m<|G a,wU n (λk=>if m<=k then G a k/yv a else 0))) (λs=>X s.2.1) _ ?_ _ _ ⟨n,IR _,?_⟩ (by show(yo a).length<fu;lia)
 ·rintro s L ⟨m,T,rfl⟩ y;unfold iR;simp only;have V:=qH (G a) m;have h:X (wU m<|G a)=dg (G a) m:=xC _ _;have A:∀k,G (wU m<|G a) k=if k<m then G a k else 0:=λk=>by
   have e:wU m (G a)=wU m (λk=>if k<m then G a k else 0):=XY λk b=>by rw[iq b]
   rw[e,jW λk b=>zB]
  by_cases h1:0<dg (G a) m
  ·have⟨d,hd⟩:∃d,dg (G a) m=d+1:=⟨dg (G a) m-1,W⟩;have Y:G a d≠0:=by have:=Qb (G a) m W;rw[hd]at this;exact this
   have B:(wU m<|G a).getD d (I,[])=yz (G a d):=by
    unfold wU;rw[hd];exact ZY W
   have hv:exI (G a d) (yv a)=G a d/yv a:=by
    unfold exI;rw[ir i,iq<|xaz<|Wu a d]
   have C:exE (G a d) (yv a)=0:=by
    unfold exE;rw[ir i,iq<|xaz<|Wu a d]
   have D:Bz K (G a d/yv a):=(c.bz d).le<|xbG _ _;have hp:xaa d (I,[])++[yz<|G a d/yv a]=zi (d+1) (mono d<|G a d/yv a):=by
    rw[bg,<-Bf];congr 1
    ·exact yZ λk b=>by unfold mono;rw[zB]
    ·unfold mono;rw[iq O]
   have q:y6 K (zi (d+1)<|mono d<|G a d/yv a):=Xf λj=>by
    unfold mono;split
    ·exact D
    ·exact Bz.zero _
   have E:y6 K (wU n (λk=>if m<=k then G a k/yv a else 0)):=xh λj=>by
    split
    ·exact(c.bz j).le<|xbG _ _
    ·exact Bz.zero _
   have hL:X (wU n (λk=>if m<=k then G a k/yv a else 0))<=n:=by rw[xC];exact qH _ _
   have F:y6 K (wU m<|G a):=xh c.bz;have t:=Xj q l;have u:=ua (zi (d+1)<|mono d<|G a d/yv a) [yz<|yv a];rw[yn]at u t;rw[iq (by rw[h];lia),h,hd,show(X ([yz<|yv a]:N M):wr)=1 from O,(W:((d+1:wr):J)-((1:wr):J)=(d:J)),zb,(W:((d+1:wr):J)-1=(d:J)),zb,z8,S,B,show((1:wr):J)-1=((0:wr):J)by rfl,zb,z8,S,show([yz<|yv a]:N M).getD 0 (I,[])=yz (yv a)from O,U<|te ((c.bz d).okS W) (hc.okS W) f,zn,zn,hv,C];simp only[uP];rw[zB,yF,yW,S,w8 (by simp;lia),S,hp,U<|cX E q W W (by rw[yn];lia) f,U<|B4 q l (by rw[yn];lia) i7 f,U<|Ep (k:=K+K+(d+1)) (F.mono W) t W W (by simp at u;lia) f];have e1:aR (wU m<|G a) (y9 (zi (d+1)<|mono d<|G a d/yv a) [yz<|yv a])=wU d (G a):=by
    unfold aR;have H:wU d (G a)=wU d (λk=>if k<d then G a k else 0):=XY λk b=>by rw[iq b]
    rw[H];refine Xt (λk b=>by rw[ye W,ye W];rfl) (λk b=>zB) λk=> ?_;rw[zcs,A];unfold Re;by_cases b:k<d
    ·rw[zX,iq b,zB,xaA,xdi]
    ·rw[ir b];by_cases hi:k=d
     ·subst hi;rw[zX,iq<|IR _,r,zX,Int.ediv_mul_cancel<|Wu a k];lia
     ·have o:(if k<m then G a k else 0)=0:=by
       split
       ·exact Qm (G a) m k W W
       ·rfl
      rw[o,zX,r,zB,xaA];rfl
   have P:wU (max (X (wU n (λk=>if m<=k then G a k/yv a else 0))) (X (zi (d+1)<|mono d<|G a d/yv a))) (λj=>G (wU n (λk=>if m<=k then G a k/yv a else 0)) j+G (zi (d+1)<|mono d<|G a d/yv a) j)=wU n (λk=>if d<=k then G a k/yv a else 0):=by
    refine Xt (λk b=>by rw[ye W,ye W];rfl) (λk b=>by rw[ye (p:=a) W,xel,ite_self]) λk=> ?_;rw[jW (λk b=>by rw[ye (p:=a) W,xel,ite_self]),Kf<|λk b=>by unfold mono;rw[zB]];unfold mono;by_cases b:k<d
    ·rw[ir (W:¬m<=k),ir (W:¬k=d),ir (W:¬d<=k)];rfl
    ·by_cases hi:k=d
     ·subst hi;rw[ir (W:¬m<=k),iq O,iq<|IR _,xcS]
     ·rw[ir hi,iq (W:d<=k),xcd];by_cases g:m<=k
      ·rw[iq g]
      ·rw[ir g,Qm (G a) m k W W,xel]
   show L ([yz<|yv a],_,_)=_;rw[e1,P];exact y _ ⟨d,W,O⟩ (by show(wU d<|G a).length<X (wU m<|G a);rw[h,xC];have:=qH (G a) d;lia)
  ·rw[ir<|by rw[h];lia];congr 2;unfold yg;rw[<-ht];refine XY λk b=> ?_;by_cases g:m<=k
   ·rw[iq g]
   ·rw[ir g,Qm (G a) m k W W,xel]
 ·rw[ht];congr 2
  ·have e:wU (X a) (λk=>if X a<=k then G a k/yv a else 0)=wU (X a) (λ_=>0):=XY λk b=>zB;rw[e];have:dg (λ_=>(0:J)) (X a)=0:=KD (xan _) (λ_ _ _=>O) (.inl O);unfold wU;rw[this];rfl
def AA(b:y6 K a)(d:K<=9985)(hl:X a<=1000)(c:3000000<=fu):QF fu a=Z (yg a):=by
 unfold QF;have hc:=Zs a;rw[U<|vO b W W c,show wU (X a) (G a)=yo a from O];by_cases h0:X (yo a)=0
 ·skip;have:=Zt a;simp_all
 ·rw[zB,U<|mi (da b) W W c,zcF,U<|N4 b d hl h0 c]
end
section
variable{a:xS Zr}{fu K:wr}{s:wl}
def zh7{x:wr}:x/2^1=x/2:=by rw[Nat.pow_one]
def zjj{n:wr}(h:0<n):bl (n/2)<bl n:=by rw[cB h];omega
def zaJ{a b:wr}(h:a<=b):bl a<=bl b:=UI<|xaL h<|CQ b
def zi2{y:J}(b:Bz K y)(d:K<=10000)(c:3000000<=fu):zg (WK fu 2<|yz y) fu (2,yz s,0,yz 1)=Z (2,yz s,yz<|y*y):=by
 have⟨n,hn⟩:∃n,fu=n+3:=⟨fu-3,iT⟩;have h:zg (WK fu 2<|yz y) (n+3) (2,yz s,0,yz 1)=Z (2,yz s,yz<|y*y):=by
  have b1:=Bz.one'<|IR _;rw[kH];unfold WK;simp only;rw[U<|zV (b1.ok i0) (b.ok iT) c,zn,zn,xdg,Df i0,kH];simp only;rw[U<|zV (b.ok iT) (b.ok iT) c,zn];rfl
 simp_all
def C9(u:0<=s)(j:Bz K s)(F:K<=1000)(i:3000000<=fu):∃r:wr,Kj fu (yz s) 2=Z (yz (r:J),0)/\Bz (K+1) (r:J)/\r*r<=s.toNat/\s.toNat<(r+1)*(r+1):=by
 unfold Kj;obtain⟨S,rfl⟩:=xaE u;have G:=j.len;have hv:bl S<=64*K:=zcM (by unfold Bz at j;rwa[xaD]at j);have hn:A (yz (S:J)).2=S:=by show A (yB<|(S:J).natAbs)=S;rw[zT,xaD]
 have v:xdE ((bl S:wr):J) 2=((bl S/2:wr):J):=by rw[xeV iT];omega
 have n:bl S/2<=32*K:=iT
 have w:min (((bl S/2:wr):J)+1) (262144:J)=((bl S/2+1:wr):J):=iT
 rw[ir i0,ir i0,U<|xe (j.ok iT) i,zn,ir (λe=>by
  unfold jH at e;rw[zB]at e;split at e<;>exact wS e i0),U (yi i0 i),U (WM (yx _) iT iT),hn,w8 i0,v,zb,zb,ze,w,U (QZ (a:=[1]) (zm.cons i0 zm.nil) i0 iT iT)]
 simp only;have⟨H,l⟩:∃H,H=1*2^(bl S/2+1):=⟨_,O⟩;have m:H<18446744073709551616^(K+1):=by
  rw[l,xcz,(i0:(18446744073709551616:wr)=2^64),<-xch];exact xfT i0 iT
 have N:1<=H:=by rw[l,xcz];exact xaV i0
 have ht:=zcM m;have x:S<H*H:=by
  refine xah (CQ S) ?_;rw[l,xcz,<-xbo];exact xal i0 iT
 rw[show A [1]=1 from O,<-l,U<|yE (zp _) (by have:=(zK (K+1) H).2 m;omega) (by have:=(zK (K+1) H).2 m;omega),zT,ir i0];obtain⟨r,l1,R,rfl,P,hp,y⟩:=yc (f:=KS fu (yz (S:J)) 2) (λz:M×M×M=>∃lo hi:wr,z=((I,[]),yz (lo:J),yz (hi:J))/\lo<hi/\hi<=H/\lo*lo<=S/\S<hi*hi) (λz=>bl<|(zv z.2.2).natAbs-(zv z.2.1).natAbs-1) (λr=>∃R:wr,r=yz (R:J)/\R<=H/\R*R<=S/\S<(R+1)*(R+1)) (by
  rintro z L ⟨lo,hi,rfl,h1,n,i1,i2⟩ o;unfold KS;simp only;have g:Bz (K+1) (lo:J):=Bz.nat iT;have k:Bz (K+1) (hi:J):=Bz.nat iT;have B:A (yz<|(lo:J)+(hi:J)).2=lo+hi:=by
   show A (yB<|((lo:J)+(hi:J)).natAbs)=lo+hi;rw[zT];omega
  have p:=(g.add k).len;have c:Bz (K+1) (((lo+hi)/2:wr):J):=Bz.nat iT;have Q:X (yB<|(lo+hi)/2)<=K+1:=(zK _ _).2 iT;rw[U<|vY (g.ok iT) (k.ok iT) i,zn,zn,show(1:J)=((1:wr):J)from O,U (nZ (yx _) iT i0 iT),B,zh7,U (yE (zp _) iT iT),zT,ir i0,U<|ZW (c.ok iT) (g.ok iT) i (by have:=c.len;omega) (by have:=g.len;omega),zn,zn];by_cases q:(lo+hi)/2=lo
  ·rw[iq<|xN.2 iT];obtain rfl:hi=lo+1:=iT
   exact⟨_,O,lo,O,iT,i1,i2⟩
  ·rw[ir<|λe=>q (by have:=xN.1 e;omega),show(((1:wr):J))=1 from O,U<|yi i0 i,U<|zi2 c iT i];simp only;have C:=(c.mul c).len;rw[U<|ZW ((c.mul c).ok iT) (j.ok iT) i iT iT];have hd:0<hi-lo-1:=iT
   have t:∀d,d<=(hi-lo-1)/2->bl d<bl (hi-lo-1):=λd D=>xaL (zaJ D)<|zjj hd;have⟨b,E⟩:∃b,b=(lo+hi)/2:=⟨_,O⟩;rw[<-E]at q⊢;have hl:jH ((b:J)*(b:wr)) (S:J)<=0↔b*b<=S:=by
    rw[(i7:(b:J)*(b:wr)=((b*b:wr):J))];unfold jH;split
    ·exact⟨λ_=>by omega,λ_=>by decide⟩
    ·split
     ·exact⟨λh=>wS h i0,λh=>by omega⟩
     ·exact⟨λ_=>by omega,λ_=>by decide⟩
   by_cases hc:b*b<=S
   ·rw[zn,zn,iq<|hl.2 hc];exact o _ ⟨_,hi,O,iT,n,hc,i2⟩<|by simp only[zn,xaD];exact t _ iT
   ·rw[zn,zn,ir λh=>hc<|hl.1 h];exact o _ ⟨lo,_,O,iT,iT,i1,iT⟩<|by simp only[zn,xaD];exact t _ iT) fu ((I,[]),yz 0,yz (H:J)) ⟨0,H,O,iT,IR _,xan _,x⟩ (by
   simp only[zn,xaD];have:=zaJ (iT:H-Int.natAbs 0-1<=H);omega)
 rw[U l1];exact⟨R,O,Bz.nat iT,by rw[xbe];exact hp,by rw[xbe];exact y⟩
def FH(a:N M):J:=if(yo a).length=0 then 8 else if 65<X (yo a) then 6 else 0
theorem bS(b:y6 K a)(c:K<=40000)(hl:X a<=1000000)(d:3000000<=fu):XA fu a=Z (FH a):=by grind [XA,FH,yo,U,zJ]
def rf(f:wr->J)(n:wr):J:=yh n<|λk=>f k*f k
def YE(x:J):0<=x*x:=by
 obtain h|h:=Int.le_total 0 x
 ·exact xcC h h
 ·exact Int.mul_nonneg_of_nonpos_of_nonpos h h
def mm(f:wr->J):∀n,0<=rf f n
 |0=>xgb _
 |n+1=>Int.add_nonneg (mm f n)<|YE _
theorem zg8{f:wr->J}(h:∀k,Bz K<|f k):∀n,n<=18446744073709551615->Bz (K+K+1) (rf f n):=by
 have h1:∀n:wr,(rf f n).natAbs<=n*18446744073709551616^(K+K):=by
  intro n
  induction n with
  |zero=>exact xan _
  |succ n d=>
   have c:(rf f<|n+1).natAbs<=(rf f n).natAbs+(f n*f n).natAbs:=Int.natAbs_add_le _ _;have b:=(h n).mul<|h n;unfold Bz at b;grind
 intro n hn;unfold Bz;have c:=h1 n;have hp:0<18446744073709551616^(K+K):=xaV i0;have b:n*18446744073709551616^(K+K)<=18446744073709551615*18446744073709551616^(K+K):=xak _ hn;omega
def Ma{f:wr->J}:∀{n},(∃k,k<n/\f k≠0)->1<=rf f n
 |0,⟨k,h,_⟩=>wS h<|xbq _
 |n+1,⟨k,h,b⟩=>by
  show 1<=rf f n+f n*f n;have h1:=mm f n;have d:=YE<|f n;by_cases e:k=n
  ·have g:f n*f n≠0:=λc=>by
    obtain h4|h4:=xeS.1 c<;>exact b<|by rw[e];exact h4
   omega
  ·have:=Ma (n:=n) ⟨k,iT,b⟩;omega
def bU(c:y6 K a)(p:K<=300)(hl:X a<=1000000)(b:3000000<=fu):∃y,vz fu a=Z (y,FH a)/\(FH a=0->∃r:wr,y=yz (((r+1)*2^(X (yo a)-1):wr):J)/\r*r<=(-1+rf (G a) (X (yo a))).toNat/\(-1+rf (G a) (X (yo a))).toNat<(r+1)*(r+1)):=by
 unfold vz;rw[U<|bS c iT hl b];by_cases h0:FH a=0
 ·have hc:X (yo a)≠0/\X (yo a)<=65:=by
   unfold FH at h0;split at h0
   ·cases h0
   ·omega
  have hn:=da c;have e:=λn hn=>zg8 (K:=K) (f:=G a) c.bz n hn;have q:=Ma (f:=G a) (n:=X (yo a)) ⟨X (yo a)-1,iT,by have:=Xp (aJ a) hc.1;rwa[ZG]at this⟩;have hd:∀n,n<=18446744073709551615->Bz (K+K+1+1) (-1+rf (G a) n):=λn hn=>by
   have:=(e n hn).add (Bz.one (k:=K+K+1) iT);rwa[Int.add_comm]at this
  rw[iq h0,U<|zJ c iT hl b,show wU (X a) (G a)=yo a from O,U<|yi i0 b,U (v:=(yo a,(I,[]),yz (-1+rf (G a) (X (yo a)))))]
  ·simp only;have⟨r,r1,r2,g,l⟩:=C9 (fu:=fu) (s:= -1+rf (G a) (X (yo a))) iT (hd _ iT) iT b;have b1:Bz 1 1:=Bz.one'<|IR _;have b2:=(r2.add<|b1.mono (by omega:1<=K+K+1+1+1)).len;rw[U r1];simp only;rw[U<|yi i0 b,U<|vY (r2.ok iT) (b1.ok i0) b,zn,zn,(iT:((X (yo a):wr):J)-1=((X (yo a)-1:wr):J)),zb,U<|QZ (yx _) iT iT iT];simp only;have t:X (yB<|A (yz<|(r:J)+1).2*2^(X (yo a)-1))<=K+K+1+1+1+1+2:=by
    refine YI (j:=K+K+1+1+1+1) (k:=2) ?_ ?_
    ·rw[show A (yz<|(r:J)+1).2=((r:J)+1).natAbs from zT _];exact b2
    ·refine(zK _ _).2 ?_;exact xaL (xal i0 (iT:X (yo a)-1<=64)) i0
   rw[U<|kU ⟨zp _,by show(yB _).length<=100000;omega⟩ b];refine⟨_,by rw[h0],λ_=>⟨r,?_,g,l⟩⟩;congr 1;show(if I=wL then _ else((A (yB _):wr):J))=_;rw[zT,show A (yz<|(r:J)+1).2=((r:J)+1).natAbs from zT _,(iT:((r:J)+1).natAbs=r+1)];rfl
  ·refine zA (λs:J×N M×M×M=>∃i:wr,i<=X (yo a)/\s=((i:J),yo a,(I,[]),yz (-1+rf (G a) i))) (λs=>X (yo a)-s.1.toNat) _ ?_ _ _ ⟨0,xan _,O⟩ (by show(yo a).length-0<fu;omega);rintro s L ⟨i,hi,rfl⟩ m;unfold dZ;simp only;by_cases h:i<X (yo a)
   ·have d:=hn.okZ iT i;have o:=(c.bz i).mul<|c.bz i;rw[zX,U O];simp only[uP];rw[zo h,S,U<|zV d d b,Vd,ZG,U<|vY ((hd i iT).ok iT) (o.ok iT) b,zn,zn,zb,show-1+rf (G a) i+G a i*G a i= -1+rf (G a) (i+1)by show _= -1+(rf (G a) i+G a i*G a i);omega];exact m _ ⟨i+1,iT,O⟩ (by show(yo a).length-((i:J)+1).toNat<X (yo a)-(i:J).toNat;omega)
   ·rw[zB,U O];simp only[xao,uS];obtain rfl:i=X (yo a):=iT
    rfl
 ·rw[ir h0];exact⟨_,O,λh=>wS h h0⟩
end
section
variable{f g q u v w a b:Pz}{m:wr}
def DC{m:J}{f:K->J}:∀{n j:K},j<n->(∀k,k<n->k≠j->m∣f k)->m∣yh n f-f j
 |0,j,h,_=>wS h<|xbq _
 |n+1,j,h,hd=>by
  show m∣yh n f+f n-f j;by_cases e:j=n
  ·subst e;rw[(W:yh j f+f j-f j=yh j f)];exact dc λk c=>hd k W W
  ·have h1:=DC (n:=n) W λk c d=>hd k W d;have i:=hd n W W;rw[(W:yh n f+f n-f j=(yh n f-f j)+f n)];exact Int.dvd_add h1 i
theorem KR{n:K}(c:∀k,n<k->f k=0)(d:∀k,m<k->g k=0):(f*g) (n+m)=f n*g m:=by
 have h:=Int.zero_dvd.1 (DC (f:=λi=>f i*g (n+m-i)) (n:=n+m+1) (j:=n) W λk e l=>by
  by_cases hc:k<n
  ·grind
  ·rw[c k W,xbd];exact xej 0)
 rw[(W:n+m-n=m)]at h;rw[wI];lia
def Tp(f:Pz)(n:K):Prop:=f n≠0/\∀k,n<k->f k=0
def Nz(f:Pz):Prop:=∃k,f k≠0
def Nz.not(h:¬Nz f)(k:K):f k=0:=xai λe=>h ⟨k,e⟩
def Tp.ex(c:Fs f)(h0:Nz f):∃n,Tp f n:=by
 have⟨N,i⟩:=c;have⟨j,d⟩:=h0;have h1:dg f N≠0:=λe=>by
  by_cases h:j<N
  ·exact d<|Qm f N j W h
  ·simp_all
 refine⟨dg f N-1,Qb f N h1,λk l=> ?_⟩;by_cases hc:k<N
 ·exact Qm f N k W hc
 ·simp_all
def Tp.mul{n:K}(c:Tp f n)(d:Tp g m):Tp (f*g) (n+m):=
 ⟨by rw[KR c.2 d.2];exact xcT c.1 d.1,λk h=>ue (n:=n+1) (m:=m+1) (λj e=>c.2 j W)<|λj e=>d.2 j W⟩
def Tp.uniq{n:K}(h:Tp f n)(g:Tp f m):n=m:=by
 by_cases h1:n<m
 ·exact wS (h.2 m h1) g.1
 ·by_cases c:m<n
  ·exact wS (g.2 n c) h.1
  ·lia
def Tp.nz{n:K}(h:Tp f n):Nz f:=⟨n,h.1⟩
def Tp.fs{n:K}(h:Tp f n):Fs f:=⟨n+1,λk c=>h.2 k W⟩
def Nz.mul{f g:Pz}(c:Fs f)(d:Fs g)(e:Nz f)(h:Nz g):Nz (f*g):=by
 have⟨n,hn⟩:=Tp.ex c e;have⟨m,i⟩:=Tp.ex d h;exact(hn.mul i).nz
def DS(d:Fs f)(e:Fs g)(fq:Fs q)(i:Nz q)(h:f*q=g*q):f=g:=by
 by_cases c:Nz (f-g)
 ·have h1:=Nz.mul (d.subt e) fq c i;have⟨k,j⟩:=h1;rw[jU,h,yX]at j;lia
 ·funext k;have:=Nz.not c k;rw[yX]at this;lia
def zcb{c:J}(hc:c≠0)(h:F c*f=F c*g):f=g:=jp λk=>by
 have:=Wn h k;rw[zN,zN]at this;exact Int.eq_of_mul_eq_mul_left hc this
def Zd(u v:Pz):Prop:=∃q:Pz,Fs q/\v=q*u
def Zd.refl(u:Pz):Zd u u:=⟨F 1,Fs.pc 1,(zC u).symm⟩
def Zd.trans(h:Zd u v)(g:Zd v w):Zd u w:=by
 obtain⟨q,fq,rfl⟩:=h;obtain⟨r,fr,rfl⟩:=g;exact⟨r*q,fr.mul fq,(zd r q u).symm⟩
def Zd.add{u v w:Pz}(h:Zd u v)(g:Zd u w):Zd u (v+w):=by
 obtain⟨q,fq,rfl⟩:=h;obtain⟨r,fr,rfl⟩:=g;exact⟨q+r,fq.add fr,(yR q r u).symm⟩
def Zd.sub(h:Zd u v)(g:Zd u w):Zd u (v-w):=by
 obtain⟨q,fq,rfl⟩:=h;obtain⟨r,fr,rfl⟩:=g;exact⟨q-r,fq.subt fr,(jU q r u).symm⟩
def Zd.mul{u v:Pz}(w:Pz)(c:Fs w)(h:Zd u v):Zd u (w*v):=by
 obtain⟨q,fq,rfl⟩:=h;exact⟨w*q,c.mul fq,(zd w q u).symm⟩
def Zd.left(c:Fs v):Zd u (u*v):=⟨v,c,zk u v⟩
def Pm(f:Pz):Prop:=∀d:K,(∀k,(d:J)∣f k)->d=1
def Pm.nz(h:Pm f):Nz f:=xai λhn=>wS (h 0 λk=>by rw[Nz.not hn k];exact xdM _) i0
def zoM:∀(n d:K),d<=n->2<=d->∃P,2<=P/\ke P/\P∣d
 |0,d,h,i=>by lia
 |n+1,d,h,i=>by
  by_cases hd:ke d
  ·exact⟨d,i,hd,Nat.dvd_refl d⟩
  ·have:∃e,2<=e/\e*e<=d/\d%e=0:=xai λhn=>hd λe e1 j c=>hn ⟨e,e1,j,c⟩;have⟨e,e1,j,c⟩:=this;have p:e<d:=by
    have:e*2<=e*e:=xaC e e1;lia
   have⟨P,k,l,o⟩:=zoM n e W e1;exact⟨P,k,l,Nat.dvd_trans o<|Nat.dvd_of_mod_eq_zero c⟩
theorem zlb{Q:K->Prop}(h:∃i,Q i):∃i,Q i/\∀k,k<i->¬Q k:=by
 have⟨i,hi⟩:=h
 induction i using xdG with
 |ind i c=>
  by_cases hc:∃k,k<i/\Q k
  ·grind
  ·grind
def Gg{P:K}(hp:2<=P)(hn:ke P){f g:Pz}{i:K}(hi:¬(P:J)∣f i)(c:∀k,k<i->(P:J)∣f k)(h:∀k,(P:J)∣(f*g) k):∀n j,j<n->(P:J)∣g j
 |0,j,d=>wS d<|xbq _
 |n+1,j,d=>by
  have p:=Gg hp hn hi c h n;by_cases hd:j<n
  ·simp_all
  ·have e:(P:J)∣yh (i+j+1) (λa=>f a*g (i+j-a))-f i*g (i+j-i):=DC (m:=(P:J)) (f:=λa=>f a*g (i+j-a)) (n:=i+j+1) (j:=i) W λk r s=>by
    show(P:J)∣f k*g (i+j-k);by_cases hc:k<i
    ·exact xbw (c k hc)<|xce _ _
    ·exact xbw (p _ W)<|xcU _ _
   have l:=h<|i+j;rw[wI]at l;rw[(W:i+j-i=j)]at e;have o:=xdB l e;rw[show∀x y:J,x-(x-y)=y by intro x y;lia]at o;obtain h5|h5:=Iy hp hn o
   ·lia
   ·exact h5
def zqs{P:K}(hp:2<=P)(hn:ke P)(h:∀k,(P:J)∣(f*g) k):(∀k,(P:J)∣f k)\/∀k,(P:J)∣g k:=by
 by_cases c:∀k,(P:J)∣f k
 ·simp_all
 ·have⟨i,h1,d⟩:=zlb<|Classical.not_forall.1 c;exact .inr λk=>Gg hp hn h1 (λk e=>Classical.not_not.1<|d k e) h (k+1) k<|xbR k
def Pm.mul(c:Pm f)(i:Pm g):Pm (f*g):=λd hd=>by
 by_cases h1:d=1
 ·exact h1
 ·have:∃P,2<=P/\ke P/\P∣d:=by
   by_cases h0:d=0
   ·exact⟨2,i0,λe e1 o=>by have:2*2<=e*e:=xck e1 e1;lia,by rw[h0];exact⟨0,O⟩⟩
   ·exact zoM d d (IR d) W
  have⟨P,j,l,n⟩:=this;rcases zqs j l λk=>xbw (xcW.2 n) (hd k)with h|h
  ·have:=c P h;lia
  ·have:=i P h;lia
def Pm.left(h:Pm (u*v)):Pm u:=λd hd=>h d λk=>by
 exact dc λi _=>xbw (hd i)<|xce _ _
def Iv{f:K->J}{d:K}:∀n,(∀k,k<n->d∣(f k).natAbs)->d∣Wv f n
 |0,_=>⟨0,O⟩
 |n+1,h=>Nat.dvd_gcd (Iv n λk c=>h k W)<|h n W
def Rs{f:K->J}{c g:K}:∀n,(∀k,k<n->c∣g*(f k).natAbs)->c∣g*Wv f n
 |0,_=>⟨0,O⟩
 |n+1,h=>by
  show c∣g*xdt (Wv f n) (f n).natAbs;rw[<-Nat.gcd_mul_left];exact Nat.dvd_gcd (Rs n λk d=>h k W)<|h n W
def oh{n:K}(h:∀k,n<=k->f k=0)(k:K):((Wv f n:K):J)∣f k:=by
 by_cases c:k<n
 ·exact xcr.1<|by skip;exact CM f n k c
 ·simp_all
def Pm.ex(p:Fs f)(h0:Nz f):∃(c:K) (g:Pz),c≠0/\Fs g/\Pm g/\f=F c*g:=by
 have⟨n,hn⟩:=p;have h:=oh hn;have⟨c,hc⟩:∃c,c=Wv f n:=⟨_,O⟩;rw[<-hc]at h;have r:c≠0:=λe=>by
  have⟨j,t⟩:=h0;have:=h j;rw[e]at this;lia
 have i:=LP<|Cg.of_dvd h;refine⟨c,pdv c f,r,Mz ⟨n,hn⟩,λd hd=> ?_,i.symm⟩;have h1:=Iv n λk _=>by
  have l:=Wn i k;rw[zN]at l;have o:=xga (xej c)<|hd k;rw[l]at o;have x:=xcr.2 o;assumption
 rw[<-hc]at h1;have s:c*d∣c*1:=by rw[xea];exact h1
 exact Nat.dvd_one.1<|Nat.dvd_of_mul_dvd_mul_left W s
def zoQ{c:J}(fq:Fs q)(e:Pm q)(i:Fs w)(h:∀k,c∣(w*q) k)(k:K):c∣w k:=by
 by_cases h0:Nz w
 ·obtain⟨g,v,g0,j,hv,rfl⟩:=Pm.ex i h0;obtain⟨n,hn⟩:=j.mul fq;have l:=(hv.mul e) _<|oh hn;have d:=Rs n λk _=>by
   have:=xcr.2<|h k;rw[zd,zN,xct,xaD]at this;exact this
  rw[l,xea]at d;rw[zN];have o:c∣g:=xcr.1 (by skip;exact d);exact xbw o<|xce _ _
 ·rw[Nz.not h0 k];exact xdM c
def Zd.pm{c:J}(fq:Fs q)(i:Pm q)(hc:c≠0)(h:Zd q (F c*v)):Zd q v:=by
 have⟨w,d,e⟩:=h;have h1:=zoQ fq i d λk=>by rw[<-e,zN];exact xce _ _
 have j:=LP<|Cg.of_dvd h1;refine⟨pdv c w,Mz d,zcb hc ?_⟩;rw[e,<-zd,j]
theorem zgu{b:Pz}{m:K}(d:Tp b m):∀(n:K) (a:Pz),(∀k,n<=k->a k=0)->∃(c:J) (q r:Pz),c≠0/\Fs q/\(∀k,m<=k->r k=0)/\F c*a=q*b+r
 |0,a,h=>⟨1,F 0,F 0,i0,Fs.pc 0,λk _=>zQ k,jp λk=>by rw[zU,yu,zQ,zN,h k W];rfl⟩
 |n+1,a,h=>by
  by_cases hn:n+1<=m
  ·exact⟨1,F 0,a,i0,Fs.pc 0,λk i=>h k W,jp λk=>by rw[zU,yu,zQ,xcS,zC]⟩
  ·have⟨c,q,r,hc,fq,l,j⟩:=zgu d n (F (b m)*a-mono (n-m) (a n)*b) λk i=>by
    rw[yX,VL,zN];unfold sh;rw[zX];by_cases e:k=n
    ·grind
    ·rw[h k W,d.2 (k-(n-m)) W];lia
   refine⟨c*b m,q+F c*mono (n-m) (a n),r,xcT hc d.1,fq.add<|(Fs.pc c).mul ⟨n+1,λk i=>zB⟩,l,?_⟩;rw[yR,<-kf,zd (F c) (F<|b m) a,zd (F c) _ b];rw[qp]at j;funext k;have:=Wn j k;simp only[zU,yX]at this⊢;lia
def zk3(c:Nz a)(e:∀k,b k=0):∃(d s t:Pz) (α β:J),Nz d/\Fs s/\Fs t/\d=s*a+t*b/\α≠0/\β≠0/\Zd d (F α*a)/\Zd d (F β*b):=
 ⟨a,F 1,F 0,1,1,c,Fs.pc 1,Fs.pc 0,jp λk=>by rw[zU,zC,yu,zQ,xcd],i0,i0,⟨F 1,Fs.pc 1,O⟩,⟨F 0,Fs.pc 0,jp λk=>by rw[zN,e k,yu,zQ];rfl⟩⟩
def zqk:∀(n:K) (a b:Pz),Fs a->Nz a->(∀k,n<=k->b k=0)->∃(d s t:Pz) (α β:J),Nz d/\Fs s/\Fs t/\d=s*a+t*b/\α≠0/\β≠0/\Zd d (F α*a)/\Zd d (F β*b):=by
 intro n
 induction n with
 |zero=>intro a b p l j;exact zk3 l λk=>j k<|xan k
 |succ n B=>
  intro a b p l j;by_cases nb:Nz b
  ·have x:Fs b:=⟨n+1,j⟩;have⟨m,y⟩:=Tp.ex x nb;have L:m<=n:=by
    by_cases h:m<=n
    ·exact h
    ·exact wS (j m W) y.1
   have⟨N,C⟩:=p;have⟨c,q,r,hc,fq,D,z⟩:=zgu y N a C;have⟨d,s,t,α,β,E,fs,A,hd,i,o,h1,G⟩:=B b r x nb λk M=>D k W;have H:r=F c*a-q*b:=jp λk=>by
    have:=Wn z k;simp only[zU,yX]at this⊢;lia
   refine⟨d,t*F c,s-t*q,α*β*c,α,E,A.mul<|Fs.pc c,fs.subt<|A.mul fq,?_,xcT (xcT i o) hc,i,?_,h1⟩
   ·rw[hd,H,qp,jU,<-zd,<-zd];funext k;simp only[zU,yX];lia
   ·have e:F (α*β*c)*a=(F β*q)*(F α*b)+F α*(F β*r):=by rw[<-kf (α*β) c,zd (F<|α*β) (F c) a,z,wC,<-kf α β,zd (F β) q,zD q (F α) b,zD (F β)<|F α,zd (F α)<|F β,zd (F α)<|F β]
    rw[e];exact(h1.mul _<|(Fs.pc β).mul fq).add<|G.mul _<|Fs.pc α
  ·exact zk3 l<|Nz.not nb
def zpl(k:Fs a)(r:Nz a)(x:Fs b):∃(g s t:Pz) (γ:J),Fs g/\Pm g/\Fs s/\Fs t/\γ≠0/\F γ*g=s*a+t*b/\Zd g a/\Zd g b:=by
 have⟨n,hn⟩:=x;have⟨d,s,t,α,β,y,fs,l,hd,e,h,h1,z⟩:=zqk n a b k r hn;have A:Fs d:=by rw[hd];exact(fs.mul k).add<|l.mul ⟨n,hn⟩
 have⟨c,g,hc,i,j,o⟩:=Pm.ex A y;have p:Zd g d:=⟨F c,Fs.pc c,o⟩;exact⟨g,s,t,c,i,j,fs,l,W,o.symm.trans hd,Zd.pm i j e<|p.trans h1,Zd.pm i j h<|p.trans z⟩
def mI(u:Pz):Prop:=∀k,1<=k->u k=0
def mI.ex(h:mI u):∃c,u=F c:=⟨u 0,jp λk=>by
 unfold F;by_cases e:k=0
 ·simp_all
 ·rw[ir e];exact h k W⟩
def Ga{c:J}(h:Pm (F c)):c=1\/c= -1:=by
 have h1:=h c.natAbs λk=>by
  unfold F;split
  ·exact Int.natAbs_dvd.2<|xej _
  ·simp_all
 lia
structure Ir(q:Pz):Prop where
 fs:Fs q
 pm:Pm q
 dg:¬mI q
 ir:∀u v,Fs u->Fs v->q=u*v->mI u\/mI v
def Ir.prime(d:Ir q)(fu:Fs u)(k:Fs v)(h:Zd q (u*v)):Zd q u\/Zd q v:=by
 have⟨g,s,t,γ,l,n,fs,o,i,p,⟨w,r,j⟩,x,fx,y⟩:=zpl d.fs d.pm.nz fu;obtain hc|hc:=d.ir w g r l j
 ·left;obtain⟨c,rfl⟩:=hc.ex;have z:=(j▸d.pm:Pm (F c*g)).left;refine⟨x*F c,fx.mul<|Fs.pc c,?_⟩;have hd:c*c=1:=by obtain e|e:=Ga z<;>rw[e]<;>rfl
  rw[j,zd,<-zd (F c) (F c) g,kf,hd,zC,y]
 ·right;obtain⟨c,rfl⟩:=hc.ex;have A:c≠0:=λe=>by
   have:=Ga n;lia
  refine Zd.pm d.fs d.pm (xcT i A) ?_;rw[<-kf,p,yR];refine Zd.add ⟨s*v,fs.mul k,?_⟩ ?_
  ·rw[zd,zd,zk q v]
  ·rw[zd];exact h.mul t o
def Po(q:Pz):Prop:=∃n,0<q n/\∀k,n<k->q k=0
def Po.tp(h:Po q):∃n,Tp q n/\0<q n:=by
 have⟨n,h1,c⟩:=h;exact⟨n,⟨W,c⟩,h1⟩
def Ir.eq{r:Pz}(i:Ir q)(j:Ir r)(o:Po q)(pr:Po r)(h:Zd q r):q=r:=by
 have⟨w,p,d⟩:=h;obtain hc|hc:=j.ir w q p i.fs d
 ·obtain⟨c,rfl⟩:=hc.ex;have s:=(d▸j.pm:Pm (F c*q)).left;obtain e|e:=Ga s
  ·rw[d,e,zC]
  ·have⟨n,h1,z⟩:=o.tp;have⟨m,t,x⟩:=pr.tp;have l:Tp (F c*q) n:=⟨by rw[zN,e];lia,λk y=>by rw[zN,h1.2 k y,xaA]⟩;rw[<-d]at l;obtain rfl:=l.uniq t;rw[d,zN,e]at x;lia
 ·exact wS hc i.dg
def mI.tp{n:K}(h:Tp u n):mI u↔n=0:=⟨λhc=>xai λe=>h.1 (hc n W),λe k c=>h.2 k W⟩
def Po.or(fu:Fs u)(h:Nz u):Po u\/Po (F (-1)*u):=by
 have⟨n,hn⟩:=Tp.ex fu h;have:=hn.1;by_cases hp:0<u n
 ·exact .inl ⟨n,hp,hn.2⟩
 ·exact .inr ⟨n,by rw[zN];lia,λk c=>by rw[zN,hn.2 k c,xaA]⟩
def Pm.neg(h:Pm u):Pm (F (-1)*u):=λd hd=>h d λk=>by
 have:=hd k;rw[zN]at this;simp_all
def Ir.neg{u:Pz}(h:Ir u):Ir (F (-1)*u):=by
 refine⟨(Fs.pc _).mul h.fs,h.pm.neg,λhc=>h.dg λk c=> ?_,λa b d i e=> ?_⟩
 ·have:=hc k c;rw[zN]at this;lia
 ·have:u=(F (-1)*a)*b:=by
   rw[zd,<-e,<-zd,kf];exact(zC u).symm
  rcases h.ir _ b ((Fs.pc _).mul d) i this with hc|hc
  ·left;intro k c;have:=hc k c;rw[zN]at this;lia
  ·simp_all
def Ir.ex:∀(n:K) {f:Pz}{m:K},m<=n->Tp f m->Pm f->1<=m->∃q,Ir q/\Po q/\Zd q f
 |0,f,m,h,_,_,h1=>by lia
 |n+1,f,m,h,ht,hp,h1=>by
  by_cases hi:Ir f
  ·obtain h2|h2:=Po.or hi.fs hp.nz
   ·exact⟨f,hi,h2,Zd.refl f⟩
   ·refine⟨_,hi.neg,h2,F (-1),Fs.pc _,?_⟩;rw[<-zd,kf];exact(zC f).symm
  ·have:∃u v,Fs u/\Fs v/\f=u*v/\¬mI u/\¬mI v:=xai λhn=>hi ⟨ht.fs,hp,λhc=>by have:=(mI.tp ht).1 hc;lia,λu v fu c e=>xai λhc=>hn ⟨u,v,fu,c,e,λh=>hc (.inl h),λh=>hc (.inr h)⟩⟩;have⟨u,v,fu,c,e,l,cv⟩:=this;have j:=(e▸hp:Pm (u*v)).left;have hv:Pm v:=by rw[e,zk]at hp;exact hp.left
   have⟨a,d⟩:=Tp.ex fu j.nz;have⟨b,k⟩:=Tp.ex c hv.nz;have i:=(d.mul k);rw[<-e]at i;have i:=i.uniq ht;have hd:b≠0:=λh=>cv<|(mI.tp k).2 h;have p:a≠0:=λh=>l<|(mI.tp d).2 h;have⟨q,q1,q2,o⟩:=Ir.ex n W d j W;exact⟨q,q1,q2,o.trans<|by rw[e];exact Zd.left c⟩
end
section
variable{q f:Pz}{m:wr}{a b:xS Zr}
def Pm.one:Pm (F 1):=λd hd=>by
 have:=hd 0;exact Nat.dvd_one.1<|xcW.1 this
def Pm.pp{q:Pz}(h:Pm q):∀n,Pm (pp q n)
 |0=>Pm.one
 |n+1=>(Pm.pp h n).mul h
def Po.one:Po (F 1):=⟨0,i0,λk c=>by unfold F;rw[zB]⟩
def Ir.one(h:Ir q):¬Zd q (F 1):=λ⟨w,d,e⟩=>by
 have⟨a,c⟩:=Tp.ex h.fs h.pm.nz;have g:Nz w:=xai λhn=>by
  have:=Wn e 0;rw[wI,yL λk _=>by rw[Nz.not hn k,xbd]]at this;exact wS this i0
 have⟨b,i⟩:=Tp.ex d g;have h1:=i.mul c;rw[<-e]at h1;have j:=h1.uniq (m:=0) ⟨i0,λk l=>by unfold F;rw[zB]⟩;exact h.dg<|(mI.tp c).2 W
def Mu(q f:Pz)(n:K):Prop:=∃u,Fs u/\f=u*pp q n/\¬Zd q u
def Mu.ex{q:Pz}(c:Ir q)(m:K):∀{f:Pz},Tp f m->∃n,n<=m/\Mu q f n:=by
 induction m using xdG with
 |ind m j=>
  intro f d;by_cases hd:Zd q f
  ·have⟨u,fu,e⟩:=hd;have l:Nz u:=xai λhn=>by
    refine d.1 ?_;rw[e,wI,yL λk _=>by rw[Nz.not hn k,xbd]]
   have⟨a,g⟩:=Tp.ex fu l;have⟨b,i⟩:=Tp.ex c.fs c.pm.nz;have h1:=g.mul i;rw[<-e]at h1;have h1:=h1.uniq d;have hc:b≠0:=λh=>c.dg<|(mI.tp i).2 h;have⟨n,hn,v,o,p,hv⟩:=j a W g;refine⟨n+1,W,v,o,?_,hv⟩;show f=v*(pp q n*q);rw[e,p,zd]
  ·exact⟨0,xan m,f,d.fs,(yf f).symm,hd⟩
theorem Mu.mul{q f g:Pz}{n m:K}(d:Ir q)(e:Mu q f n)(i:Mu q g m):Mu q (f*g) (n+m):=by
 obtain⟨u,fu,rfl,j⟩:=e;obtain⟨v,c,rfl,hv⟩:=i;refine⟨u*v,fu.mul c,?_,λh=> ?_⟩
 ·rw[Cl,zd,zd,zD<|pp q n]
 ·obtain h|h:=d.prime fu c h
  ·grind
  ·grind
def Mu.lt{n:K}(c:Ir q)(h:Mu q f n)(g:Mu q f m):¬n<m:=λk=>by
 have⟨u,fu,e1,i⟩:=h;have⟨v,e,j,hv⟩:=g;obtain⟨d,rfl⟩:∃d,m=d+1+n:=⟨m-1-n,W⟩;refine i ⟨v*pp q d,e.mul<|c.fs.pp d,?_⟩;refine DS fu ((e.mul<|c.fs.pp d).mul c.fs) (c.fs.pp n) (c.pm.pp n).nz ?_;rw[<-e1,j,Cl,zd<|v*pp q d,zd v];show v*(pp q d*q*pp q n)=_;rw[zd<|pp q d]
def Mu.uniq{n:K}(c:Ir q)(h:Mu q f n)(g:Mu q f m):n=m:=by
 have:=h.lt c g;have:=g.lt c h;lia
def Mu.zero(c:Fs f)(h:¬Zd q f):Mu q f 0:=⟨f,c,(yf f).symm,h⟩
def Ir.pp{q r:Pz}(c:Ir q)(d:Fs r):∀n,Zd q (pp r n)->Zd q r
 |0,h=>wS h c.one
 |n+1,h=>by
  rcases c.prime (d.pp n) d h with h|h
  ·exact Ir.pp c d n h
  ·exact h
theorem Ir.prz{q:Pz}(d:Ir q):∀{l:N Pz},(∀r∈l,Fs r)->Zd q (prZ l)->∃r,r∈l/\Zd q r
 |[],_,h=>wS h d.one
 |r::l,hl,h=>by
  rcases d.prime (hl r<|H1) (Fs.prZ λx c=>hl x<|UV _ c) h with h|h
  ·simp_all
  ·have⟨x,c,h⟩:=Ir.prz d (λx c=>hl x<|UV _ c) h;grind
def prM:N (Pz×K)->Pz
 |[]=>F 1
 |x::r=>pp x.1 x.2*prM r
def MQ:∀{l:N (Pz×K)},(∀x∈l,Fs x.1)->Fs (prM l)
 |[],_=>Fs.pc 1
 |x::r,h=>((h x<|H1).pp _).mul<|MQ λy c=>h y<|UV _ c
def zfy{q:Pz}(c:Ir q)(e:Po q):∀{l:N (Pz×K)},(∀x∈l,Ir x.1/\Po x.1/\q≠x.1)->¬Zd q (prM l)
 |[],_,h=>c.one h
 |x::r,hl,h=>by
  have⟨h1,i,j⟩:=hl x<|H1;have g:=λy d=>hl y<|UV _ d;rcases c.prime (h1.fs.pp _) (MQ λy d=>(g y d).1.fs) h with h|h
  ·exact j<|c.eq h1 e i<|c.pp h1.fs _ h
  ·exact zfy c e g h
def mus{f:Pz}(d:Fs f)(g:Nz f):∀{l:N (Pz×K)},l.Pairwise (λx y=>x.1≠y.1)->(∀x∈l,Ir x.1/\Po x.1/\Mu x.1 f x.2)->∃u,Fs u/\f=u*prM l/\∀x∈l,¬Zd x.1 u
 |[],_,_=>⟨f,d,(yf f).symm,λ_ h=>wS h Nm⟩
 |x::r,hp,h=>by
  have⟨h1,o,p⟩:=h x<|H1;rw[xdl]at hp;have c:=λy hy=>h y<|UV _ hy;have⟨u,fu,e,s⟩:=mus d g hp.2 c;have t:Nz u:=xai λhn=>by
   have⟨k,v⟩:=g;rw[e,wI,yL λk _=>by rw[Nz.not hn k,xbd]]at v;lia
  have⟨m,z⟩:=Tp.ex fu t;have⟨n,_,hn⟩:=Mu.ex h1 m z;have A:=Mu.zero (MQ λy hy=>(c y hy).1.fs)<|zfy h1 o λy hy=>⟨(c y hy).1,(c y hy).2.1,hp.1 y hy⟩;have i:=hn.mul h1 A;rw[<-e]at i;obtain rfl:n=x.2:=(i.uniq h1 p);have⟨w,B,j,C⟩:=hn;refine⟨w,B,?_,λy hy=> ?_⟩
  ·show f=w*(pp x.1 x.2*prM r);rw[<-zd,<-j,e]
  ·obtain rfl|hy:=xaf.1 hy
   ·exact C
   ·exact λD=>s y hy<|by rw[j,zk];exact D.mul _<|h1.fs.pp _
theorem zjz(o:Fs f)(j:Nz f){l:N (Pz×K)}(hp:l.Pairwise λx y=>x.1≠y.1)(h:∀x∈l,Ir x.1/\Po x.1/\Mu x.1 f x.2)(p:∀q,Ir q->Po q->Zd q f->∃x∈l,x.1=q):∃c,c≠0/\f=F c*prM l:=by
 have⟨u,fu,e,A⟩:=mus o j hp h;have r:Nz u:=xai λhn=>by
  have⟨k,s⟩:=j;rw[e,wI,yL λk _=>by rw[Nz.not hn k,xbd]]at s;lia
 obtain⟨c,g,hc,t,i,rfl⟩:=Pm.ex fu r;have⟨m,n⟩:=Tp.ex t i.nz;by_cases h1:1<=m
 ·have⟨q,q1,q2,v⟩:=Ir.ex m (IR m) n i h1;have w:Zd q (F c*g):=v.mul _<|Fs.pc _;obtain⟨x,B,rfl⟩:=p q q1 q2 (by rw[e,zk];exact w.mul _<|MQ λy z=>(h y z).1.fs);grind
 ·obtain⟨d,rfl⟩:=((mI.tp n).2 W).ex;refine⟨c*d,xcT W ?_,by rw[e,kf]⟩;have:=Ga i;lia
def Ho(f g:K->J):K->J
 |0=>0
 |n+1=>if f n=g n then Ho f g n else if f n<g n then-1 else 1
theorem MY(f g:K->J):∀n,Ho g f n= -Ho f g n
 |0=>rfl
 |n+1=>by
  unfold Ho;by_cases h:f n=g n
  ·rw[iq h,iq h.symm];exact MY f g n
  ·lia
theorem Nb(f g:K->J):∀n,Ho f g n=0->∀k,k<n->f k=g k
 |0,_,k,h=>wS h<|xbq _
 |n+1,h,k,c=>by
  unfold Ho at h;by_cases h1:f n=g n
  ·rw[iq h1]at h;by_cases e:k=n
   ·grind
   ·exact Nb f g n h k W
  ·lia
def GX(f g h:K->J):∀n,Ho f g n<=0->Ho g h n<=0->Ho f h n<=0
 |0,_,_=>xgb 0
 |n+1,h1,c=>by
  unfold Ho at h1 c⊢;by_cases e1:f n=g n
  ·rw[iq e1]at h1;by_cases d:g n=h n
   ·rw[iq d]at c;rw[iq<|e1.trans d];exact GX f g h n h1 c
   ·lia
  ·lia
def QY(a b:N M):J:=if X a=X b then Ho (G a) (G b) (X a) else if X a<X b then-1 else 1
theorem X9(a b:N M):QY b a= -QY a b:=by grind [QY,MY]
def TR{c:N M}(h1:QY a b<=0)(d:QY b c<=0):QY a c<=0:=by
 unfold QY at h1 d⊢;by_cases e1:X a=X b
 ·rw[iq e1]at h1;by_cases e:X b=X c
  ·rw[iq e,<-e1]at d;rw[iq<|e1.trans e];exact GX _ _ _ _ h1 d
  ·lia
 ·lia
def Br(d:yo a=a)(e:yo b=b)(h:∀k,G a k=G b k):a=b:=by
 rw[<-d,<-e];exact Xt (λk c=>ye c) (λk c=>ye c) h
def zdl(c:yo a=a)(d:yo b=b)(h:QY a b=0):a=b:=by
 unfold QY at h;by_cases e:X a=X b
 ·rw[iq e]at h;have h1:=Nb _ _ _ h;refine Br c d λk=> ?_;by_cases g:k<X a
  ·simp_all
  ·rw[ye W,ye W]
 ·lia
structure FL(f:Pz)(l:N (N M×J)):Prop where
 el:∀x∈l,yo x.1=x.1/\Ir (G x.1)/\Po (G x.1)/\1<=x.2/\Mu (G x.1) f x.2.toNat
 al:∀q,Ir q->Po q->Zd q f->∃x∈l,G x.1=q
 so:l.Pairwise λx y=>QY x.1 y.1<0
end
def Kn{n:K}{f g:K->kw}{t:kw}(h:∀i,i<n->f i=g i):xB n f t=xB n g t:=vV λi hi=>by rw[h i hi]
def zek(t:kw)(v:Pz)(N:wr)(hv:∀i,N<=i->v i=0):∀(M:wr) (u:Pz),(∀i,M<=i->u i=0)->∀K,M+N<=K->xB K (λk=>(((u*v) k:J):kw)) t=xB M (λi=>(u i:kw)) t*xB N (λi=>(v i:kw)) t
 |0,u,a,K,_=>by
  show _=0*_;rw[xeA];rw[<-GA K t];refine Kn λk _=> ?_;have:(u*v) k=0:=by rw[wI];exact yL λi _=>by rw[a i<|xan _,xbd]
  rw[this];rfl
 |M+1,u,a,K,q=>by
  have⟨w,b⟩:∃w:Pz,w=λi=>if i<M then u i else 0:=⟨_,O⟩;have⟨z,d⟩:∃z:Pz,z=λi=>if i=M then u M else 0:=⟨_,O⟩;have e:u=w+z:=by
   funext i;rw[zU,b,d];by_cases h:i<M
   ·simp[h,(W:i≠M)]
   ·by_cases l:i=M
    ·simp[l]
    ·simp[h,l,a i W]
  have j:∀k,(z*v) k=if M<=k then u M*v (k-M)else 0:=λk=>by
   rw[wI,wA (i:=M)<|λi hi=>by rw[d];simp[hi]];by_cases h:M<=k
   ·rw[zX,iq h,d];simp
   ·rw[zB,ir h]
  have m:=zek t v N hv M w (λi hi=>by rw[b];simp;lia) K W;have e1:xB M (λi=>(w i:kw)) t=xB M (λi=>(u i:kw)) t:=Kn λi hi=>by rw[b];simp[hi]
  have n:=UO (β:=λi=>(v i:kw)) (g:=λk=>(((z*v) k:J):kw)) (c:=(u M:kw)) (e:=M) (λi hi=>by rw[j,zB];rfl) N (λi hi=>by rw[j,zX,(W:M+i-M=i),xbs]) t;have o:=UQ (f:=λk=>(((z*v) k:J):kw)) (W:M+N<=K) (λi hi=>by
   rw[j];split
   ·rw[hv _ W,xaA];rfl
   ·rfl) t
  have p:xB K (λk=>(((u*v) k:J):kw)) t=xB K (λk=>(((w*v) k:J):kw)) t+xB K (λk=>(((z*v) k:J):kw)) t:=by
   rw[<-bC];exact Kn λk _=>by rw[e,yR,zU,Rat.intCast_add]
  rw[p,m,o,n,e1];show _=(xB M (λi=>(u i:kw)) t+(u M:kw)*t^M)*_;grind
def Ta(g:K->kw):∀N,∃(D:K) (G:Pz),0<D/\(∀i,i<N->g i*D=G i)/\∀i,N<=i->G i=0
 |0=>⟨1,F 0,i0,λi hi=>wS hi<|xbq _,λi _=>zQ i⟩
 |N+1=>by
  have⟨D,G,h0,h1,a⟩:=Ta g N;refine⟨D*(g N).den,λi=>if i<N then G i*(g N).den else if i=N then(g N).num*D else 0,xdy h0 (g N).den_pos,λi hi=> ?_,λi hi=>by show(if i<N then _ else if i=N then _ else 0)=_;rw[zB,zB]⟩;have hd:((g N).den:kw)≠0:=λe=>by
   have:=xec.1<|e.trans (by rfl:(0:kw)=((0:K):kw));exact(g N).den_nz this
  have hn:g N*((g N).den:kw)=((g N).num:kw):=by
   have:=xfS (g N).num (g N).den;rw[Rat.mkRat_self]at this;rw[this];grind
  show _=(((if i<N then G i*(g N).den else if i=N then(g N).num*D else 0):J):kw);by_cases h:i<N
  ·rw[iq h,xda,xbs,<-h1 i h];show _=g i*(D:kw)*((g N).den:kw);grind
  ·have:i=N:=W
   subst this;rw[ir h,iq O,xda,xbs,<-hn];show _=g i*((g i).den:kw)*(D:kw);grind
def znp{P:Pz}{d:wr}{β:wr->kw}(p:Ir P)(o:Tp P d)(c:∀i,β i*(P d:kw)=(P i:kw)):Irq d β:=by
 rintro A n f ⟨N,g,H⟩ hn L;have⟨D,G,D0,M,hd⟩:=Ta g N;have⟨E,F,Q,x,r⟩:=Ta f<|n+1;have s:∀{k:wr},0<k->(k:kw)≠0:=λ{k} j e=>by have:=xec.1<|e.trans (by rfl:(0:kw)=((0:wr):kw));lia
 have b:pc ((D:J)*E)*P=pc (P d)*(G*F):=by
  funext k;have⟨K,hK⟩:∃K,K=max (max (d+1)<|N+(n+1)) (k+1):=⟨_,O⟩;have h1:∀t,xB K (λi=>(((pc ((D:J)*E)*P) i:J):kw)) t=xB K (λi=>(((pc (P d)*(G*F)) i:J):kw)) t:=λt=>by
   have R:xB K (λi=>(((pc ((D:J)*E)*P) i:J):kw)) t=(D:kw)*E*((P d:kw)*xB (d+1) β t):=by
    rw[<-Xn,<-Xn,<-UQ (f:=λi=>(D:kw)*E*((P d:kw)*β i)) (W:d+1<=K) (λi hi=>by
     have:=c i;rw[o.2 i W]at this;have h0:β i*(P d:kw)=0:=this;grind)]
    exact Kn λi _=>by rw[zN,xbs,xbs,<-c i];show(D:kw)*(E:kw)*(β i*(P d:kw))=_;grind
   have S:xB K (λi=>(((pc (P d)*(G*F)) i:J):kw)) t=(P d:kw)*xB K (λi=>(((G*F) i:J):kw)) t:=by rw[<-Xn];exact Kn λi _=>by rw[zN,xbs]
   have a3:xB N (λi=>(G i:kw)) t=(D:kw)*A t:=by rw[H,<-Xn];exact Kn λi hi=>by rw[<-M i hi];grind
   have a4:xB (n+1) (λi=>(F i:kw)) t=(E:kw)*xB (n+1) f t:=by rw[<-Xn];exact Kn λi hi=>by rw[<-x i hi];grind
   rw[R,S,zek t F (n+1) r N G hd K W,a3,a4,L];grind
  exact Rat.intCast_inj.1<|zbz h1 k W
 have hc:=o.1;have T:Zd P (G*F):=Zd.pm p.fs p.pm hc ⟨pc<|(D:J)*E,Fs.pc _,b.symm⟩;have y:Fs G:=⟨N,hd⟩;have U:Fs F:=⟨n+1,r⟩;have v:Tp F n:=⟨λe=>by
  have:=x n W;rw[e]at this;have h0:f n*(E:kw)=0:=this;have:=s Q;grind,λk j=>r k W⟩
 have z:Tp (pc ((D:J)*E)*P) d:=⟨by rw[zN];exact xcT (xcT W W) hc,λk j=>by rw[zN,o.2 k j,xaA]⟩;have V:Nz G:=xai λh=>by
  have:=z.1;rw[b,zN,wI]at this;exact this<|by rw[yL λi _=>by rw[Nz.not h i,xbd],xaA]
 have⟨B,w⟩:=Tp.ex y V;have Y:Tp (pc (P d)*(G*F)) (B+n):=⟨by rw[zN];exact xcT hc (w.mul v).1,λk j=>by rw[zN,(w.mul v).2 k j,xaA]⟩;have hf:d=B+n:=z.uniq<|b▸Y;have l:∀{u:Pz}{m:wr},Tp u m->Zd P u->d<=m:=λ{u m} C ⟨q,fq,e⟩=>by
  have s:Nz q:=xai λh=>by
   have:=C.1;rw[e,wI]at this;exact this<|yL λi _=>by rw[Nz.not h i,xbd]
  have⟨a,ta⟩:=Tp.ex fq s;have:=C.uniq<|e▸ta.mul o;lia
 obtain h|h:=p.prime y U T
 ·have:=l w h;left;lia
 ·have:=l v h;right;lia
section
variable{a b k:wr}{p:wl}{f u v g q:Pz}
def zkl{A B:Pz}{d e:K}(c:Mn A d)(h:Mn B e):Mn (A*B) (d+e):=
 ⟨by rw[KR c.2 h.2,c.1,h.1];rfl,λk l=>ue (n:=d+1) (m:=e+1) (λj i=>c.2 j W)<|λj i=>h.2 j W⟩
def zhC:∀{l:N Pz},(∀A∈l,∃d,Mn A d)->∃d,Mn (prZ l) d
 |[],_=>⟨0,O,λk j=>by show F 1 k=0;unfold F;rw[zB]⟩
 |A::l,h=>by
  have⟨d,hd⟩:=h A<|H1;have⟨e,c⟩:=zhC λB i=>h B<|UV _ i;exact⟨d+e,zkl hd c⟩
def mh{α:Type}(F:α->Pz)(P:α->qR):∀l:N α,prZ (l.map F)=prZ ((l.filter P).map F)*prZ ((l.filter λx=> !P x).map F)
 |[]=>(yf _).symm
 |x::l=>by
  have c:=mh F P l
  cases h:P x with
  |true=>
   rw[xft h,xfu<|by rw[h];decide];show F x*_=F x*_*_;rw[c,zd]
  |false=>
   rw[xfu (by rw[h];decide),xft<|by rw[h];rfl];show F x*_=_*(F x*_);rw[c,zD]
def SE{P:J}(hp:qk P=wL){a b:Pz}{c:J}(s:Fs a)(t:Fs b)(h:Cg P (a*b) (F c))(hc:¬P∣c):∃x,Cg P a (F x):=by
 have⟨E,G⟩:=zw hp;obtain⟨Q,rfl⟩:=xaE (W:0<=P);have l:=X4 hp;rw[xbe]at l;have d:∀f:Pz,Fs f->¬Cg (Q:J) f (F 0)->∃g n,Tp g n/\Cg (Q:J) g f/\¬(Q:J)∣g n:=λf w hn=>by
  have f2:Fs (λk=>f k%(Q:J)):=by
   have⟨n,hn⟩:=w;exact⟨n,λk y=>by show f k%_=0;rw[hn k y,xau]⟩
  have⟨n,h1⟩:=Tp.ex f2 (xai λz=>hn λk=>by
   have:=Nz.not z k;rw[zQ,xau];exact this)
  exact⟨_,n,h1,λk=>xaW _ _,λhd=>h1.1 (by
   show f n%_=0;have:=xaz hd;rwa[xaW]at this)⟩
 have A:¬Cg (Q:J) a (F 0):=λe=>hc (by
  have:=(h.symm.trans<|e.mul_zero_r b).dvd 0;unfold F at this;rwa[iq O]at this)
 have B:¬Cg (Q:J) b (F 0):=λe=>hc (by
  have:=(h.symm.trans<|e.mul_zero_l a).dvd 0;unfold F at this;rwa[iq O]at this)
 have⟨u,i,m,o,H⟩:=d a s A;have⟨v,j,v1,C,v3⟩:=d b t B;have h1:=(o.mul C).trans h;by_cases D:i=0
 ·subst D;obtain⟨x,rfl⟩:=((mI.tp m).2 O).ex;exact⟨x,o.symm⟩
 ·exfalso;have r:=h1<|i+j;rw[KR m.2 v1.2,show F c (i+j)=0 from zB,xau]at r;rcases Iy W l (xaH r)with h3|h3
  ·lia
  ·exact v3 h3
theorem ov{p a:J}(hp:qk p=wL)(d:a%p≠0):∀k,∃w,p^k∣w*a-1
 |0=>⟨0,by rw[xcj];exact Int.one_dvd _⟩
 |k+1=>by
  have⟨l,m⟩:=zw hp;by_cases i:k=0
  ·subst i;obtain⟨Q,rfl⟩:=xaE (W:0<=p);have⟨w,c⟩:=TC hp λh=>d<|xaz h;grind
  ·have⟨w,c⟩:=ov hp d k;refine⟨w*(2-w*a),?_⟩;have e:w*(2-w*a)*a-1= -((w*a-1)*(w*a-1)):=by grind
   rw[e];refine Int.dvd_neg.2<|xbw (gJ (j:=k+k)) ?_;rw[Int.pow_add];exact xga c c
abbrev Lx:=N M×N J
def pu(xs:N Lx):Pz:=prZ<|xs.map λx=>(G x.1:Pz)
def pl(xs:N Lx):Pz:=prZ<|xs.map λx=>(C x.2:Pz)
def zkZ(xs:N Lx):Fs (pu xs):=Fs.prZ λf c=>by
 obtain⟨x,_,rfl⟩:=xas.1 c;exact Fs.cf _
def zoV(xs:N Lx):Fs (pl xs):=Fs.prZ λf c=>by
 obtain⟨x,_,rfl⟩:=xas.1 c;exact Fs.ci _
structure Lc(p:J)(k:K)(f:Pz)(n:K)(xs:N Lx):Prop where
 hp:qk p=wL
 k1:1<=k
 el:∀x∈xs,Up p k x.1 x.2/\Qx p x.2/\x.2.length<=66
 pw:xs.Pairwise λa b=>jZ p (C a.2)<|C b.2
 tp:Tp f n
 nb:n<=64
 ps:0<f n
 lc:f n%p≠0
 pm:Pm f
 cg:Cg (p^k) f (F (f n)*pu xs)
def znP{x:Lx}(h:Up p k x.1 x.2/\Qx p x.2/\X x.2<=66):Mn (G x.1) (X x.2-1):=by
 have⟨h1,d,_⟩:=h;have c:=h1.top;rw[h1.len]at c;exact⟨c,λj e=>ye<|by rw[h1.len];lia⟩
def Oh{p:J}{k:K}:∀{xs:N Lx},(∀x∈xs,Up p k x.1 x.2/\Qx p x.2/\X x.2<=66)->Cg p (pu xs) (pl xs)
 |[],_=>Cg.rfl
 |x::xs,h=>(h x<|H1).1.cg.mul<|Oh λy c=>h y<|UV _ c
def zo6{xs:N Lx}(h:∀x∈xs,Up p k x.1 x.2/\Qx p x.2/\X x.2<=66):∃d,Mn (pu xs) d:=zhC λA c=>by
 obtain⟨x,e,rfl⟩:=xas.1 c;exact⟨_,znP<|h x e⟩
def zfP{xs:N Lx}(h:∀x∈xs,Up p k x.1 x.2/\Qx p x.2/\X x.2<=66):∃d,Mn (pl xs) d:=zhC λA c=>by
 obtain⟨x,e,rfl⟩:=xas.1 c;exact⟨_,(h x e).2.1.mn.mn⟩
def Lc.lcp{n:K}{xs:N Lx}(h:Lc p k f n xs):Cg p f (F (f n)*pl xs):=
 (h.cg.down<|kz h.k1).trans (Cg.rfl.mul<|Oh h.el)
def Lc.sf{n:K}{xs:N Lx}(h:Lc p k f n xs):∃(m:N J) (w:J),Sf p m (xs.map (·.2))/\Cg p (C m) (F w*f):=by
 have⟨A,B⟩:=zw h.hp;have⟨w,i⟩:=ov h.hp h.lc 1;rw[xbU,xcj,xdg]at i;have o:∀k,n+1<=k->(λk=>(w*f k)%p) k=0:=λk D=>by
  show(w*f k)%p=0;rw[h.tp.2 k W,xaA,xau]
 have hc:(w*f n)%p=1:=by
  have:=(xcF (w*f n)<|xej p);have d:(w*f n)%p=1%p:=xaO.2<|xaz i;rw[d,xaJ i0 W]
 have c:=Cz o;have hd:=tD (n+1)<|λk=>(w*f k)%p;have r:=FP (n+1)<|λk=>(w*f k)%p;have⟨m,s⟩:∃m,m=nl (n+1) (λk=>(w*f k)%p):=⟨_,O⟩;rw[<-s]at c hd r;have t:X m=n+1:=by
  by_cases e:X m=n+1
  ·exact e
  ·have:=c n;rw[yp W]at this;lia
 have l:Cg p (C m) (F w*f):=λk=>by rw[c k,zN];exact xaW _ _
 refine⟨m,w,⟨h.hp,⟨⟨λk=>by rw[c k];exact(xi).1,λk=>by rw[c k];exact(xi).2,hd⟩,W,by rw[c];show(w*f (X m-1))%p=1;rw[t];exact hc⟩,by have:=h.nb;lia,λu y=> ?_,?_,?_⟩,l⟩
 ·obtain⟨x,z,rfl⟩:=xas.1 y;have⟨_,d,E⟩:=h.el x z;exact⟨d,W⟩
 ·exact xew.2 h.pw
 ·refine l.trans<|(Cg.rfl.mul h.lcp).trans ?_;rw[<-zd,kf,xcN];refine Cg.trans (Cg.mul (f':=F 1) (λj=> ?_) Cg.rfl)<|Cg.of<|zC _;unfold F;split
  ·rw[hc];exact(xaJ i0 W).symm
  ·rfl
noncomputable def own(p:J)(u:Pz)(xs:N Lx):N Lx:=by
 classical exact xs.filter λx=>decide<|Di p (C x.2) u
noncomputable def RR(p:J)(u:Pz)(xs:N Lx):N Lx:=by
 classical exact xs.filter λx=> !decide (Di p (C x.2) u)
theorem aX{xs:N Lx}{x:Lx}:x∈own p u xs↔x∈xs/\Di p (C x.2) u:=by grind [own]
def zbK(p:J)(u:Pz)(xs:N Lx):pu xs=pu (own p u xs)*pu (RR p u xs)/\pl xs=pl (own p u xs)*pl (RR p u xs):=by
 exact⟨mh _ _ xs,mh _ _ xs⟩
def Lc.or{n:K}{xs:N Lx}(h:Lc p k f n xs)(fu:Fs u)(d:Fs v)(l:∀j,b<=j->u j=0)(o:b<=290)(e:f=u*v){x:Lx}(c:x∈xs):(Di p (C x.2) u\/Di p (C x.2) v)/\¬(Di p (C x.2) u/\Di p (C x.2) v):=by
 have⟨m,w,r,s⟩:=h.sf;have⟨h1,t,D⟩:=h.el x c;have A:x.2∈xs.map (·.2):=xbJ c;constructor
 ·obtain hd|hc:=t.or' h.hp W l o
  ·simp_all
  ·right;have i:Di p (C x.2) f:=by
    refine Di.cg ?_ h.lcp.symm;exact(br (λy B=>by obtain⟨z,_,rfl⟩:=xas.1 B;exact Fs.ci _)<|xbJ c).mul _<|Fs.pc _
   rw[e]at i;exact Di.euclid d hc i
 ·rintro⟨d1,d2⟩;exact r.apart fu d ⟨F w,Fs.pc w,by rw[<-e];exact s⟩ A d1 d2
def Lc.oth_own{n:K}{xs:N Lx}(h:Lc p k f n xs)(fu:Fs u)(c:Fs v)(d:∀j,b<=j->u j=0)(i:b<=290)(e:f=u*v):RR p u xs=own p v xs:=by
 refine List.filter_congr λx l=> ?_;have⟨h1,m⟩:=h.or fu c d i e l;by_cases hd:Di p (C x.2) u
 ·simp_all
 ·simp_all
def Lc.pcop{n:K}{xs:N Lx}(h:Lc p k f n xs):(own p u xs).Pairwise (λa b=>jZ p (C a.2)<|C b.2):=by
 exact h.pw.sublist List.filter_sublist
def Lc.odv{n:K}{xs:N Lx}(h:Lc p k f n xs)(fu:Fs u):Di p (pl<|own p u xs) u:=by
 refine Di.prz fu (λy c=>by obtain⟨z,_,rfl⟩:=xas.1 c;exact Fs.ci _) (xew.2 h.pcop) λy c=> ?_;obtain⟨z,d,rfl⟩:=xas.1 c;exact(aX.1 d).2
def Dn{n:K}{xs:N Lx}(h:Lc p k f n xs)(u:Pz):∀x∈own p u xs,Up p k x.1 x.2/\Qx p x.2/\X x.2<=66:=λx c=>h.el x (aX.1 c).1
def Lc.loc{n:K}{xs:N Lx}(h:Lc p k f n xs)(c:Tp u a)(hv:Tp v b)(e:f=u*v):Cg p u (F (u a)*pl (own p u xs))/\Mn (pl<|own p u xs) a:=by
 have⟨t,G⟩:=zw h.hp;have fu:=c.fs;have o:=hv.fs;have w:a+b=n:=by
  have:=c.mul hv;rw[<-e]at this;exact this.uniq h.tp
 have y:f n=u a*v b:=by rw[<-w,e,KR c.2 hv.2]
 have z:RR p u xs=own p v xs:=h.oth_own fu o (b:=a+1) (λj H=>c.2 j W) (by have:=h.nb;lia) e;have⟨α,i,h1⟩:=h.odv fu;have⟨β,l,A⟩:=h.odv o;have⟨d0,hi⟩:=zfP h.el;have r:=(zbK p u xs).2;rw[z]at r;have B:Cg p ((α*β-F (f n))*pl xs) (F 0):=by
  rw[jU];refine Cg.iff_sub.1<|Cg.trans ?_ h.lcp;rw[e];refine Cg.trans (Cg.of ?_) (h1.mul A).symm;rw[r,zd α,zd α,zD (pl<|own p u xs) β]
 have C:=hi.zero t ((i.mul l).subt<|Fs.pc _) λj _=>by rw[B j,zQ,xau]
 have hc:¬p∣f n:=λhd=>h.lc<|xaz hd;have⟨x,D⟩:=SE h.hp i l (Cg.iff_sub.2 C) hc;have m:Cg p u (F x*pl (own p u xs)):=h1.trans<|D.mul Cg.rfl;have⟨d,hd⟩:=zfP<|Dn h u;have s:¬p∣u a:=λhd=>hc (by rw[y];exact xbw hd<|xce _ _);have t1:=m a;have t2:=m d;rw[zN]at t1 t2;rw[hd.1,xcY]at t2;have E:a=d:=by
  by_cases c1:a<d
  ·exfalso;rw[c.2 d c1,xau]at t2;refine s<|xaH ?_;rw[t1,xci,<-t2,xbd,xau]
  ·by_cases c2:d<a
   ·exfalso;rw[hd.2 a c2,xaA,xau]at t1;exact s<|xaH t1
   ·lia
 subst E;refine⟨m.trans<|Cg.mul (λj=> ?_) Cg.rfl,hd⟩;unfold F;split
 ·exact t2.symm
 ·rfl
theorem Lc.up{n:K}{xs:N Lx}(h:Lc p k f n xs)(i:Tp u a)(hv:Tp v b)(e:f=u*v):Cg (p^k) u (F (u a)*pu (own p u xs)):=by
 have⟨R,p2⟩:=zw h.hp;have fu:=i.fs;have s:=hv.fs;have S:a+b=n:=by
  have:=i.mul hv;rw[<-e]at this;exact this.uniq h.tp
 have t:f n=u a*v b:=by rw[<-S,e,KR i.2 hv.2]
 have L:¬p∣f n:=λhd=>h.lc<|xaz hd;have T:u a%p≠0:=λhd=>L (by rw[t];exact xbw (xaH hd)<|xce _ _);have ht:v b%p≠0:=λhd=>L (by rw[t];exact xbw (xaH hd)<|xcU _ _);have U:RR p u xs=own p v xs:=h.oth_own fu s (b:=a+1) (λj m=>i.2 j W) (by have:=h.nb;lia) e;have⟨l1,m1⟩:=h.loc i hv e;have⟨V,m2⟩:=h.loc hv i (by rw[e,zk]);have⟨w,o⟩:=ov h.hp T k;have⟨z,P⟩:=ov h.hp ht k;have C:=kz (p:=p) h.k1;have one:∀{M c d:J},M∣c*d-1->Cg M (F c*F d) (F 1):=λ{M c d} hd j=>by
  rw[kf];unfold F;split
  ·exact xaO.2<|xaz hd
  ·rfl
 have Y:∃A:Pz,Mn A a/\Fs A/\Cg (p^k) A (F w*u):=by
  refine⟨λj=>if j=a then 1 else w*u j,⟨iq O,λj m=> ?_⟩,⟨a+1,λj m=> ?_⟩,λj=> ?_⟩
  ·show(if j=a then(1:J)else w*u j)=0;rw[zB,i.2 j m,xaA]
  ·show(if j=a then(1:J)else w*u j)=0;rw[zB,i.2 j W,xaA]
  ·show(if j=a then(1:J)else w*u j)%_=_;rw[zN];by_cases c:j=a
   ·rw[iq c,c];exact(xaO.2<|xaz o).symm
   ·rw[ir c]
 have⟨A,D,fA,E⟩:=Y;have⟨l,G⟩:=zo6<|Dn h u;have H:=Oh<|Dn h u;have hB:=Oh<|Dn h v;have r:Cg p A (pl<|own p u xs):=by
  refine(E.down C).trans<|(Cg.rfl.mul l1).trans ?_;rw[<-zd];exact(Cg.mul (one<|xbw C o) Cg.rfl).trans<|Cg.of<|zC _
 have cv:Cg p (F z*v) (pl<|own p v xs):=by
  refine(Cg.rfl.mul V).trans ?_;rw[<-zd];exact(Cg.mul (one<|xbw C P) Cg.rfl).trans<|Cg.of<|zC _
 have mu:Mn (pu<|own p u xs) a:=by
  have t1:=(H.trans r.symm) a;have t2:=(H.trans r.symm) l;rw[D.1]at t1;rw[G.1]at t2;have Q:(1:J)%p=1:=xaJ i0 W;have:l=a:=by
   by_cases c1:l<a
   ·rw[G.2 a c1,xau,Q]at t1;cases t1
   ·by_cases c2:a<l
    ·rw[D.2 l c2,xau,Q]at t2;cases t2
    ·lia
  rw[<-this];exact G
 have hn:jZ p (pl<|own p u xs) (pl<|own p v xs):=by
  have:=GQ (p:=p) (A:=(own p u xs).map (·.2)) (B:=(own p v xs).map (·.2)) λc hc d hd=>by
   obtain⟨x,hx,rfl⟩:=xas.1 hc;obtain⟨y,hy,rfl⟩:=xas.1 hd;have hi:=aX.1 hx;have hp:=aX.1 hy;have⟨_,i1,i2⟩:=h.el x hi.1;have⟨_,i3,i4⟩:=h.el y hp.1;refine i1.cop h.hp i3 W W λee=> ?_;have:=(h.or fu s (b:=a+1) (λj m=>i.2 j W) (by have:=h.nb;lia) e hi.1).2;exact this ⟨hi.2,by rw[ee];exact hp.2⟩
  rw[xcN,xcN]at this;exact this
 have hl:Cg (p^k) (A*(F z*v)) (pu (own p u xs)*pu (own p v xs)):=by
  have e1:=(zbK p u xs).1;rw[U]at e1;rw[<-e1];refine(E.mul Cg.rfl).trans ?_;have e2:F w*u*(F z*v)=F w*(F z*f):=by rw[e,zd,zD u (F z) v]
  rw[e2];refine(Cg.mul Cg.rfl<|Cg.mul Cg.rfl h.cg).trans ?_;have e3:F w*(F z*(F (f n)*pu xs))=(F w*F (u a))*((F z*F (v b))*pu xs):=by
   rw[t,<-zd,<-zd,<-zd,kf,kf,kf,kf,kf];congr 2;grind
  rw[e3];exact(Cg.mul (one o)<|(Cg.mul (one P) Cg.rfl).trans<|Cg.of<|zC _).trans<|Cg.of<|zC _
 have⟨r1,_⟩:=Oc R D mu fA (zkZ _) ((Fs.pc z).mul s) (zkZ _) (hn.congr r.symm cv.symm) (r.trans H.symm) (cv.trans hB.symm) k hl;refine Cg.trans ?_<|Cg.rfl.mul r1;refine Cg.trans ?_<|Cg.rfl.mul E.symm;rw[<-zd];refine Cg.symm<|(Cg.mul (one (d:=w) ?_) Cg.rfl).trans<|Cg.of<|zC _;rw[xbE];exact o
def Lc.step{n:K}{xs:N Lx}(h:Lc p k f n xs)(c:Tp g a)(d:Tp q b)(m:0<g a)(e:f=q*g):Lc p k q b (RR p g xs):=by
 have i:f=g*q:=by rw[e,zk]
 have o:a+b=n:=by
  have:=c.mul d;rw[<-i]at this;exact this.uniq h.tp
 have l:f n=g a*q b:=by rw[<-o,i,KR c.2 d.2]
 have r:=h.oth_own c.fs d.fs (b:=a+1) (λj s=>c.2 j W) (by have:=h.nb;lia) i;have hc:=h.ps;rw[r];refine⟨h.hp,h.k1,Dn h q,h.pcop,d,by have:=h.nb;lia,?_,λhd=> ?_,?_,h.up d c e⟩
 ·rw[l]at hc;exact Int.pos_of_mul_pos_right hc m
 ·exact h.lc<|by rw[l];exact xaz<|xbw (xaH hd)<|xcU _ _
 ·have:=h.pm;rw[e]at this;exact this.left
def Lc.pick{n:K}{xs S:N Lx}(h:Lc p k f n xs)(o:∀x∈S,x∈xs)(H:Tp g a)(V:Tp q b)(e:f=g*q){γ:J}(hc:Cg p (F γ*g) (F (f n)*pl S)){x:Lx}(r:x∈xs):Di p (C x.2) g↔x∈S:=by
 have⟨s,Y⟩:=zw h.hp;have D:¬p∣f n:=λhd=>h.lc<|xaz hd;have l:=λy i=>h.el y<|o y i;have⟨d,hd⟩:=zfP l;have m:¬p∣γ:=λhi=>D (by
  have t:=hc d;rw[zN,zN,hd.1,xcY]at t;refine xaH ?_;rw[<-t];exact xaz<|xbw hi<|xce _ _)
 have⟨_,i1,i2⟩:=h.el x r;have j:∀{c:J}{y:Pz},¬p∣c->Fs y->Di p (C x.2) (F c*y)->Di p (C x.2) y:=λ{c y} hc L hd=>by
  rcases i1.or' h.hp W (f:=F c) (n:=1) (λk hk=>by unfold F;rw[zB]) i0 with h1|h1
  ·exact wS (i1.const s h1) hc
  ·exact Di.euclid L h1 hd
 constructor
 ·intro h1;have M:Di p (C x.2) (pl S):=j D (zoV S)<|(h1.mul (F γ)<|Fs.pc γ).cg hc;have P:=i1.mem h.hp (us:=S.map (·.2)) W (λw Q=>by
   obtain⟨y,i,rfl⟩:=xas.1 Q;have⟨_,R,j2⟩:=l y i;exact⟨R,W⟩) (by rw[xcN];exact M)
  have⟨y,i,T⟩:=xas.1 P;have:x=y:=by
   by_cases ne:x=y
   ·exact ne
   ·exfalso;have JN:=h.pw;have E:jZ p (C x.2) (C y.2):=by
     have⟨A,B,U⟩:=xem r;have G:=o y i;rw[U]at G JN;rw[xdp,xdl]at JN;obtain h4|h4:=So.1 G
     ·exact(JN.2.2 y h4 x<|H1).symm
     ·obtain h5|h5:=xaf.1 h4
      ·exact wS h5.symm ne
      ·exact JN.2.1.1 y h5
    rw[T]at E;exact i1.self s E
  rw[this];exact i
 ·intro h1;refine j m H.fs<|Di.cg ?_ hc.symm;exact(br (λy i=>by obtain⟨z,_,rfl⟩:=xas.1 i;exact Fs.ci _)<|xbJ (f:=λx:Lx=>(C x.2:Pz)) h1).mul _<|Fs.pc _
end
section
variable{f u v g q:Pz}{p:wl}{k N:wr}{xs:xS Lx}{a:xS wl}
theorem zn2{α:Type}{P Q R:α->qR}:∀{l:xS α},(∀x∈l,P x=wL->R x=wL)->(∀x∈l,Q x=wL->R x=wL)->(∀x∈l,¬(P x=wL/\Q x=wL))->X (l.filter P)+X (l.filter Q)<=X (l.filter R)
 |[],_,_,_=>IR _
 |x::l,h1,c,d=>by
  have e:=zn2 (λy b=>h1 y<|UV _ b) (λy b=>c y<|UV _ b) λy b=>d y<|UV _ b;grind
def Ls(p:J)(f:Pz)(xs:xS Lx)(c:K):Prop:=∀u v,Fs u->Fs v->f=u*v->¬mI u->c<=X (own p u xs)
def VV(c:Nz f)(e:f=u*v):Nz u/\Nz v:=by
 have⟨k,b⟩:=c;rw[e]at b;exact⟨xai λhn=>b (yL λi _=>by rw[Nz.not hn i,xbd]),xai λhn=>b<|yL λi _=>by rw[Nz.not hn _,xaA]⟩
def Ls.one{n:K}(h:Lc p k f n xs):Ls p f xs 1:=λu v fu i e j=>by
 have⟨l,A⟩:=VV h.tp.nz e;have⟨a,c⟩:=Tp.ex fu l;have⟨b,m⟩:=Tp.ex i A;have⟨_,d⟩:=h.loc c m e
 cases o:own p u xs with
 |nil=>
  exfalso;rw[o]at d;have h1:=d.1;refine j<|(mI.tp c).2<|xai λh0=> ?_;rw[show pl [] a=0 from ir h0]at h1;cases h1
 |cons x r=>exact Nat.succ_le_succ<|xan _
def Ls.two{w:Pz}{n:K}(h:Lc p k f n xs)(fu:Fs u)(c:Fs v)(d:Fs w)(e:f=u*v*w):X (own p u xs)+X (own p v xs)<=X (own p (u*v) xs):=by
 classical
 have⟨n1,nw⟩:=VV h.tp.nz e;have⟨l,A⟩:=VV n1 O;have⟨a,i⟩:=Tp.ex fu l;have⟨b,m⟩:=Tp.ex (c.mul d)<|Nz.mul c d A nw;have hc:a+b=n:=by
  have:=i.mul m;rw[<-zd,<-e]at this;exact this.uniq h.tp
 refine zn2 (λx _ h1=> ?_) (λx _ h1=> ?_) λx o ⟨h1,r⟩=> ?_
 ·refine Wf ?_;rw[zk];exact(Ws h1).mul v c
 ·exact Wf<|(Ws h1).mul u fu
 ·refine(h.or fu (c.mul d) (b:=a+1) (λj s=>i.2 j W) (by have:=h.nb;lia) (by rw[e,zd]) o).2 ⟨Ws h1,?_⟩;rw[zk];exact(Ws r).mul w d
def Ls.ir{n c:K}(h:Lc p k f n xs)(hl:Ls p f xs c)(hc:1<=c)(i:Fs g)(fq:Fs q)(e:f=g*q)(pm:Pm g)(j:¬mI g)(hn:X (own p g xs)<2*c):Ir g:=by
 refine⟨i,pm,j,λu v fu b l=>xai λd=> ?_⟩;have m:=λh=>d (.inl h);have cv:=λh=>d (.inr h);subst l;have h1:=hl u (v*q) fu (b.mul fq) (by rw[e,zd]) m;have o:=hl v (u*q) b (fu.mul fq) (by rw[e,zd,zD]) cv;have r:=Ls.two h fu b fq e;lia
def Ls.step{n c:K}(h:Lc p k f n xs)(hl:Ls p f xs c)(d:Fs g)(fq:Fs q)(e:f=q*g):Ls p q (RR p g xs) c:=λu v fu i m o=>by
 classical
 subst m;have h1:=hl u (v*g) fu (i.mul d) (by rw[e,zd]) o;have⟨n1,r⟩:=VV h.tp.nz e;have⟨a,l⟩:=Tp.ex d r;have⟨b,s⟩:=Tp.ex fq n1;have hc:b+a=n:=by
  have:=s.mul l;rw[<-e]at this;exact this.uniq h.tp
 have:own p u (RR p g xs)=own p u xs:=by
  unfold own RR;rw[List.filter_filter];refine List.filter_congr λx t=> ?_;by_cases hd:Di p (C x.2) u
  ·have w:=(h.or d fq (b:=a+1) (λj z=>l.2 j W) (by have:=h.nb;lia) (by rw[e,zk]) t).2;rw[Wf hd,Wl λy=>w ⟨y,by rw[zk];exact hd.mul v i⟩];rfl
  ·simp_all
 simp_all
structure AI(N c:K)(a:xS J):Prop where
 ln:a.length=c
 lo:∀i,i<c->(i:J)<=C a i
 hi:∀i,i<c->C a i+c<=N+i
 st:∀i,i+1<c->C a i<C a (i+1)
def Lt(f g:K->J)(c:K):Prop:=∃j,j<c/\f j<g j/\∀k,k<j->f k=g k
def Dp(f g:K->J)(c:K):(∀k,k<c->f k=g k)\/Lt f g c\/Lt g f c:=by
 by_cases h:∃k,k<c/\f k≠g k
 ·have⟨j,⟨d,m⟩,i⟩:=zlb h;have e:=λk b=>xai λhn=>i k b ⟨W,hn⟩;by_cases l:f j<g j
  ·exact .inr (.inl ⟨j,d,l,e⟩)
  ·exact .inr (.inr ⟨j,d,W,λk b=>(e k b).symm⟩)
 ·simp_all
theorem Lt.asy{f g:K->J}{c:K}(h:Lt f g c)(b:Lt g f c):QR:=by
 have⟨i,i1,i2,d⟩:=h;have⟨j,l,m,n⟩:=b;by_cases e:i<j
 ·simp_all
 ·grind
def nxA(c k:K)(a:xS J):xS J:=zl c λi=>if i<k then C a i else C a k+1+((i:J)-k)
theorem AI.up{N c:K}{T:xS J}(b:AI N c T){i:K}:∀d,i+d<c->C T i+d<=C T (i+d)
 |0,_=>by rw[xbD];lia
 |d+1,h=>by
  have h1:=b.up (i:=i) d W;have e:=b.st (i+d) W;grind
def K6{c:K}{i:K}(h:i<c:=by lia):C (nxA c k a) i=if i<k then C a i else C a k+1+((i:J)-k):=uV h
theorem AI.next{c:K}(h:AI N c a)(b:k<c)(h1:C a k+c<N+k):AI N c (nxA c k a):=by
 refine⟨zZ _ _,λi hi=> ?_,λi hi=> ?_,λi hi=> ?_⟩
 ·rw[K6 hi];have:=h.lo i hi;have:=h.lo k b;lia
 ·rw[K6 hi];have:=h.hi i hi;lia
 ·rw[K6,K6 hi];by_cases e:i+1<k
  ·rw[zX,iq e];exact h.st i hi
  ·by_cases d:i<k
   ·have:=h.st i hi;grind
   ·lia
def zpn{c:K}{T:xS J}(l:AI N c T)(r:k<c)(n:∀i,k<i->i<c->C a i+c=N+i)(h:Lt (C a) (C T) c):(∀i,i<c->C (nxA c k a) i=C T i)\/Lt (C<|nxA c k a) (C T) c:=by
 have⟨j,b,o,m⟩:=h;have hc:j<=k:=by
  by_cases e:j<=k
  ·exact e
  ·have:=n j W b;have:=l.hi j b;lia
 by_cases e:j<k
 ·exact .inr ⟨j,b,by rw[K6 b,iq e];exact o,λi hi=>by rw[K6,zX];exact m i hi⟩
 ·obtain rfl:j=k:=W
  rcases Dp (C<|nxA c j a) (C T) c with h1|h1|h1
  ·simp_all
  ·simp_all
  ·exfalso;have⟨i,i1,i2,s⟩:=h1;rw[K6 i1]at i2;by_cases d:i<j
   ·rw[iq d,m i d]at i2;lia
   ·rw[ir d]at i2;have:=l.up (i:=j) (i-j) W;rw[(W:j+(i-j)=i)]at this;lia
def Tt(N:K)(f:K->J):K->K
 |0=>0
 |n+1=>Tt N f n*(N+1)+(N-(f n).toNat)
def zeq(N:K)(f:K->J):∀n,Tt N f n+1<=(N+1)^n
 |0=>IR _
 |n+1=>by
  have b:=xak (N+1)<|zeq N f n;rw[xbf]at b;show Tt N f n*(N+1)+(N-(f n).toNat)+1<=(N+1)^n*(N+1);lia
def zg6{N:K}{f g:K->J}:∀n,(∀k,k<n->f k=g k)->Tt N f n=Tt N g n
 |0,_=>rfl
 |n+1,h=>by
  show Tt N f n*(N+1)+_=Tt N g n*(N+1)+_;rw[zg6 n λk b=>h k W,h n W]
def zhJ{N:K}{f g:K->J}{j:K}(h0:∀k,k<j->f k=g k)(h1:0<=g j)(b:f j=g j+1)(c:f j<=N):∀d,Tt N f (j+1+d)+1<=Tt N g (j+1+d)
 |0=>by
  show Tt N f j*(N+1)+_+1<=Tt N g j*(N+1)+_;rw[zg6 j h0];lia
 |d+1=>by
  have e:=xak (N+1)<|zhJ h0 h1 b c d;rw[xbf]at e;show Tt N f (j+1+d)*(N+1)+(N-(f<|j+1+d).toNat)+1<=Tt N g (j+1+d)*(N+1)+(N-(g<|j+1+d).toNat);lia
end
section
variable{B R Q:Pz}{la lb ql K J fu:wr}{b a:xS Zr}
structure DvZ(A B Q R:Pz)(la lb n ql K J:wr):Prop where
 eq:A=Q*B+R
 q1:∀k,k<n->Q k=0
 q2:∀k,ql<=k->Q k=0
 r:∀k,n+(lb-1)<=k->R k=0
 bz:∀k,Bz (K+(ql-n)*(J+1))<|R k
 bq:∀k,Bz (K+(ql-n)*(J+1))<|Q k
def LL{n m:wr}(e:Tp B m)(h:Zd B R)(g:∀k,n+m<=k->R k=0):∃w:Pz,R=w*B/\∀k,n<=k->w k=0:=by
 obtain⟨w,f,rfl⟩:=h;refine⟨w,O,?_⟩;by_cases nw:Nz w
 ·have⟨d,hd⟩:=Tp.ex f nw;have h1:=(hd.mul e).1;intro k i;refine hd.2 k ?_;by_cases c:d<n
  ·lia
  ·simp_all
 ·exact λk _=>Nz.not nw k
def DvZ.step{A:Pz}{n:wr}(h:DvZ A B Q R la lb (n+1) ql K J)(f:Tp B (lb-1))(hn:n+1<=ql){c:wl}(hc:R (n+(lb-1))=c*B (lb-1))(i:∀k,Bz J<|B k):
 DvZ A B (Xh Q n c) (λk=>R k-c*sh B n k) la lb n ql K J:=by
 have hd:Bz (K+(ql-(n+1))*(J+1)) c:=(h.bz<|n+(lb-1)).le (by
  rw[hc,xct];exact xco _ (by have:=f.1;lia))
 have g:K+(ql-n)*(J+1)=K+(ql-(n+1))*(J+1)+J+1:=by rw[(W:ql-n=ql-(n+1)+1),xbf];lia
 have e1:Xh Q n c=Q+mono n c:=jp λk=>by
  rw[zU];unfold Xh mono;by_cases e:k=n
  ·rw[iq e,iq e,e,h.q1 n W];lia
  ·lia
 refine⟨?_,λk d=> ?_,λk d=> ?_,λk d=> ?_,λk=> ?_,λk=> ?_⟩
 ·rw[e1,yR];funext k;have:=Wn h.eq k;rw[zU]at this;rw[zU,zU,VL];show _=_+_+(R k-c*sh B n k);lia
 ·unfold Xh;rw[zB];exact h.q1 k W
 ·unfold Xh;rw[zB];exact h.q2 k d
 ·show R k-c*sh B n k=0;unfold sh;rw[zX];by_cases e:k=n+(lb-1)
  ·rw[e,hc,(W:n+(lb-1)-n=lb-1)];lia
  ·rw[h.r k W,f.2 _ W];lia
 ·rw[g];refine Bz.sub ((h.bz k).mono W)<|hd.mul ?_;unfold sh;split
  ·exact i _
  ·exact Bz.zero _
 ·rw[g];unfold Xh;split
  ·exact hd.mono W
  ·exact(h.bq k).mono W
def zkj{n:wr}{c:wl}(d:y6 J b)(o:X b=lb)(hn:n+lb<=la)(hl:la<=1000)(i:∀k,Bz K<|R k)(hc:Bz K c)(p:K+J+1<=40000)(f:3000000<=fu):
 zg (KO fu (n:wl) b) fu ((0:wl),b,zi la R,zi ql Q,yz c)=Z (b,zi la<|λk=>R k-c*sh (G b) n k,zi ql Q):=by
 refine zA (λs:wl×N M×N M×N M×M=>∃j:wr,j<=lb/\s=((j:wl),b,zi la (λk=>if k<n+j then R k-c*sh (G b) n k else R k),zi ql Q,yz c)) (λs=>lb-s.1.toNat) _ ?_ _ _ ⟨0,xan _,?_⟩ (by show lb-0<fu;lia)
 ·rintro s L ⟨j,q,rfl⟩ l;unfold KO;simp only;by_cases h1:j<lb
  ·rw[zX,U O];simp only[uP];have hd:=d.get j;rw[z8,S,(W:(n:wl)+(j:wl)=((n+j:wr):wl)),zb,zb,zo (by rw[yn];lia),S,ZY W,zB,U<|zV (hc.ok W) (gV.of hd W) f,zn,Vd];have m:Bz (K+J) (c*G b j):=hc.mul<|d.bz j;rw[U<|qi ((i _).ok W) (m.ok W) f,zn,zn,zo (by rw[yn];lia),S,aH,zb];refine l _ ⟨j+1,W,?_⟩ (by show lb-((j:wl)+1).toNat<lb-(j:wl).toNat;lia);rw[(W:((j:wl)+1)=((j+1:wr):wl))];refine xfv O<|xfv O<|xfv ?_ O;refine yZ λk g=> ?_;unfold Xh;by_cases e:k=n+j
   ·rw[iq e,zX,e];unfold sh;rw[zX,(W:n+j-n=j)]
   ·rw[ir e];show(if k<n+j then R k-c*sh (G b) n k else R k)=_;by_cases h:k<n+j
    ·rw[iq h,zX]
    ·rw[ir h,zB]
  ·rw[zB,U O];simp only[xao,uS];obtain rfl:j=lb:=W
   refine ut Z<|xfv O<|xfv ?_ O;refine yZ λk g=> ?_;by_cases e:k<n+j
   ·rw[iq e]
   ·rw[ir e];unfold sh;rw[zX,ye W];lia
 ·refine xfv O<|xfv O<|xfv ?_ O;refine yZ λk g=> ?_;by_cases e:k<n+0
  ·rw[iq e];unfold sh;rw[zB];lia
  ·rw[ir e]
def zlp(a:N M):yo a=zi (X (yo a)) (G a):=by
 have h:yo a=zi (dg (G a) (X a)) (G a):=O;rw[show(yo a).length=dg (G a) (X a) from xC _ _];exact h
def Qj(h:X (yo a)≠0):Tp (G a) (X (yo a)-1):=by
 have h1:=Xp (aJ a) h;rw[ZG]at h1;exact⟨h1,λk c=>by rw[<-ZG];exact ye W⟩
def WI(h:X (yo a)=0)(k:wr):G a k=0:=by rw[<-ZG];exact ye W
def JJ(F:y6 K a)(y:y6 J b)(hK:K+(X a+1)*(J+1)<=30000)(hJ:X a<=1000)(hL:X b<=1000)(h0:X (yo b)≠0)(o:3000000<=fu):
 ∃q e,xV fu a b=Z (q,e)/\(e=0↔Zd (G b) (G a))/\(e=0->(G a:Pz)=G q*G b/\yo q=q/\X q<=X a):=by
 have hn:=da y;have hM:=Zs b;have hN:=Zs a;have l:=Qj h0;have hO:J+1<=(X a+1)*(J+1):=xed _ W;have⟨la,hi⟩:∃la,la=X (yo a):=⟨_,O⟩;have⟨lb,t⟩:∃lb,lb=X (yo b):=⟨_,O⟩;have⟨ql,hP⟩:∃ql,ql=la+1-lb:=⟨_,O⟩;have u:=zlp a;rw[<-hi]at u;rw[<-t]at l h0;unfold xV;rw[U<|zJ F W W o,U<|zJ y W W o,show wU (X a) (G a)=yo a from O,show wU (X b) (G b)=yo b from O,<-hi,<-t,zB];by_cases hR:0<la/\la<lb
 ·rw[U (v:=Sum.inr ())<|by rw[zX,zX]];refine⟨[],4,O,⟨λh=>wS h i0,λh=> ?_⟩,λh=>wS h i0⟩;exfalso;have z:=Qj (a:=a) W;rw[<-hi]at z;have⟨w,p,w0⟩:=LL (n:=0) l h λk A=>z.2 k W;exact z.1<|by rw[p,wI,yL λi _=>by rw[w0 i W,xbd]]
 ·rw[U (v:=Sum.inl ()) (by
   by_cases h1:0<la
   ·rw[zX,zB]
   ·rw[zB])]
  simp only;have hp:max ((la:wl)-lb+1) 0=(ql:wl):=W
  rw[zb,zb,S,hp,yF,yW,S,bg,yn,zb]
  have⟨s,C,hQ⟩:=yc (f:=Uj fu) (λs:wl×N M×N M×N M=>∃(n:wr) (Q R:Pz),n<=ql/\s=((n:wl)-1,yo b,zi la R,zi ql Q)/\DvZ (G a) (G b) Q R la lb n ql K J) (λs=>(s.1+1).toNat)
   (λr=>(∃Q R:Pz,r=.inl (zi la R,zi ql Q)/\DvZ (G a) (G b) Q R la lb 0 ql K J)\/(r=.inr 4/\¬Zd (G b) (G a))) (by
   rintro s L ⟨n,Q,R,hy,rfl,d⟩ ih
   unfold Uj
   simp only
   cases n with
   |zero=>
    rw[zB]
    exact⟨_,O,.inl ⟨Q,R,O,d⟩⟩
   |succ n=>
    have hA:(ql-(n+1))*(J+1)<=(X a+1)*(J+1):=xak _ W
    have hH:(ql-(n+1))*(J+1)+(J+1)<=(X a+1)*(J+1):=by
     have:=xak (J+1) (W:ql-(n+1)+1<=X a+1);rw[xbf,xcz]at this;exact this
    have hl:=d.bz
    rw[(W:((n+1:wr):wl)-1=(n:wl)),zX,<-t,zb,(W:(n:wl)+(lb:wl)-1=((n+(lb-1):wr):wl)),zb,zo (by rw[yn];lia),S,ZY W,(W:(lb:wl)-1=((lb-1:wr):wl)),zb,z8,S]
    have H:=hn.get<|lb-1
    rw[U<|k9 ((hl _).okS W) ⟨H.1,by have:=H.2;lia⟩ o,zn,Vd,ZG]
    simp only
    have P:=l.1
    have x:exE (R<|n+(lb-1)) (G b<|lb-1)=if R (n+(lb-1))%G b (lb-1)=0 then 0 else 4:=by unfold exE;rw[ir P]
    have T:exI (R<|n+(lb-1)) (G b<|lb-1)=if R (n+(lb-1))%G b (lb-1)=0 then R (n+(lb-1))/G b (lb-1)else 0:=by unfold exI;rw[ir P]
    by_cases hd:R (n+(lb-1))%G b (lb-1)=0
    ·rw[iq hd]at x T
     have⟨c,V⟩:∃c,c=R (n+(lb-1))/G b (lb-1):=⟨_,O⟩
     have hc:R (n+(lb-1))=c*G b (lb-1):=by rw[V,Int.ediv_mul_cancel<|xaH hd]
     have hB:Bz (K+(ql-(n+1))*(J+1)) c:=(hl<|n+(lb-1)).le (by
      rw[hc,xct];exact xco _ W)
     rw[x,T,<-V,iq O,zo (by rw[yn];lia),S,aH,U<|zkj hn t.symm W W hl hB W o]
     simp only
     rw[zb]
     have C:=d.step l hy hc y.bz
     have e:(λk=>R k-c*sh (G<|yo b) n k)=λk=>R k-c*sh (G b) n k:=by rw[show G (yo b)=G b from jp (ZG b)]
     rw[e]
     exact ih _ ⟨n,_,_,W,O,C⟩ (by show((n:wl)-1+1).toNat<(((n+1:wr):wl)-1+1).toNat;lia)
    ·rw[ir hd]at x
     rw[x,ir i0]
     refine⟨_,O,.inr ⟨O,λu=>hd ?_⟩⟩
     have D:Zd (G b) R:=by
      have e:R=(G a:Pz)-Q*G b:=jp λk=>by
       have:=Wn d.eq k;rw[zU]at this;rw[yX];lia
      rw[e];exact u.sub ⟨Q,⟨ql,d.q2⟩,O⟩
     have⟨w,p,w0⟩:=LL (n:=n+1) l D d.r
     have:=KR (f:=w) (g:=G b) (n:=n) (m:=lb-1) (λk A=>w0 k W) l.2
     rw[<-p]at this
     rw[this,Int.mul_emod_left]) fu ((ql:wl)-1,yo b,yo a,zi ql λ_=>0) ⟨ql,λ_=>0,G a,IR _,by rw[u],⟨jp λk=>by
    rw[zU,wI,yL λi _=>xbd _,xcS],λ_ _=>O,λ_ _=>O,λk A=>by
    by_cases e:la=0
    ·exact WI W k
    ·rw[<-ZG];exact ye W,λk=>(F.bz k).mono W,λk=>Bz.zero _⟩⟩ (by show((ql:wl)-1+1).toNat<fu;lia)
  rw[U C];rcases hQ with⟨Q,R,rfl,d⟩|⟨rfl,hC⟩
  ·have hA:(ql-0)*(J+1)<=(X a+1)*(J+1):=xak _ W;have hD:y6 30000 (zi la R):=Xf λj=>(d.bz j).mono W;have hF:y6 30000 (zi ql Q):=Xf λj=>(d.bq j).mono W;have hv:∀k,la<=k->R k=0:=λk A=>by
    by_cases e:la=0
    ·have h1:=Wn d.eq k;rw[zU,wI,yL (n:=k+1) λi _=>by rw[d.q2 i W,xbd],WI W]at h1;lia
    ·exact d.r k W
   simp only;rw[U<|zJ hD i0 (by rw[yn];lia) o,yn,Cw];by_cases hr:X (wU la R)=0
   ·have E:∀k,R k=0:=λk=>by rw[<-jW hv k];exact ye W
    have hG:(G (wU ql Q):Pz)=Q:=jp λk=>jW d.q2 k;have Y:(G a:Pz)=G (wU ql Q)*G b:=by
     rw[hG];funext k;have:=Wn d.eq k;rw[zU,E k,xcd]at this;exact this
    rw[zB,U<|zJ hF i0 (by rw[yn];lia) o,yn,Cw];refine⟨_,0,O,⟨λ_=>⟨_,Fs.cf _,Y⟩,λ_=>O⟩,λ_=>⟨Y,(QX _ _).symm,?_⟩⟩;rw[xC];have:=qH Q ql;lia
   ·rw[zX];refine⟨[],4,O,⟨λh=>wS h i0,λh=> ?_⟩,λh=>wS h i0⟩;exfalso;have e:R=(G a:Pz)-Q*G b:=jp λk=>by
     have:=Wn d.eq k;rw[zU]at this;rw[yX];lia
    have D:Zd (G b) R:=by
     rw[e];exact h.sub ⟨Q,⟨ql,d.q2⟩,O⟩
    have⟨w,p,w0⟩:=LL (n:=0) l D d.r;have E:∀k,R k=0:=λk=>by rw[p,wI,yL λi _=>by rw[w0 i W,xbd]]
    have ht:=Xp (QX la R) hr;rw[jW hv]at ht;exact ht<|E _
  ·exact⟨[],4,O,⟨λh=>wS h i0,λh=>wS h hC⟩,λh=>wS h i0⟩
theorem Ad(c:y6 K a)(d:y6 J b)(e:K<=40000)(f:J<=40000)(hc:X a<=1000)(hd:X b<=1000)(h0:X (yo b)=0)(g:3000000<=fu):xV fu a b=Z ([],3):=by grind [xV,yo,U,zJ]
end
section
variable{N fu:wr}{a:xS wl}
def AI.ext{c:K}{b:xS J}(d:AI N c a)(e:AI N c b)(h:∀k,k<c->C a k=C b k):a=b:=by
 rw[<-P3 a,<-P3 b,d.ln,e.ln];exact yU h
theorem Fc{c:K}(hc:c<=1000)(f:3000000<=fu):zg (λL (z:xS J×J)=>
 if z.2<(X (zl c λ_=>0):J)then
  zI z.2 (X z.1) λj=>
  B (z.1.set j z.2) λxs=>
  zf (z.2+1) λi=>L (xs,i)
 else Z z.1) fu (zl c λ_=>0,0)=Z (zl c λi=>(i:J)):=by
 refine zA (λs:xS J×J=>∃j:K,j<=c/\s=(zl c (λk=>if k<j then(k:J)else 0),(j:J))) (λs=>c-s.2.toNat) _ ?_ _ _ ⟨0,xan _,?_⟩ (by show c-0<fu;lia)
 ·rintro s L ⟨j,g,rfl⟩ d
  simp only[zZ]
  by_cases h1:j<c
  ·rw[zX,zo h1,S,ZK,zb]
   refine d _ ⟨j+1,W,?_⟩ (by show c-((j:J)+1).toNat<c-(j:J).toNat;lia)
   refine xfv (yU λk b=> ?_) O
   unfold Xh
   by_cases e:k=j
   ·lia
   ·grind
  ·rw[zB]
   obtain rfl:j=c:=W
   exact ut Z<|yU λk b=>iq b
 ·exact xfv (yU λk b=>(ir<|xbq k).symm) O
def Lz{c:K}(b:AI N c a)(o:N<=1000)(p:3000000<=fu):
 ∃i:J,zg (λL i=>
 if 0<=i then
  zI i (X a) λj=>
  B (a.getD j 0) λy=>
  zf ((N:J)-c) λe=>
  zf (e+i) λe=>
  if y=e then zf (i-1) λi=>L i
  else Z i
 else Z i) fu ((c:J)-1)=Z i/\ -1<=i/\i<c/\(∀j:K,i<j->j<c->C a j+c=N+j)/\∀k:K,i=k->C a k+c<N+k:=by
 have hd:c<=N\/c=0:=by
  by_cases h:c=0
  ·lia
  ·have:=b.hi 0 W;have:=b.lo 0 W;exact .inl W
 have⟨r,h1,l⟩:=yc (f:=λL (i:J)=>
  if 0<=i then
   zI i (X a) λj=>
   B (a.getD j 0) λy=>
   zf ((N:J)-c) λe=>
   zf (e+i) λe=>
   if y=e then zf (i-1) λi=>L i
   else Z i
  else Z i) (λi:J=> -1<=i/\i<c/\∀j:K,i<j->j<c->C a j+c=N+j) (λi=>(i+1).toNat) (λi=> -1<=i/\i<c/\(∀j:K,i<j->j<c->C a j+c=N+j)/\∀k:K,i=k->C a k+c<N+k) (by
   rintro i L ⟨i1,i2,d⟩ m;by_cases h0:0<=i
   ·obtain⟨k,rfl⟩:=xaE h0;have q:=b.ln;rw[iq h0,z8,S,zb,zb,QK];by_cases e:C a k=(N:J)-c+k
    ·rw[iq e,zb];refine m _ ⟨W,W,λj g hc=> ?_⟩ W;by_cases n:j=k
     ·rw[n];lia
     ·exact d j W hc
    ·rw[ir e];refine⟨_,O,i1,i2,d,λj g=> ?_⟩;obtain rfl:k=j:=W
     have:=b.hi k W;lia
   ·rw[ir h0];exact⟨_,O,i1,i2,d,λj g=>by lia⟩) fu ((c:J)-1) ⟨W,W,λj g hc=>by lia⟩ W
 exact⟨r,h1,l⟩
def Rf{c k:K}(f:AI N c a)(o:N<=1000)(d:k<c)(h1:C a k+c<N+k)(p:3000000<=fu):
 zg (λL (z:J×xS J)=>
 if z.1<(c:J)then
  zf (z.1-1) λe=>
  zI e (X z.2) λj=>
  B (z.2.getD j 0) λy=>
  zf (y+1) λe=>
  zI z.1 (X z.2) λj=>
  B (z.2.set j e) λxs=>
  zf (z.1+1) λi=>L (i,xs)
 else Z z.2) fu ((k:J)+1,a.set k (C a k+1))=Z (nxA c k a):=by
 have hc:=f.hi k d;have hd:=f.lo k d;refine zA (λs:J×xS J=>∃j:K,k+1<=j/\j<=c/\s=((j:J),zl c (λi=>if i<k then C a i else if i<j then C a k+1+((i:J)-k)else C a i))) (λs=>c-s.1.toNat) _ ?_ _ _ ⟨k+1,IR _,d,?_⟩ (by show c-((k:J)+1).toNat<fu;lia)
 ·rintro s L ⟨j,q,r,rfl⟩ l;simp only[zZ];by_cases n:j<c
  ·obtain⟨i,rfl⟩:∃i,j=i+1:=⟨j-1,W⟩;rw[zX,(W:((i+1:K):J)-1=(i:J)),zb,z8,S,ks,zB,zX,zb,zo n,S,ZK,zb];refine l _ ⟨i+1+1,W,W,?_⟩ (by show c-(((i+1:K):J)+1).toNat<c-((i+1:K):J).toNat;lia);refine xfv O<|yU λm g=> ?_;unfold Xh;by_cases e:m=i+1
   ·rw[iq e,zB,zX];lia
   ·rw[ir e];show(if m<k then C a m else if m<i+1 then C a k+1+((m:J)-k)else C a m)=_;by_cases b:m<k
    ·rw[iq b,iq b]
    ·rw[ir b,ir b];by_cases h:m<i+1
     ·rw[iq h,zX]
     ·rw[ir h,zB]
  ·rw[zB];obtain rfl:j=c:=W
   refine ut Z<|yU λm g=> ?_;by_cases b:m<k
   ·rw[iq b,iq b]
   ·rw[ir b,ir b,iq g]
 ·refine xfv (by show(k:J)+1=((k+1:K):J);lia) ?_;show a.set k (C a k+1)=_;conv=>lhs;rw[<-P3 a,f.ln]
  rw[ZK];refine yU λm g=> ?_;unfold Xh;by_cases e:m=k
  ·rw[iq e,zB,zX,e];rw[show C (zl c<|C a) k=C a k from uV d];lia
  ·rw[ir e];by_cases b:m<k
   ·rw[iq b]
   ·rw[ir b,zB]
def L7{X Y:Type}{c:K}{g:xS J->X->V (xS J×(X⊕Y))}{x0:X}{Rej:xS J->Prop}{Acc:xS J->Y->Prop}(hl:1<=c)(hn:c<=N)(hN:N<=10)(E:c<=5)(p:3000000<=fu)(F:∀a,AI N c a->(g a x0=Z (a,.inl x0)/\Rej a)\/∃y v,g a x0=Z (v,.inr y)/\Acc a y):
 (vg fu (c:J) (N:J) g x0=Z (.inl x0)/\∀a,AI N c a->Rej a)\/∃a y,AI N c a/\Acc a y/\vg fu (c:J) (N:J) g x0=Z (.inr y):=by
 have h0:AI N c (zl c λi=>(i:J)):=⟨zZ _ _,λi hi=>by rw[uV hi];lia,λi hi=>by rw[uV hi];lia,λi hi=>by rw[uV W,uV hi];lia⟩;have G:∀T,AI N c T->¬Lt (C T) (C<|zl c λi=>(i:J)) c:=λT b ⟨j,n,o,_⟩=>by
  rw[uV n]at o;have:=b.lo j n;lia
 have H:Tt N (C<|zl c λi=>(i:J)) c<fu:=by
  have h1:=zeq N (C<|zl c λi=>(i:J)) c;have w:(N+1)^c<=11^5:=xap (xff W c)<|xal i0 E;lia
 have⟨r,M,P⟩:=yc (f:=λL (q:X×xS J)=>qm fu (c:J) (N:J) g q.1 q.2 (λx xs _ _ _ _ _=>L (x,xs)) (λx _ _ _=>Z (.inl x)) λy _=>Z (.inr y))
  (λs:X×xS J=>s.1=x0/\AI N c s.2/\∀T,AI N c T->Lt (C T) (C s.2) c->Rej T) (λs=>Tt N (C s.2) c) (λr:X⊕Y=>(r=.inl x0/\∀a,AI N c a->Rej a)\/∃a y,AI N c a/\Acc a y/\r=.inr y) (by
  rintro⟨x,a⟩ L ⟨z,l,t⟩ Q
  simp only at z l t
  subst z
  simp only
  unfold qm
  rcases F a l with⟨e,A⟩|⟨y,v,e,R⟩
  ·rw[U e]
   simp only[Sum.elim_inl]
   have⟨i,l1,l2,l3,B,l5⟩:=Lz l W p
   rw[zb,U l1]
   by_cases hi:i<0
   ·rw[iq hi]
    refine⟨_,O,.inl ⟨O,λT b=> ?_⟩⟩
    rcases Dp (C T) (C a) c with h|h|h
    ·rw[b.ext l h];exact A
    ·exact t T b h
    ·exfalso
     have⟨j,n,o,_⟩:=h
     have:=B j W n
     have:=b.hi j n
     lia
   ·obtain⟨k,rfl⟩:=xaE (W:0<=i)
    have ho:=l.ln
    have D:=l5 k O
    have hp:=l.lo k W
    rw[ir hi,z8,S,QK,zb,z8,S,zb,U<|Rf l W W D p]
    refine Q _ ⟨O,l.next W D,λT b u=> ?_⟩ ?_
    ·rcases Dp (C T) (C a) c with h|h|h
     ·rw[b.ext l h];exact A
     ·exact t T b h
     ·exfalso
      simp only at u
      rcases zpn (k:=k) b W (λi hi hc=>B i W hc) h with h6|h6
      ·have⟨j,n,o,_⟩:=u
       rw[h6 j n]at o
       lia
      ·exact u.asy h6
    ·have⟨d,hd⟩:∃d,c=k+1+d:=⟨c-k-1,W⟩
     have:=zhJ (N:=N) (f:=C<|nxA c k a) (g:=C a) (j:=k) (λm hm=>by rw[K6,iq hm]) W (by rw[K6,zB];lia) (by rw[K6,zB];lia) d
     rw[<-hd]at this
     exact this
  ·rw[U e]
   simp only[Sum.elim_inr]
   exact⟨_,O,.inr ⟨a,y,l,R,O⟩⟩) fu (x0,zl c λi=>(i:J)) ⟨O,h0,λT b h=>wS h (G T b)⟩ H
 have hM:vg fu (c:J) (N:J) g x0=Z r:=by
  unfold vg;rw[yF,yW,S,dk,U<|Fc W p];exact M
 rw[hM];rcases P with⟨rfl,h⟩|⟨a,y,h1,w,rfl⟩
 ·exact .inl ⟨O,h⟩
 ·exact .inr ⟨a,y,h1,w,O⟩
end
section
variable{a:xS wl}{m:wl}{xs:xS Lx}{i fu:wr}
def zh8{a:N M}(h:¬m<=0):zcN a m=(vH a m,0):=by unfold zcN;rw[ir h]
theorem sN(a:N M):(yv a).natAbs=Wv (G a) (X (yo a)):=by grind [yv]
theorem gD(a:N M):F (yv a)*(G (yg a):Pz)=G a:=by grind [zN,ZQ,Wu,Int.mul_ediv_cancel']
def Ve{a:N M}(h:X (yo a)≠0):Pm (G<|yg a)/\Po (G<|yg a):=by
 have h0:=pA h;have e:=gD a;constructor
 ·intro d hd;have h1:(yv a).natAbs*d∣Wv (G a) (X (yo a)):=Iv _ λk _=>by
   have b:=Wn e k;rw[zN]at b;have c:=xcr.2<|xga (xej<|yv a)<|hd k;rw[b,xct,xaD]at c;exact c
  rw[<-sN]at h1;have f:(yv a).natAbs*d∣(yv a).natAbs*1:=by rw[xea];exact h1
  exact Nat.dvd_one.1<|Nat.dvd_of_mul_dvd_mul_left W f
 ·have ht:=Qj h;refine⟨X (yo a)-1,?_,λk g=>by rw[ZQ,ht.2 k g,xel]⟩;have b:=Wn e<|X (yo a)-1;rw[zN]at b;have c:=ht.1;have⟨x,j⟩:∃x,x=G (yg a) (X (yo a)-1):=⟨_,O⟩;rw[<-j]at b⊢;have n:(0:J)<(Wv (G a) (X (yo a)):K):=by
   have:=sN a;lia
  have hc:yv a=if G (yo a) (X (yo a)-1)<0 then-((Wv (G a) (X (yo a)):K):J)else((Wv (G a) (X (yo a)):K):J):=O;rw[ZG]at hc;by_cases hn:G a (X (yo a)-1)<0
  ·rw[iq hn]at hc;refine xai λl=> ?_;have:=Int.mul_nonneg_of_nonpos_of_nonpos (W:yv a<=0) (W:x<=0);lia
  ·rw[ir hn]at hc;refine xai λl=> ?_;have:=Int.mul_nonpos_of_nonneg_of_nonpos (W:0<=yv a) (W:x<=0);lia
def uc(a:N M):yo (yg a)=yg a:=(QX _ _).symm
def zhc(a:N M)(c:0<m)(k:K):G (pW a m) k=near (G a k) m:=jW (λj b=>by
 rw[ye b];unfold near;rw[xau,zB]) k
def zdB(x:J):near x m%m=x%m:=by
 unfold near;split
 ·simp_all
 ·simp_all
def zkc{x y:J}(h:x%m=y%m)(c:2*y.natAbs<m):near x m=y:=by
 unfold near;rw[h];by_cases b:0<=y
 ·rw[xaJ b W,zB]
 ·have e:y%m=y+m:=by
   rw[<-Int.add_emod_right];exact xaJ W W
  lia
def GV(xs:N Lx)(a:N J)(c:K):N Lx:=(xaN c).map λi=>xs.getD (C a i).toNat ([],[])
theorem zgI(xs:N Lx)(a:N J)(c:K):GV xs a (c+1)=GV xs a c++[xs.getD (C a c).toNat ([],[])]:=by grind [GV,xdk]
theorem zcq(a b:N Lx):pu (a++b)=pu a*pu b:=by grind [pu,vi]
theorem Np:(xs.map (·.1)).getD i []=(xs.getD i ([],[])).1:=by grind
theorem GM(h:i<X xs):xs.getD i ([],[])∈xs:=by grind
def zc7{c k:K}{p:J}{f:N M}(hp:qk p=wL)(o:1<=k)(q:k<=1000)(hn:∀x∈xs,Up p k x.1 x.2/\Qx p x.2/\X x.2<=66)(E:X xs<=1000)(b:AI (X xs) c a)(hc:c<=5)(u:y6 250 f)(ht:0<X f)(H:X f<=66)(d:3000000<=fu):
 ∃t,jA fu f (xs.map (·.1)) a (yz<|p^k)=Z (yg<|pW t<|p^k,a)/\y6 250 t/\X t<=1+c*66/\Cg (p^k) (G t) (F (G f<|X f-1)*pu (GV xs a c)):=by
 have⟨P,Q⟩:=zw hp;have hd:=th hp q;have hv:=lO hp o;have e:eT (yz<|p^k):=hd.okS i0;have R:=b.ln
 obtain⟨s,v,t,rfl,t1,t2,t3⟩:=yc (f:=uo fu (xs.map (·.1)) a<|yz<|p^k) (λs:N M×J×N J=>∃(i:K) (t:N M),i<=c/\s=(t,(i:J),a)/\y6 250 t/\X t<=1+i*66/\Cg (p^k) (G t) (F (G f<|X f-1)*pu (GV xs a i))) (λs=>c-s.2.1.toNat)
  (λr=>∃t:N M,r=(t,a)/\y6 250 t/\X t<=1+c*66/\Cg (p^k) (G t) (F (G f<|X f-1)*pu (GV xs a c))) (by
  rintro s L ⟨i,t,hi,rfl,h1,w,g⟩ y
  unfold uo
  simp only
  by_cases h:i<c
  ·have T:=b.lo i h
   have V:=b.hi i h
   have⟨j,l⟩:=xaE (W:0<=C a i)
   have A:=GM (xs:=xs) (i:=j) W
   have⟨n,Y,hl⟩:=hn _ A
   have hB:=n.len
   rw[zX,U O]
   simp only[uP]
   rw[z8,S,QK,l,zo (by rw[xaj];lia),S,Np,U<|Aq h1 n.rd.ok W W e d,zn,zh8 W]
   simp only
   rw[zb]
   have l1:=YQ (y9 t (xs.getD j ([],[])).1)<|p^k
   have l2:=ua t (xs.getD j ([],[])).1
   refine y _ ⟨i+1,_,W,O,au hd W,W,?_⟩ (by show c-((i:J)+1).toNat<c-(i:J).toNat;lia)
   refine(YS _ _).trans ?_
   rw[kT,zgI,zcq,l,xbe,<-zd]
   refine g.mul<|Cg.of ?_
   exact(yf _).symm
  ·rw[zB,U O]
   simp only[xao,uS]
   obtain rfl:i=c:=W
   exact⟨_,O,t,O,h1,w,g⟩) fu (f.drop (X f-1),0,a) ⟨0,_,xan _,O,λz B=>u z (xeX B),by rw[xbX];lia,by
   rw[HD]
   refine Cg.of<|funext λj=> ?_
   rw[show GV xs a 0=[]from O,show pu []=F 1 from O,yf]
   cases j with
   |zero=>rfl
   |succ j=>exact ye (p:=[f.getD (X f-1) (I,[])]) i7⟩ (by show c-(0:J).toNat<fu;lia)
 refine⟨t,?_,t1,t2,t3⟩;unfold jA;rw[(W:(X f:J)-1=((X f-1:K):J)),zb,yF,yW,S,U v];simp only;have D:y6 250 (pW t<|p^k):=xh λj=>Bz.near hd W;have hC:X (pW t<|p^k)<=X t:=by unfold pW;rw[xC];exact qH _ _
 rw[U<|s9 t1 i0 e W d,zn];unfold Tu;rw[zB];simp only;rw[U<|vR D]
def Ng{x:J}(hl:X a<=1000)(p:3000000<=fu):wg fu a x=Z (decide<|x∈a,a):=by
 unfold wg qJ;have⟨s,g,l⟩:=yc (f:=vX fu a x) (λi:J=>0<=i/\i<=X a/\∀j:K,j<i->C a j≠x) (λi=>(X a-i).toNat) (λr:Z9⊕J=>(r=.inl ()/\¬x∈a)\/∃i:K,r=.inr (i:J)/\x∈a) (by
  rintro i L ⟨i1,i2,d⟩ n;obtain⟨k,rfl⟩:=xaE i1;unfold vX;by_cases h1:k<X a
  ·rw[zX,zo h1,S,QK];by_cases b:x=C a k
   ·rw[iq b];refine⟨_,O,.inr ⟨k,O,?_⟩⟩;rw[b,<-QK,FS,xab h1];simp_all
   ·rw[ir b,zb];refine n _ ⟨W,W,λj c=> ?_⟩ W;by_cases e:j=k
    ·rw[e];exact λh=>b h.symm
    ·exact d j W
  ·rw[zB];refine⟨_,O,.inl ⟨O,λo=> ?_⟩⟩;have⟨j,c,e⟩:=xcE.1 o;refine d j W ?_;rw[<-QK,FS,xab c];exact e) fu 0 ⟨W,W,λj c=>by lia⟩ W
 rw[g];rcases l with⟨rfl,h⟩|⟨i,rfl,h⟩
 ·rw[Wl h];rfl
 ·rw[Wf h];show(if(0:J)<=(i:J)then Z (wL,a)else Z (I,a))=Z (wL,a);rw[zX]
def MH{us:N (N M)}(hl:X us<=1000)(d:X a<=1000)(e:3000000<=fu):
 xQ fu us a=Z (((xaN (X us)).filter λi:K=> !decide ((i:J)∈a)).map λi=>us.getD i [],a):=by
 unfold xQ;rw[U (v:=(((xaN (X us)).filter λi:K=> !decide ((i:J)∈a)).map λi=>us.getD i [],a))];refine zA (λs:N (N M)×J×N J=>∃j:K,j<=X us/\s=(((xaN j).filter λi:K=> !decide ((i:J)∈a)).map λi=>us.getD i [],(j:J),a)) (λs=>X us-s.2.1.toNat) _ ?_ _ _ ⟨0,xan _,O⟩ (by show X us-0<fu;lia);rintro s L ⟨j,f,rfl⟩ c;unfold uG;simp only;by_cases h1:j<X us
 ·rw[zX,U O];simp only[uP];rw[zo h1,S,U<|Ng d e];simp only;have hc:X ((xaN j).filter λi:K=> !decide ((i:J)∈a))<=j:=xap (xfN _ _) (by rw[xev];exact IR j);by_cases b:(j:J)∈a
  ·rw[Wf b,ir i0,zb];refine c _ ⟨j+1,W,?_⟩ (by show X us-((j:J)+1).toNat<X us-(j:J).toNat;lia);rw[xdk,List.filter_append,xfu (by rw[Wf b];decide),List.filter_nil,xbO];rfl
  ·rw[Wl b,iq i0,w8 (by rw[xaj];simp only[xax,xbP];lia),S,zb];refine c _ ⟨j+1,W,?_⟩ (by show X us-((j:J)+1).toNat<X us-(j:J).toNat;lia);rw[xdk,List.filter_append,xft (by rw[Wl b];decide),List.filter_nil,xaY];rfl
 ·rw[zB,U O];simp only[xao,uS];obtain rfl:j=X us:=W
  rfl
end
section
variable{M p:wl}{f q g f0:Pz}{k i fu:wr}{xs:xS Lx}{a:xS wl}
def Bdz(M:J)(f:Pz):Prop:=∀(u v:Pz) (b:K),Fs u->Tp v b->f=u*v->∀j,2*((v b*u j).natAbs:J)<M
def Bdz.dv(h:Bdz M f)(d:Nz g)(l:Fs g)(e:f=q*g):Bdz M q:=λu v b fu hv m j=>by
 have⟨a,c⟩:=Tp.ex l d;have h1:=h u (v*g) (b+a) fu (hv.mul c) (by rw[e,m,zd]) j;rw[KR hv.2 c.2]at h1;have n:(v b*u j).natAbs<=(v b*g a*u j).natAbs:=by
  rw[Int.mul_right_comm,xct<|v b*u j];exact xco _ (by have:=c.1;lia)
 lia
def zpq{K:wr}(h:Bdz M f)(c:Nz g)(d:Fs g)(fq:Fs q)(e:f=q*g)(j:Bz K M)(k:wr):Bz K (q k):=by
 have⟨a,b⟩:=Tp.ex d c;have h1:=h q g a fq b e k;have l:(q k).natAbs<=(g a*q k).natAbs:=by
  rw[xct];exact xed _ (by have:=b.1;lia)
 exact j.le W
structure Gd(g:N Zr):Prop where
 can:yo g=g
 ir:Ir (G g)
 ps:Po (G g)
 ok:y6 250 g
 ln:g.length<=11
structure Ch(p:J)(k:K)(f0:Pz)(F:N Zr)(xs:N Lx)(out:N (N Zr))(c:K):Prop where
 lc:Lc p k (G F) (F.length-1) xs
 k2:k<=1000
 can:yo F=F
 ok:y6 250 F
 ln:F.length<=11
 bd:Bdz (p^k) (G F)
 ls:Ls p (G F) xs c
 ct:xs.length+out.length<=10
 pr:f0=prZ (out.map λg=>(G g:Pz))*G F
 gd:∀g∈out,Gd g
def Ch.l0{c:K}{F:N Zr}{out:N (N Zr)}(h:Ch p k f0 F xs out c):0<X F:=by
 have h1:=h.lc.tp.1;by_cases e:X F=0
 ·exact wS (ye W) h1
 ·lia
theorem zlD(c:2<=p)(d:∀x∈xs,Qx p x.2)(JN:xs.Pairwise λa b=>jZ p (C a.2)<|C b.2){j:K}(hi:i<X xs)(e:j<X xs)(h:xs.getD i ([],[])=xs.getD j ([],[])):i=j:=by grind [Qx.self,xcZ]
theorem zeM(c:2<=p)(d:∀x∈xs,Qx p x.2)(JN:xs.Pairwise λa b=>jZ p (C a.2)<|C b.2):xs.Nodup:=by grind [Qx.self,xcZ]
def SB{α:Type}(d:α)(xs:N α):xs=(xaN (X xs)).map λi=>xs.getD i d:=by
 refine xeI i7 λi h1 b=> ?_;simp_all
theorem zbE{c:K}(d:AI (X xs) c a):∀x∈GV xs a c,x∈xs:=λx e=>by
 obtain⟨j,b,rfl⟩:=xas.1 e;have b:=xbg.1 b;have h1:=d.hi j b;have h:=d.lo j b;grind
def zmI{c:K}(n:2<=p)(hc:∀x∈xs,Qx p x.2)(JN:xs.Pairwise λa b=>jZ p (C a.2)<|C b.2)(l:AI (X xs) c a)(hi:i<X xs):xs.getD i ([],[])∈GV xs a c↔(i:J)∈a:=by
 have hd:=l.ln;constructor
 ·intro h;have⟨j,d,e⟩:=xas.1 h;have d:=xbg.1 d;have h1:=l.hi j d;have r:=l.lo j d;have m:=zlD n hc JN W hi e;have o:i=C a j:=W
  rw[o,<-QK];simp_all
 ·intro h;have⟨j,d,e⟩:=xcE.1 h;have m:C a j=i:=by
   rw[<-QK,FS,xab d];exact e
  exact xas.2 ⟨j,xbg.2 W,by rw[m];rfl⟩
theorem za4{α:Type}(P:α->qR):∀l:N α,X (l.filter P)+X (l.filter λx=> !P x)=X l
 |[]=>rfl
 |x::l=>by
  have b:=za4 P l;grind
def zae{c:K}{F:N Zr}{out:N (N Zr)}(h:Ch p k f0 F xs out c)(hH:1<=c)(hI:c<=5)(L:AI (X xs) c a)(Q:3000000<=fu):
 (qN fu (yz<|p^k) a (F,xs.map (·.1),out)=Z (a,.inl (F,xs.map (·.1),out))/\∀u v,Fs u->Fs v->cf F=u*v->¬mI u->own p u xs≠GV xs a c)\/
 ∃y a',qN fu (yz<|p^k) a (F,xs.map (·.1),out)=Z (a',.inr y)/\∃F' H E,y=(F',H.map (·.1),E)/\Ch p k f0 F' H E c/\X H<X xs:=by
 have l:=h.lc;have hp:=l.hp;have⟨p1,p2⟩:=zw hp;have hz:=th hp h.k2;have hZ:=lO hp l.k1;have hJ:=h.l0;have h0:=h.ln;have h8:=h.ct;have hA:=λx hx=>(l.el x hx).2.1;have⟨t,t1,t2,t3,t4⟩:=zc7 (fu:=fu) hp l.k1 h.k2 l.el W L hI h.ok hJ W Q;have⟨G,R⟩:∃G,G=pW t (p^k):=⟨_,O⟩;rw[<-R]at t1;have hC:∀j,cf G j=near (cf t j) (p^k):=λj=>by rw[R];exact zhc t W j
 have hK:Cg (p^k) (cf G) (pc (cf F<|X F-1)*pu (GV xs a c)):=Cg.trans (λj=>by rw[hC];exact zdB _) t4;have hM:y6 250 G:=by rw[R];exact xh λj=>Bz.near hz W
 have h9:X G<=400:=by
  have:X (pW t<|p^k)<=X t:=by unfold pW;rw[xC];exact qH _ _
  rw[R];lia
 have T:=oU hM;have hN:=Zt G;have h':=Zs G;have V:=gD G;have hn:=uc G;have⟨g,hg⟩:∃g,g=yg G:=⟨_,O⟩;rw[<-hg]at t1 T hN V hn;have r:∀u v,Fs u->Fs v->cf F=u*v->own p u xs=GV xs a c->∃b,Tp v b/\(cf G:Pz)=pc (v b)*u:=λu v s fv e ho=>by
  have⟨nu,A⟩:=VV l.tp.nz e;have⟨d,hd⟩:=Tp.ex s nu;have⟨b,z⟩:=Tp.ex fv A;refine⟨b,z,jp λj=> ?_⟩;have h1:=l.up hd z e;have hO:d+b=X F-1:=by
   have:=hd.mul z;rw[<-e]at this;exact this.uniq l.tp
  have hP:cf F (X F-1)=u d*v b:=by rw[<-hO,e,KR hd.2 z.2]
  rw[hC,zN];refine zkc ?_ ?_
  ·have h2:Cg (p^k) (cf t) (pc (v b)*u):=by
    refine t4.trans ?_;rw[hP,<-ho,xbE,<-kf,zd];exact Cg.rfl.mul h1.symm
   rw[h2 j,zN]
  ·exact h.bd u v b s z e j
 have n:¬(Zd (cf g) (cf F)/\1<X g)->∀u v,Fs u->Fs v->cf F=u*v->¬mI u->own p u xs≠GV xs a c:=λhQ u v s fv e nc ho=>by
  have⟨b,z,D⟩:=r u v s fv e ho;have⟨nu,_⟩:=VV l.tp.nz e;have hq:X (yo G)≠0:=λe0=>by
   have⟨j,hj⟩:=nu;have:=WI e0 j;rw[D,zN]at this;exact(xcT z.1 hj) this
  have⟨q1,q2⟩:=Ve hq;rw[<-hg]at q1 q2;have z1:Zd (cf g) (cf G):=⟨pc<|yv G,Fs.pc _,V.symm⟩;rw[D]at z1;have z2:=Zd.pm (Fs.cf g) q1 z.1 z1;refine hQ ⟨z2.trans ⟨v,fv,by rw[e,zk]⟩,xai λhl=>nc λj hj=> ?_⟩;have h3:cf G j=0:=by rw[<-V,zN,ye W,xaA]
  rw[D,zN]at h3;obtain h4|h4:=xeS.1 h3
  ·exact wS h4 z.1
  ·exact h4
 have hB:∀{q:N Zr}{e:J},xV fu F g=Z (q,e)->qN fu (yz<|p^k) a (F,xs.map (·.1),out)=if e=0 then(if 1<(X g:J)then ck ((X out+1)*24<=140737488355328)<|B (out++[g]) λpr=>Y (xQ fu (xs.map (·.1)) a) λw=>Z (w.2,.inr (q,w.1,pr))else Z (a,.inl (F,xs.map (·.1),out)))else Z (a,.inl (F,xs.map (·.1),out)):=λ{q e} hd=>by
  unfold qN;simp only;rw[U t1];simp only;rw[U hd]
 by_cases hr:X (yo g)=0
 ·rw[hB<|Ad h.ok T i0 i0 W W hr Q,ir i0];refine .inl ⟨O,n λhh=> ?_⟩;rw[hn]at hr;lia
 ·have⟨q,e,d1,d2,d3⟩:=JJ (fu:=fu) h.ok T (by have:=xak (250+1) (W:X F+1<=12);lia) W W hr Q;rw[hB d1];by_cases D:e=0
  ·by_cases hR:1<X g
   ·right;have⟨e1,e2,e3⟩:=d3 D;have hq:X (yo G)≠0:=W
    have⟨q1,q2⟩:=Ve hq;rw[<-hg]at q1 q2;have hc:Tp (cf g) (X g-1):=by
     have:=Qj (a:=g) W;rwa[hn]at this
    have⟨nq,ng⟩:=VV l.tp.nz e1;have hS:X (yo q)≠0:=λe0=>by
     have⟨j,hj⟩:=nq;exact hj<|WI e0 j
    have ht:Tp (cf q) (X q-1):=by
     have:=Qj hS;rwa[e2]at this
    have o:(cf F:Pz)=cf g*cf q:=by rw[e1,zk]
    have P:¬mI (cf g):=λhD=>by
     have:=(mI.tp hc).1 hD;lia
    have hE:∀x∈xs,Di p (C x.2) (cf g)↔x∈GV xs a c:=λx hx=>l.pick (zbE L) hc ht o (γ:=yv G) (by
     rw[V];exact(hK.down<|kz l.k1).trans<|Cg.rfl.mul<|Oh λy hy=>l.el y<|zbE L y hy) hx
    have hT:=zeM p1 hA l.pw;have hW:X (own p (cf g) xs)<=c:=by
     classical
     have h1:(own p (cf g) xs).Nodup:=by unfold own;exact hT.sublist List.filter_sublist
     have h2:=cH h1 (us:=GV xs a c) λx hx=>(hE x (aX.1 hx).1).1 (aX.1 hx).2;have h3:X (GV xs a c)=c:=by unfold GV;simp
     lia
    have hU:=h.ls (cf g) (cf q) (Fs.cf g) (Fs.cf q) o P;have hF:=Ls.ir l h.ls hH (Fs.cf g) (Fs.cf q) o q1 P W;have hu:0<cf g (X g-1):=by
     have⟨m,m1,m2⟩:=q2.tp;have:=m1.uniq hc;rw[<-this];exact m2
    have hv:=l.step hc ht hu e1;have hX:X (own p (cf g) xs)+X (RR p (cf g) xs)=X xs:=by
     classical
     unfold own RR;exact za4 (λx:Lx=>decide<|Di p (C x.2)<|cf g) xs
    have hY:0<p^k:=W
    have hw:(((xaN (X (xs.map (·.1)))).filter λi:K=> !decide ((i:J)∈a)).map λi=>(xs.map (·.1)).getD i [])=(RR p (cf g) xs).map (·.1):=by
     classical
     have e4:RR p (cf g) xs=((xaN (X xs)).filter λi:K=> !decide ((i:J)∈a)).map λi=>xs.getD i ([],[]):=by
      unfold RR;conv=>lhs;rw[SB ([],[]) xs]
      rw[List.filter_map];refine ut _<|List.filter_congr λi hi=> ?_;have hi:=xbg.1 hi;show(!decide (Di p (C (xs.getD i ([],[])).2)<|cf g))=_;have h5:=(hE _<|GM hi).trans<|zmI p1 hA l.pw L hi;by_cases h6:(i:J)∈a
      ·rw[Wf h6,Wf<|h5.2 h6]
      ·rw[Wl h6,Wl λh7=>h6<|h5.1 h7]
     rw[e4,xcN,xaj];refine xbZ λi _=> ?_;exact Np
    have a0:=L.ln;refine⟨(q,(RR p (cf g) xs).map (·.1),out++[g]),a,?_,q,RR p (cf g) xs,out++[g],O,?_,W⟩
    ·rw[iq D,zX,yW,S,U<|MH (by rw[xaj];lia) W Q,hw]
    ·have hV:∀j,Bz 250 (cf q j):=zpq h.bd ng (Fs.cf g) (Fs.cf q) e1 hz;refine⟨hv,h.k2,e2,by rw[<-e2];exact xh hV,W,h.bd.dv ng (Fs.cf g) e1,h.ls.step l (Fs.cf g) (Fs.cf q) e1,?_,?_,λx hx=> ?_⟩
     ·rw[xaw,List.length_singleton];lia
     ·rw[xaY,vi,h.pr,o];show prZ _*(cf g*cf q)=prZ _*(cf g*pc 1)*cf q;rw[yf,zd]
     ·obtain hx|hx:=So.1 hx
      ·exact h.gd x hx
      ·obtain rfl:=xag.1 hx;have:X x<=11:=by
        have:=(hc.mul ht).uniq (by rw[<-o];exact l.tp);lia
       exact⟨hn,hF,q2,T,this⟩
   ·rw[iq D,zB];exact .inl ⟨O,n λhh=>hR hh.2⟩
  ·rw[ir D];exact .inl ⟨O,n λhh=>D<|d2.2 hh.1⟩
def zlY{is:N (Fin (X xs))}(hp:is.Pairwise (· < ·)):AI (X xs) (X is) (is.map λi=>(i.val:J))/\GV xs (is.map λi=>(i.val:J)) (X is)=is.map (xs[·]):=by
 have b:∀j (c:j<X is),C (is.map λi=>(i.val:J)) j=(is[j].val:J):=λj c=>by
  rw[<-QK,FS,xbV,xab c];rfl
 have hc:∀i j (hi:i<X is) (c:j<X is),i<j->is[i].val<is[j].val:=λi j hi c h=>xcZ.1 hp i j hi c h;have hd:∀d i (hi:i+d<X is),is[i].val+d<=is[i+d].val:=λd=>by
  induction d with
  |zero=>intro i hi;exact IR _
  |succ d l=>
   intro i hi;have h1:=l i W;have e:=hc (i+d) (i+(d+1)) W hi W;lia
 refine⟨⟨i7,λi hi=> ?_,λi hi=> ?_,λi hi=> ?_⟩,?_⟩
 ·rw[b i hi];have:=hd i 0 W;simp only[xaK]at this;lia
 ·rw[b i hi];have h1:=hd (X is-1-i) i W;have e:=is[i+(X is-1-i)].isLt;lia
 ·rw[b i W,b (i+1) hi];have:=hc i (i+1) W hi W;lia
 ·unfold GV;refine xeI i7 λi h1 e=> ?_;rw[xaj]at e;rw[List.getElem_map,List.getElem_range,List.getElem_map,b i e,xbe,FS,xab is[i].isLt];rfl
theorem PG{F:List Zr}(h0:Ch p k f0 F xs [] 1)(hf:3000000<=fu):
 ∃s,zg (fun L x=>Z1 fu (yz<|p^k) x L) fu (F,xs.map (·.1),[],1)=some s/\∃(F:List Zr) (xs:List Lx) (out:List (List Zr)) (c:Nat),s=(F,xs.map (·.1),out)/\Ch p k f0 F xs out c/\xs.length<2*c:=by
 exact yc (f:=fun L x=>Z1 fu (yz<|p^k) x L) (fun s:List Zr×List (List Zr)×List (List Zr)×Int=>∃(F:List Zr) (xs:List Lx) (out:List (List Zr)) (c:Nat),s=(F,xs.map (·.1),out,(c:Int))/\Ch p k f0 F xs out c/\1<=c/\c<=6) (fun s=>s.2.1.length*20+(20-s.2.2.2.toNat))
  (fun r=>∃(F:List Zr) (xs:List Lx) (out:List (List Zr)) (c:Nat),r=(F,xs.map (·.1),out)/\Ch p k f0 F xs out c/\xs.length<2*c) (by
  rintro s L ⟨F,xs,out,c,rfl,hC,hc,hi⟩ ih
  unfold Z1
  simp only
  have hk:=hC.ct
  rw[zb,xaj]
  by_cases h2:2*c<=xs.length
  ·rw[zX]
   have hd:=fun a ha=>zae (fu:=fu) (a:=a) hC hc (show c<=5 by lia) ha hf
   rcases L7 (fu:=fu) (N:=xs.length) (c:=c) (g:=qN fu<|yz<|p^k) (x0:=(F,xs.map (·.1),out)) (Rej:=fun a=>∀u v,Fs u->Fs v->cf F=u*v->¬mI u->own p u xs≠GV xs a c) (Acc:=fun a y=>∃F' xs' out',y=(F',xs'.map (·.1),out')/\Ch p k f0 F' xs' out' c/\xs'.length<xs.length) hc (by lia) (by lia) (by lia) hf hd with⟨e,hr⟩|⟨a,y,ha,⟨F',xs',out',rfl,hj,hl⟩,e⟩
   ·rw[za e]
    rw[Sum.elim_inl]
    simp only
    rw[zb]
    refine ih _ ⟨F,xs,out,c+1,by rw[show((c+1:Nat):Int)=(c:Int)+1 by lia],?_,by lia,by lia⟩ (by
     show(xs.map (·.1)).length*20+(20-((c:Int)+1).toNat)<(xs.map (·.1)).length*20+(20-(c:Int).toNat);lia)
    refine⟨hC.lc,hC.k2,hC.can,hC.ok,hC.ln,hC.bd,fun u v fu' fv e nc=> ?_,hC.ct,hC.pr,hC.gd⟩
    have h3:=hC.ls u v fu' fv e nc
    by_cases h4:(own p u xs).length=c
    ·exfalso
     have he:(own p u xs).Sublist xs:=by unfold own;exact List.filter_sublist
     obtain⟨is,e5,e6⟩:=List.sublist_eq_map_getElem he
     obtain⟨i1,i2⟩:=zlY e6
     have hg:is.length=c:=by rw[<-h4,e5,xaj]
     rw[hg]at i1 i2
     exact hr _ i1 u v fu' fv e nc<|by rw[i2,e5]
    ·lia
   ·rw[za e]
    rw[Sum.elim_inr]
    refine ih _ ⟨F',xs',out',c,rfl,hj,hc,hi⟩ ?_
    show(xs'.map (·.1)).length*20+(20-(c:Int).toNat)<(xs.map (·.1)).length*20+(20-(c:Int).toNat)
    rw[xaj,xaj]
    lia
  ·rw[zB]
   exact⟨_,rfl,F,xs,out,c,rfl,hC,by lia⟩) fu (F,xs.map (·.1),[],1) ⟨F,xs,[],1,rfl,h0,by lia,by lia⟩ (by
   show(xs.map (·.1)).length*20+(20-(1:Int).toNat)<fu
   rw[xaj]
   have:=h0.ct
   lia)
def NV{F:N Zr}(h0:Ch p k (G F) F xs [] 1)(n:3000000<=fu):
 ∃out,ZN fu F (xs.map (·.1)) (yz<|p^k)=Z out/\X out<=11/\(∀g∈out,Gd g)/\G F=prZ (out.map λg=>(G g:Pz)):=by
 have⟨f0,hc⟩:∃f0:Pz,f0=G F:=⟨_,O⟩;rw[<-hc]at h0⊢;obtain⟨s,o,F',j,c,m,rfl,b,y⟩:=PG h0 n;unfold ZN;rw[U o];simp only;have hl:=b.ct;have z:=b.l0;have hn:=b.ln;have l:=b.lc.pm;by_cases h1:1<X F'
 ·have A:X (yo F')≠0:=by rw[b.can];lia
  have r:yv F'=1:=by
   have t:=sN F';rw[b.can]at t;have u:=(l _ (oh λk v=>ye v):Wv (G F') (X F')=1);have a3:yv F'=if G (yo F') (X (yo F')-1)<0 then-((Wv (G F') (X (yo F')):K):J)else((Wv (G F') (X (yo F')):K):J):=O;rw[b.can,ir (by have:=b.lc.ps;lia),u]at a3;exact a3
  have w:yg F'=F':=Br (uc F') b.can λk=>by rw[ZQ,r,Int.ediv_one]
  have hi:Ir (G F'):=by
   have x:¬mI (G F'):=λh=>by have:=(mI.tp b.lc.tp).1 h;lia
   have hc1:1<=m\/m=0:=W
   obtain hc1|hc1:=hc1
   ·refine Ls.ir b.lc b.ls hc1 (Fs.cf F') (Fs.pc 1) (yf _).symm l x ?_;have:X (own p (G F') j)<=X j:=by unfold own;exact xfN _ _
    lia
   ·lia
  refine⟨c++[F'],?_,by rw[xaw,List.length_singleton];lia,λg hg=> ?_,?_⟩
  ·rw[zX,U<|vR b.ok,w,yW,S]
  ·obtain hg|hg:=So.1 hg
   ·exact b.gd g hg
   ·obtain rfl:=xag.1 hg;exact⟨b.can,hi,⟨_,b.lc.ps,b.lc.tp.2⟩,b.ok,b.ln⟩
  ·rw[b.pr,xaY,vi];show _=prZ _*(G F'*pc 1);rw[yf]
 ·refine⟨c,by rw[zB],W,b.gd,?_⟩;have⟨d,hd⟩:=((mI.tp b.lc.tp).2 W).ex;rw[hd]at l;have B:=b.lc.ps;have C:G F' (X F'-1)=d:=by rw[hd,(W:X F'-1=0)];exact iq O
  rw[b.pr,hd];obtain e|e:=Ga l
  ·rw[e,yf]
  ·lia
end
section
variable{a b K fu bx by_:wr}{y:wl}
def Bb(b:wr)(x:J):Prop:=x.natAbs<2^b
def Bb.mono{x:J}(h:Bb a x)(c:a<=b):Bb b x:=xah h<|xal i0 c
def Bb.mul{x:J}(c:Bb a x)(d:Bb b y):Bb (a+b) (x*y):=by
 unfold Bb at*
 rw[xct,xbo];by_cases h:y.natAbs=0
 ·rw[h,xcO];exact xdy (xaV i0)<|xaV i0
 ·exact Nat.mul_lt_mul_of_lt_of_le c (xdK d) W
theorem Bb.sub{x:J}(c:Bb b x)(d:Bb b y):Bb (b+1) (x-y):=by grind [Bb,xba]
def Bb.zero(b:wr):Bb b 0:=xaV i0
def Bb.bz{x:J}(h:Bb b x)(c:b<=64*K):Bz K x:=by
 unfold Bz;rw[(i0:(18446744073709551616:wr)=2^64),<-xch];exact xah h<|xal i0 c
def Bb.le{x:J}(c:Bb b y)(h:x.natAbs<=y.natAbs):Bb b x:=xaL h c
def Bb.pow{b:wr}{x:J}(h:Bb b x):∀n,Bb (n*b+1) (x^n)
 |0=>by rw[xcj];unfold Bb;rw[xcp];decide
 |n+1=>by
  rw[xbU,xbf,xcz,Nat.add_right_comm];exact(Bb.pow h n).mul h
def Bb.pow'{b:wr}{x y:J}{c:wr}(h:Bb b x)(d:Bb c y):∀n,Bb (n*b+c) (x^n*y)
 |0=>by rw[xcj,xdg,xcp,xaK];exact d
 |n+1=>by
  rw[xbU,Int.mul_right_comm,xbf,xcz,Nat.add_right_comm];exact(Bb.pow' h d n).mul h
def AJ{n:wr}{a:J}(hn:n<=65536)(e:∀d,d<=n->Bz K (a^d))(h1:Bz K a)(g:K<=40000)(c:3000000<=fu):wY fu (yz a) (n:J)=Z (yz<|a^n):=by
 unfold wY;rw[U<|yi i0 c,U (v:=yz<|a^n)];refine zA (λs:J×M=>∃i:wr,s=((i:J),yz<|a^i)/\i<=n) (λs=>n-s.1.toNat) _ ?_ _ _ ⟨0,by rw[xcj];rfl,xan _⟩ (by show n-0<fu;lia);rintro s L ⟨i,rfl,hi⟩ f;unfold fK;simp only;by_cases h:i<n
 ·rw[zX,U<|zV ((e i hi).ok W) (h1.ok W) c,zn,zn,zb,<-xbU];exact f _ ⟨i+1,O,W⟩ (by show n-((i:J)+1).toNat<n-(i:J).toNat;lia)
 ·rw[zB];obtain rfl:i=n:=W
  rfl
structure PsI(x y:Pz)(l:J)(ly n bx by_ k:wr)(Q ρ:Pz):Prop where
 fq:Fs Q
 eq:F (l^(n-k))*x=Q*y+ρ
 z:∀j,k+(ly-1)<=j->ρ j=0
 b:∀j,Bb (bx+(n-k)*(by_+1))<|ρ j
def PsI.step{x y:Pz}{l:J}{c n k:wr}{Q ρ:Pz}(h:PsI x y l c n bx by_ (k+1) Q ρ)(m:k+1<=n)(f:Tp y (c-1))(hl:y (c-1)=l)(d:∀j,Bb by_<|y j):
 PsI x y l c n bx by_ k (F l*Q+mono k (ρ<|k+(c-1))) (λj=>l*ρ j-ρ (k+(c-1))*sh y k j):=by
 have e1:n-k=n-(k+1)+1:=W
 have g:bx+(n-k)*(by_+1)=by_+(bx+(n-(k+1))*(by_+1))+1:=by rw[e1,xbf];lia
 refine⟨((Fs.pc l).mul h.fq).add ⟨k+1,λj i=>zB⟩,?_,λj i=> ?_,λj=> ?_⟩
 ·rw[e1,xbU,xbE,<-kf,zd,h.eq,wC,yR,zd];funext j;rw[zU,zU,zU,VL,zN l ρ];show _=_+_+(l*ρ j-ρ (k+(c-1))*sh y k j);lia
 ·show l*ρ j-ρ (k+(c-1))*sh y k j=0;unfold sh;rw[zX];by_cases e:j=k+(c-1)
  ·rw[e,(W:k+(c-1)-k=c-1),hl,xbE];lia
  ·rw[h.z j W,f.2 _ W];lia
 ·rw[g];refine Bb.sub ((show Bb by_ l by rw[<-hl];exact d _).mul<|h.b j) ?_;rw[xdW by_];refine(h.b _).mul ?_;unfold sh;split
  ·exact d _
  ·exact Bb.zero _
def zmg{n:wr}{l:N M}(j:wr):G (xaa n (I,[])++l) j=sh (G l) n j:=by
 unfold sh;by_cases h:n<=j
 ·rw[iq h];unfold G;rw[FS,xbr (by rw[xaM];exact h),xaM,<-FS]
 ·rw[ir h];unfold G;rw[FS,xaX (by rw[xaM];lia),xdj];rw[zX];rfl
theorem rk{x y:List Zr}(hx:yo x=x)(hy:yo y=y)(hl:y.length<=x.length)(hJ:0<y.length)(hK:x.length<=60)(bX:∀j,Bb bx<|cf x j)(bY:∀j,Bb by_<|cf y j)(hT:bx+(x.length-y.length+1)*(by_+1)<=2400000)(hf:3000000<=fu):
 ∃q r c Q,ui fu x y=some (q,r,0)/\yo r=r/\r.length<y.length/\c≠0/\Fs Q/\(pc c*cf x:Pz)=Q*cf y+cf r/\∀j,Bb (bx+(x.length-y.length+1)*(by_+1)) (cf r j):=by
 obtain⟨n,hn⟩:∃n,n=x.length-y.length+1:=⟨_,rfl⟩;rw[<-hn]at hT⊢;obtain⟨T,hL⟩:∃T,T=bx+n*(by_+1):=⟨_,rfl⟩;have ty:Tp (cf y) (y.length-1):=by
  have:=Qj (a:=y) (by rw[hy];lia);rwa[hy]at this
 obtain⟨l,hg⟩:∃l,l=cf y (y.length-1):=⟨_,rfl⟩;have he:l≠0:=by rw[hg];exact ty.1
 have bl_:Bb by_ l:=by rw[hg];exact bY _
 have hm:∀d,d<=n->d*(by_+1)<=n*(by_+1):=fun d hd=>xak _ hd;have ho:∀d:Nat,d*(by_+1)=d*by_+d:=fun d=>by rw[xbn,xea]
 have hM:by_+1<=T:=by have:=hm 1 (by lia);rw[xcz]at this;lia
 have oX:y6 37500 x:=by rw[<-hx];exact xh fun j=>(bX j).bz<|by lia
 have oY:y6 37500 y:=by rw[<-hy];exact xh fun j=>(bY j).bz<|by lia
 have bpw:∀d,d<=n->Bz 37501 (l^d):=fun d hd=>(Bb.pow bl_ d).bz (by have:=hm d hd;have:=ho d;lia);have bpx:∀d,d<=n->∀z,Bb (bx+(n-d)*(by_+1)) z->Bb T (l^d*z):=fun d hd z hz=>(Bb.pow' bl_ hz d).mono (by
  have h1:=ho d;have h2:n*(by_+1)=d*(by_+1)+(n-d)*(by_+1):=by rw[<-xbf];congr 1;lia
  lia)
 have hB:y.getD (y.length-1) (false,[])=yz l:=by rw[hg];exact Dw (show y=wU y.length (cf y)from hy.symm)
 obtain⟨r0,hi⟩:∃r0,r0=wU x.length (fun j=>cf x j*l^n):=⟨_,rfl⟩;have ht:∀j,cf r0 j=l^n*cf x j:=fun j=>by rw[hi,jW (fun j hj=>by rw[ye hj,xbd]),xbE]
 obtain⟨s,hs,r,q,rfl,ρ,Q,r1,r2,r3,r4⟩:=yc (f:=VX fu<|yz l) (fun s:List Zr×List Zr×Int×List Zr=>∃(k:Nat) (r q:List Zr),s=(y,r,(k:Int)-1,q)/\k<=n/\yo r=r/\r.length<=x.length+60*(n-k)/\q.length=n/\y6 37500 q/\∃Q ρ,PsI (cf x) (cf y) l y.length n bx by_ k Q ρ/\∀j,cf r j=l^k*ρ j) (fun s=>(s.2.2.1+1).toNat)
  (fun t=>∃(r q:List Zr),t=(r,q)/\∃ρ Q,yo r=r/\(q.length=n/\y6 37500 q)/\PsI (cf x) (cf y) l y.length n bx by_ 0 Q ρ/\∀j,cf r j=ρ j) (by
  rintro s L ⟨k,r,q,rfl,hk,hr,hN,hp,hq,Q,ρ,hI,hc⟩ ih
  unfold VX
  simp only
  cases k with
  |zero=>
   rw[zB]
   exact⟨_,rfl,r,q,rfl,ρ,Q,hr,⟨hp,hq⟩,hI,fun j=>by rw[hc j,xcj,xdg]⟩
  |succ k=>
   have hH:60*(n-(k+1))+60=60*(n-k):=by lia
   have hO:60*(n-k)<=60*60:=xaC _<|by lia
   have hu:=hI.step hk ty hg.symm bY
   have bR:∀j,Bb T (cf r j):=fun j=>by rw[hc j];exact bpx (k+1) hk _<|hI.b j
   have oR:y6 37500 r:=by rw[<-hr];exact xh fun j=>(bR j).bz<|by lia
   rw[show((k+1:Nat):Int)-1=(k:Int)by lia,zX,zb]
   by_cases hP:r.length<k+y.length
   ·have hC:ρ (k+(y.length-1))=0:=by
     have h1:=hc<|k+(y.length-1);rw[ye<|by lia]at h1;rcases xeS.1 h1.symm with h2|h2
     ·exact absurd h2<|Int.pow_ne_zero he
     ·exact h2
    rw[zX,zb]
    refine ih _ ⟨k,r,q,rfl,by lia,hr,by lia,hp,hq,_,_,hu,fun j=> ?_⟩ (by show((k:Int)-1+1).toNat<(((k+1:Nat):Int)-1+1).toNat;lia)
    show cf r j=l^k*(l*ρ j-ρ (k+(y.length-1))*sh (cf y) k j)
    rw[hC,xbd,xdi,hc j,xbU,xdc]
   ·have hD:r.length=k+y.length:=by
     by_cases e:r.length=k+y.length
     ·exact e
     ·exfalso;have h1:=Xp (show r=wU r.length (cf r)from hr.symm) (by lia);rw[hc,hI.z _ (by lia),xaA]at h1;exact h1 rfl
    obtain⟨w,hw⟩:∃w,w=ρ (k+(y.length-1)):=⟨_,rfl⟩
    have hF:cf r (k+(y.length-1))=l^k*w*l:=by rw[hc,<-hw,xbU,Int.mul_right_comm]
    have bw:Bb T (l^k*w):=by
     refine bpx k (by lia) w ((hI.b _).mono ?_|>fun h=>by rw[hw];exact h);have:=hm (n-(k+1)) (by lia);have h3:(n-k)*(by_+1)=(n-(k+1))*(by_+1)+(by_+1):=by rw[show n-k=n-(k+1)+1 by lia,xbf,xcz]
     lia
    have bwy:∀j,Bb T (cf y j*(l^k*w)):=fun j=>by
     have h1:Bb (by_+(k*by_+(bx+(n-(k+1))*(by_+1)))) (cf y j*(l^k*w)):=(bY j).mul<|Bb.pow' bl_ (by rw[hw];exact hI.b _) k;refine h1.mono ?_;have h2:n*(by_+1)=(k+1)*(by_+1)+(n-(k+1))*(by_+1):=by rw[<-xbf];congr 1;lia
     have h3:=ho<|k+1;rw[xbf k 1 by_,xcz]at h3;lia
    have hE:exE (l^k*w*l) l=0:=by unfold exE;rw[ir he,iq<|Int.mul_emod_left _ _]
    have hX:exI (l^k*w*l) l=l^k*w:=by unfold exI;rw[ir he,iq<|Int.mul_emod_left _ _,Int.mul_ediv_cancel _ he]
    rw[zB,zb,show(k:Int)+(y.length:Int)-1=((k+(y.length-1):Nat):Int)by lia,zb,z8,ze,za<|k9 (oR.okS (by decide) _) ((bl_.bz (K:=37500)<|by lia).okS<|by decide) hf,Vd,zn,hF,hX,hE]
    simp only
    have hv:(q.set k<|yz<|l^k*w).getD k (false,[])=yz (l^k*w):=by rw[FS,xdv<|by lia];rfl
    rw[z8,ze,yF,yW,ze,zo (by rw[xbj];lia),ze,hv,za<|jO (l:=37500) oY ⟨yx _,(bw.bz (K:=37500)<|by lia).len⟩ (by decide) (by lia) hf,zn]
    obtain⟨part,ha⟩:∃part,part=wU y.length (fun j=>cf y j*(l^k*w)):=⟨_,rfl⟩
    have hG:∀j,cf part j=cf y j*(l^k*w):=fun j=>by rw[ha,jW<|fun j hj=>by rw[ye hj,xbd]]
    have hQ:part.length<=y.length:=by rw[ha,xC];exact qH _ _
    have oPt:y6 37500 part:=by rw[ha];exact xh fun j=>(bwy j).bz<|by lia
    have oSum:y6 37500 (xaa k (false,[])++part):=fun z hz=>by
     rcases So.1 hz with hz|hz
     ·rw[(xfr.1 hz).2];exact⟨zm.nil,xan _⟩
     ·exact oPt z hz
    rw[<-ha,w8 (by rw[xaM];lia),ze,za<|Za oR oSum (by decide) (by lia) (by rw[xaw,xaM];lia) hf,zb]
    refine ih _ ⟨k,_,_,rfl,by lia,(QX _ _).symm,?_,by rw[xbj];exact hp,?_,_,_,hu,fun j=> ?_⟩ (by show((k:Int)-1+1).toNat<(((k+1:Nat):Int)-1+1).toNat;lia)
    ·have:=UJ r<|xaa k (false,[])++part
     rw[xaw,xaM]at this
     lia
    ·intro z hz
     rcases xdF hz with h1|h1
     ·exact hq z h1
     ·rw[h1];exact⟨yx _,(bw.bz (K:=37500)<|by lia).len⟩
    ·rw[zaD,zmg,hc j]
     show l^(k+1)*ρ j-sh (cf part) k j=l^k*(l*ρ j-ρ (k+(y.length-1))*sh (cf y) k j)
     rw[<-hw]
     have e2:sh (cf part) k j=l^k*(w*sh (cf y) k j):=by
      unfold sh;split
      ·rw[hG,xbE,xdc]
      ·rw[xaA,xaA]
     rw[e2,xbU,Int.mul_sub,xdc]) fu (y,r0,(n:Int)-1,xaa n (false,[])) ⟨n,r0,_,rfl,IR _,by rw[hi];exact(QX _ _).symm,by rw[hi,xC];have:=qH (fun j=>cf x j*l^n) x.length;lia,xaM,fun z hz=>by rw[(xfr.1 hz).2];exact⟨zm.nil,xan _⟩,pc 0,cf x,⟨Fs.pc 0,by
    rw[xcD,xcj,zC,yu];exact funext fun j=>by rw[zU,zQ,xcS],fun j hj=>ye (by lia),fun j=>by rw[xcD,xcp];exact bX j⟩,ht⟩ (by show((n:Int)-1+1).toNat<fu;lia)
 refine⟨wU q.length<|cf q,r,l^n,Q,?_,r1,?_,Int.pow_ne_zero he,r3.fq,?_,fun j=>by rw[r4 j];exact r3.b j⟩
 ·unfold ui;have hA:max ((x.length:Int)-y.length+1) 0=(n:Int):=by lia
  rw[za<|zJ oX (by decide) (by lia) hf,za<|zJ oY (by decide) (by lia) hf,show wU x.length (cf x)=x from hx,show wU y.length (cf y)=y from hy,zB,zb,zb,ze,hA,show(y.length:Int)-1=((y.length-1:Nat):Int)by lia,zb,z8,ze,hB,za<|AJ (by lia) bpw ((bl_.bz (K:=37501)<|by lia)) (by decide) hf,za<|jO (l:=37501) oX ⟨yx _,(bpw n<|IR _).len⟩ (by decide) (by lia) hf,zn,<-hi,yF,yW,ze,zb,za hs];simp only;rw[za<|zJ r2.2 (by decide) (by lia) hf]
 ·by_cases e:r.length=0
  ·lia
  ·have h1:=Xp (show r=wU r.length (cf r)from r1.symm) e;by_cases h2:r.length<y.length
   ·exact h2
   ·rw[r4,r3.z _<|by lia]at h1;exact absurd rfl h1
 ·have:=r3.eq;rw[Nat.sub_zero]at this;rw[this,show(cf r:Pz)=ρ from funext r4]
end
end Go.Proofs.YtoegnnjcmlghhaaGreat
