/- What a proof needs: rules of walking, mirrors of functions and their plain laws. No condition. -/
import Derived.Test.YtoegnnjcmlghhaaGreatZf5
set_option linter.all false
namespace Go.Proofs.YtoegnnjcmlghhaaGreat
open Bool renaming false->I,true->wF
open Go renaming Func->QR
open Go.Proofs.YtoegnnjcmlghhaaGreat renaming Zr->M,cf->G,bd->Y,za->U,nm->B,cC->D,ze->Q,zt->A
open List renaming length->X,length->i0
open Nat renaming beq->E
open Option renaming some->Z
open _root_ renaming rfl->O,List->N,Int->J,Nat->K,Option->V,List->xS,Int->wl,Nat->wr,Option->ww,absurd->wR,trivial->wS,Bool->wW,funext->qR,congrArg->kW,if_false->ut,if_true->uL,decide_eq_false->uT,decide_eq_true->Z3,True->XS,congrFun->Wf,of_decide_eq_true->Wl,False->V6,if_pos->UT
open Bool renaming false_eq_true->xak
open Classical renaming byContradiction->xae,choose_spec->xfH
open Int renaming add_comm->xfc,add_emod->xec,add_zero->xbZ,dvd_mul_left->xcx,dvd_mul_right->xcc,dvd_of_emod_eq_zero->xaB,dvd_refl->xed,dvd_sub->xdw,dvd_trans->xbp,dvd_zero->xdE,emod_emod->xaT,emod_emod_of_dvd->xcL,emod_eq_emod_iff_emod_sub_eq_zero->xaI,emod_eq_of_lt->xaL,emod_eq_zero_of_dvd->xaw,emod_lt_of_pos->xdI,emod_nonneg->xcT,eq_ofNat_of_zero_le->xaA,le_refl->xfy,mul_add->xfx,mul_assoc->xdg,mul_comm->xbw,mul_dvd_mul->xfT,mul_emod->xck,mul_eq_zero->xeI,mul_le_mul_of_nonneg_left->xaV,mul_le_mul_of_nonneg_right->xbx,mul_nonneg->xcJ,mul_one->xcZ,mul_zero->xaz,natAbs_dvd_natAbs->xcq,natAbs_mul->xcC,natAbs_natCast->xbh,natCast_add->xeD,natCast_dvd_natCast->xcF,natCast_nonneg->xdm,one_mul->xcY,pow_nonneg->xfA,pow_succ->xbY,pow_zero->xcl,sub_self->xee,sub_zero->xdc,tdiv->xct,tdiv_eq_ediv_of_nonneg->xeM,tmod->xca,toNat_natCast->xbc,toNat_of_nonneg->xdj,zero_add->xcE,zero_ediv->xef,zero_emod->xas,zero_mul->xba
open List renaming append_assoc->xaf,append_of_mem->xeg,drop_eq_getElem_cons->xbT,drop_eq_nil_of_le->xcd,ext_getElem->xeT,ext_getElem?->xcH,getD_eq_getElem?_getD->H1,getElem?_append_left->xaR,getElem?_append_right->xbj,getElem?_drop->xfe,getElem?_eq_getElem->xah,getElem?_take->xcA,getElem_mem->xbE,getElem_of_mem->xcr,length_append->xap,length_cons->xau,length_drop->xbR,length_eq_zero_iff->xbs,length_nil->xbH,length_pos_of_mem->xfr,length_range->xep,length_replicate->xaZ,length_set->xbC,length_take->xax,map_append->xaW,map_congr_left->xci,map_cons->xcb,mem_append->So,mem_append_left->xcM,mem_append_right->xeh,mem_cons->xaa,mem_cons_of_mem->UV,mem_cons_self->FS,mem_iff_getElem->xdN,mem_map->xat,mem_map_of_mem->xbI,mem_of_mem_drop->xeO,mem_of_mem_take->xel,mem_range->xbe,mem_singleton->xad,nil_append->xby,nodup_cons->xfk,pairwise_append->xdp,pairwise_cons->xbQ,pairwise_iff_getElem->xdd,pairwise_map->xeq,range->xaH,range_succ->xdl,replicate->xac,take_add_one->xeL,take_append_drop->xbv,take_length->xcw,take_of_length_le->xaQ
open Nat renaming add_assoc->xcU,add_comm->xdA,add_mul->xbb,div_add_mod->xbt,div_div_eq_div_mul->xaE,div_eq_of_lt->xbg,div_le_self->xcp,div_one->xdK,eq_zero_or_pos->xcB,gcd->xdq,gcd_comm->xdF,gcd_dvd_left->xfM,gcd_dvd_right->xdx,le_add_right->xbM,le_antisymm->xcR,le_div_iff_mul_le->xcD,le_max_left->xeo,le_max_right->xdY,le_of_not_lt->xbu,le_refl->Nm,le_succ->xbN,le_trans->xal,lt_of_le_of_lt->xaK,lt_of_lt_of_le->xao,lt_of_not_le->xdf,min_eq_left->xce,mod_eq_of_lt->xam,mod_lt->xaS,mul_add->xbk,mul_assoc->xaP,mul_comm->xaO,mul_le_mul->xbo,mul_le_mul_left->xaD,mul_le_mul_right->xan,mul_one->xdU,not_lt_zero->xbn,pos_of_ne_zero->xco,pow_le_pow_right->xav,pow_mul->xcz,pow_succ->xbf,pow_succ'->xdO,pow_zero->xeH,strongRecOn->xdz,sub_self->xcQ,zero_add->xaJ,zero_le->xai
section
variable{a b p:xS Zr}{k fu j l:wr}{h g:wr->Zr}
theorem WJ(h:max (X a) (X b)<=k:=by lia):G a k+G b k=0:=by grind [zW]
theorem zac(c:yH k a)(d:yH k b)(e:k<=100000)(f:3000000<=fu)(hc:X b<=1000000)(j:K)(i:j<X b):
 kM fu (j:J) (b.getD j (I,[])) a=Z (if j<X a then yp (G a j+G b j)else b.getD j (I,[])):=by grind [kM,zo,zf,U,qL,yH.okZ,Z8]
def tJ(a b:N M):N M:=(xaH (X b)).map λj=>if j<X a then yp (G a j+G b j)else b.getD j (I,[])
theorem zdn{n:K}(c:j<n):((xaH n).map h).getD j (I,[])=h j:=by grind
theorem map_set{n i:K}:((xaH n).map h).set i (g i)=(xaH n).map (λk=>if k=i then g k else h k):=by
 refine xcH λm=> ?_;by_cases e:i=m
 ·grind
 ·grind
def zgN{c:J->M->V M}(hl:X p<=1000000)(n:2000000<fu)(h:∀j:K,j<X p->c (j:J) (p.getD j (I,[]))=Z (g j)):
 zH fu p c=Z ((xaH (X p)).map g):=by
 unfold zH;have e0:xac (X p) ((I,[]):M)=(xaH (X p)).map (λk=>if k<0 then g k else(I,[])):=by
  rw[az];rfl
 rw[yR,yV,zf,e0,U];refine zA (λs:J×N M=>∃i:K,i<=X p/\s=((i:J),(xaH (X p)).map (λk=>if k<i then g k else(I,[])))) (λs=>X p-s.1.toNat) _ ?_ _ _ ⟨0,xai _,O⟩ (by show X p-0<fu;lia);rintro s L ⟨i,hi,rfl⟩ m;unfold w5;simp only;by_cases h1:i<X p
 ·rw[zT,U O];simp only[uL];rw[zo h1,zf,U<|h i h1,zo (by simp;exact h1),zf,map_set,zb];refine m _ ⟨i+1,W,?_⟩ (by show X p-((i:J)+1).toNat<X p-(i:J).toNat;lia);congr 1;refine xci λk d=> ?_;by_cases e:k=i
  ·rw[iq e,zT,e]
  ·rw[ir e];by_cases f:k<i
   ·rw[iq f,zT]
   ·rw[ir f,zB]
 ·rw[zB,U O];simp only[xak,ut];congr 1;refine xci λk d=> ?_;have:=xbe.1 d;rw[zT]
theorem zdN(i:yH k a)(d:yH k b)(o:k+1<=100000)(hd:X b<=1000000)(m:3000000<=fu)(hl:X a<=X b):
 Y (zH fu b<|λe f=>kM fu e f a) (λt1=>Y (zM fu t1) λt2=>Z t2)=Z (wk (max (X a) (X b))<|λj=>G a j+G b j):=by
 have q:X (tJ a b)=X b:=by unfold tJ;simp
 have r:∀j,j<X b->(tJ a b).getD j (I,[])=if j<X a then yp (G a j+G b j)else b.getD j (I,[]):=λj c=>by unfold tJ;rw[zdn c]
 have hc:∀j,G (tJ a b) j=G a j+G b j:=λj=>by
  by_cases c:j<X b
  ·conv=>lhs;unfold G
   rw[r j c];by_cases h:j<X a
   ·rw[iq h,zn]
   ·rw[ir h,zW (p:=a) W,xcE];rfl
  ·rw[zW W,zW W,zW W];rfl
 have s:yH (k+1) (tJ a b):=λz n=>by
  unfold tJ at n;obtain⟨j,c,rfl⟩:=xat.1 n;split
  ·exact⟨yG _,((i.bz j).add<|d.bz j).len⟩
  ·exact(d.mono<|xbN k).get j
 rw[U<|zgN (g:=λj=>if j<X a then yp (G a j+G b j)else b.getD j (I,[])) hd W λj c=>zac i d W m hd j c];show Y (zM fu<|tJ a b) _=_;rw[U<|zI s o W m,q];congr 1;refine YM (λj c=>zW W) (λj c=>WJ c) hc
theorem dP(c:yH k a)(d:yH k b)(e:k+1<=100000)(hc:X a<=1000000)(hd:X b<=1000000)(f:3000000<=fu):
 vJ fu a b=Z (wk (max (X a) (X b))<|λj=>G a j+G b j):=by grind [vJ,zdN]
theorem gy:Q8 fu p (j:J)=Z (p.getD j (I,[])):=by grind [Q8,zo,zf]
def Y6(c:yH k a)(d:yH k b)(m:k+1<=100000)(hc:X a<=1000000)(hd:X b<=1000000)(e:3000000<=fu):
 Yh fu a b=Z (wk (max (X a) (X b))<|λj=>G a j+G b j):=by
 unfold Yh;have⟨n,hn⟩:∃n,n=max (X a) (X b):=⟨_,O⟩;have r:n<=1000000:=W
 have o:yH (k+1) (zi n<|λj=>G a j+G b j):=Yf λj=>(c.bz j).add<|d.bz j;rw[U (v:=zi n<|λj=>G a j+G b j)]
 ·rw[U<|y9 o m (by rw[yc];lia) e,yc,<-hn];congr 1;exact YM (λj f=>zW<|by rw[yc];lia) (λj f=>WJ)<|λj=>Jz (λj f=>WJ) j
 ·refine zA (λs:N M×J=>∃i:K,i<=n/\s=(zi i<|λj=>G a j+G b j,(i:J))) (λs=>n-s.2.toNat) _ ?_ _ _ ⟨0,xai _,O⟩ (by show n-0<fu;lia);rintro s L ⟨i,hi,rfl⟩ q;unfold gj;simp only;rw[zf];by_cases h1:i<n
  ·rw[zT,U gy,U gy,U<|YU (c.okZ W i) (d.okZ W i) e,Z8,Z8,xB (by rw[yc];simp;lia),zf,zb];exact q _ ⟨i+1,W,by rw[<-mN];rfl⟩ (by show n-((i:J)+1).toNat<n-(i:J).toNat;lia)
  ·rw[zB];obtain rfl:i=n:=W
   rfl
def XI{c:J}(h:X a<=k):G a k*c=0:=by rw[zW h,xba]
def U7.of{z:M}(h:zm z.2/\X z.2<=k)(c:k<=100000):U7 z:=⟨h.1,xal h.2 c⟩
def jy{c:M}(e:yH k a)(hc:zm c.2/\X c.2<=l)(i:k+l<=100000)(hd:X a<=1000000)(f:3000000<=fu):
 vI fu a c=Z (wk (X a)<|λj=>G a j*zv c):=by
 unfold vI;have m:yH (k+l) (zi (X a)<|λj=>G a j*zv c):=Yf λj=>(e.bz j).mul<|(Bz.of hc.1).mono hc.2;rw[U<|A7 hd W ?_]
 ·rw[U<|zI m i (by rw[yc];lia) f,yc];congr 1;exact YM (λj d=>zW<|by rw[yc];lia) (λj d=>XI d)<|λj=>Jz (λj d=>XI d) j
 ·intro j d;unfold VE;rw[U<|yv (e.okZ W j) (U7.of hc W) f,Z8]
theorem ri{c:M}(e:yH k a)(hc:zm c.2/\X c.2<=l)(m:k+l<=100000)(hd:X a<=1000000)(f:3000000<=fu):
 Wx fu a c=Z (wk (X a)<|λj=>G a j*zv c):=by
 unfold Wx;have n:yH (k+l) (zi (X a)<|λj=>G a j*zv c):=Yf λj=>(e.bz j).mul<|(Bz.of hc.1).mono hc.2;rw[U (v:=zi (X a)<|λj=>G a j*zv c)]
 ·rw[U<|y9 n m (by rw[yc];lia) f,yc];congr 1;exact YM (λj d=>zW<|by rw[yc];lia) (λj d=>XI d)<|λj=>Jz (λj d=>XI d) j
 ·refine zA (λs:N M×J=>∃i:K,i<=X a/\s=(zi i<|λj=>G a j*zv c,(i:J))) (λs=>X a-s.2.toNat) _ ?_ _ _ ⟨0,xai _,O⟩ (by show X a-0<fu;lia);rintro s L ⟨i,hi,rfl⟩ o;unfold aV;simp only;by_cases h1:i<X a
  ·rw[zT,zo h1,zf,U<|VG (e.okZ W i) (U7.of hc W) f,Z8,xB (by rw[yc];simp;lia),zf,zb];exact o _ ⟨i+1,W,by rw[<-mN];rfl⟩ (by show X a-((i:J)+1).toNat<X a-(i:J).toNat;lia)
  ·grind
def KH(a b:N M):N M:=wk (max (X a) (X b))<|λj=>G a j-G b j
def yN{n:K}{f:K->J}(h:∀j,Bz k<|f j):yH k (wk n f):=Yf h
theorem N2{m:K}(d:m=dg (λj=>G b j* -1) (X b)):wk (max (X a) (X (wk (X b)<|λj=>G b j* -1))) (λj=>G a j+G (wk (X b)<|λj=>G b j* -1) j)=KH a b:=by
 have e:∀j,G (wk (X b)<|λj=>G b j* -1) j=G b j* -1:=jo λj c=>XI c;refine YM (λj c=>WJ c) (λj c=> ?_)<|λj=> ?_
 ·rw[zW W,zW W];rfl
 ·grind
theorem Bz.one:∀{k:K},1<=k->Bz k (-1):=by grind [Bz]
def uj(e:yH k a)(d:yH k b)(i:k+2<=100000)(hc:X a<=1000000)(f:X b<=1000000)(c:3000000<=fu):
 jK fu a b=Z (KH a b):=by
 unfold jK;have hd:=qg (λj=>G b j* -1) (X b);rw[U<|ym gS c,U<|jy d ⟨yG _,(Bz.one<|Nm _).len⟩ W f c,zn,U<|dP (e.mono W) (yN λj=>(d.bz j).mul<|Bz.one<|Nm _) W hc (by rw[xw];lia) c,N2 O]
def dh(e:yH k a)(c:yH k b)(i:k+2<=100000)(hc:X a<=1000000)(f:X b<=1000000)(d:3000000<=fu):
 J2 fu a b=Z (KH a b):=by
 unfold J2;have hd:=qg (λj=>G b j* -1) (X b);rw[U (ZB gS),U<|ri c ⟨yG _,(Bz.one<|Nm _).len⟩ W f d,zn,U<|Y6 (e.mono W) (yN λj=>(c.bz j).mul<|Bz.one<|Nm _) W hc (by rw[xw];lia) d,N2 O]
end
section
variable{kb ka fu:wr}{b a:xS Zr}
def NZ(b:N M)(i k:K):J:=if i<=k then G b (k-i)else 0
def Yy(a b:N M):K->K->J
 |0,_=>0
 |n+1,k=>Yy a b n k+G a n*NZ b n k
def ZK(a b:N M)(i j k:K):J:=Yy a b i k+if i<=k/\k<i+j then G a i*G b (k-i)else 0
def yS(a b:N M):N M:=wk (X a+X b)<|Yy a b (X a)
theorem zdq(c:yH kb b)(i k:K):Bz kb (NZ b i k):=by grind [NZ,Bz.zero,yH.bz]
def oi{ka kb:K}{a b:N M}(c:yH ka a)(d:yH kb b):∀n k,Bz (ka+kb+n) (Yy a b n k)
 |0,k=>Bz.zero _
 |n+1,k=>by
  have h:=((c.bz n).mul<|zdq d n k).mono (W:ka+kb<=ka+kb+n);exact Bz.add (oi c d n k) h
def BN(c:yH ka a)(d:yH kb b)(i j k:K):Bz (ka+kb+i+1) (ZK a b i j k):=by
 refine Bz.add (oi c d i k) ?_;split
 ·exact((c.bz i).mul<|d.bz _).mono W
 ·exact Bz.zero _
def PV{a b:N M}{k:K}:∀{n},n+X b<=k+1->Yy a b n k=0
 |0,_=>rfl
 |n+1,h=>by
  unfold Yy NZ;rw[PV W,zT,zW (p:=b) W,xaz];rfl
def KS{k:K}(h:X a+X b<=k:=by lia):Yy a b (X a) k=0:=PV W
def oW(a b:N M)(i k:K):ZK a b i 0 k=Yy a b i k:=by
 unfold ZK;lia
theorem nT(a b:N M)(i k:K):ZK a b i (X b) k=Yy a b (i+1) k:=by
 rw[show Yy a b (i+1) k=Yy a b i k+G a i*NZ b i k from O];unfold ZK NZ;by_cases h:i<=k
 ·rw[iq h];by_cases c:k<i+X b
  ·lia
  ·rw[ir<|λe=>c e.2,zW (p:=b) W,xaz]
 ·grind
def mQ(a b:N M)(i j k:K):Y8 (ZK a b i j) (i+j) (ZK a b i j (i+j)+G a i*G b j) k=ZK a b i (j+1) k:=by
 unfold Y8;by_cases h:k=i+j
 ·subst h;unfold ZK;simp_all
 ·skip;unfold ZK;by_cases c:i<=k/\k<i+j
  ·lia
  ·lia
def xX(c:yH ka a)(d:yH kb b)(o:ka+kb+X a+1<=100000)(hc:X b<=100000)(g:3000000<=fu):wu fu a b=Z (yS a b):=by
 unfold wu;rw[zb,(W:(X a:J)+(X b:J)=((X a+X b:K):J)),yR,yV,zf,az];have⟨n,hn⟩:∃n,n=X a+X b:=⟨_,O⟩;rw[<-hn,U (v:=zi n<|Yy a b (X a))]
 ·rw[U<|zI (Yf<|oi c d (X a)) W (by rw[yc];lia) g,yc];congr 1;unfold yS;exact YM (λj f=>zW<|by rw[yc];lia) (λj f=>KS f)<|λj=>Jz (λj f=>KS) j
 ·refine zA (λs:J×N M=>∃i:K,i<=X a/\s=((i:J),zi n<|Yy a b i)) (λs=>X a-s.1.toNat) _ ?_ _ _ ⟨0,xai _,O⟩ (by show X a-0<fu;lia);rintro s L ⟨i,hi,rfl⟩ l;unfold gI;simp only;by_cases h1:i<X a
  ·rw[zT,U O];simp only[uL];rw[zo h1,zf,U (v:=zi n<|Yy a b<|i+1),zb]
   ·exact l _ ⟨i+1,W,O⟩ (by show X a-((i:J)+1).toNat<X a-(i:J).toNat;lia)
   ·refine zA (λs:J×N M×M=>∃j:K,j<=X b/\s=((j:J),zi n<|ZK a b i j,a.getD i (I,[]))) (λs=>X b-s.1.toNat) _ ?_ _ _ ⟨0,xai _,by rw[y6 λk _=>(oW a b i k).symm];rfl⟩ (by show X b-0<fu;lia);rintro s p ⟨j,f,rfl⟩ h;unfold gh;simp only;by_cases m:j<X b
    ·rw[zT,U O];simp only[uL];have e:(i:J)+(j:J)=((i+j:K):J):=W
     have hp:=BN c d i j<|i+j;rw[zo m,zf,e,zb,zb,zo (by rw[yc];lia),zf,ZY W,U<|yv (c.okZ W i) (d.okZ W j) g,Z8,Z8,U<|qL (hp.ok W) (((c.bz i).mul<|d.bz j).ok W) g,zn,zn,zo (by rw[yc];lia),zf,U2,zb];exact h _ ⟨j+1,W,by rw[y6 λk _=>mQ a b i j k];rfl⟩ (by show X b-((j:J)+1).toNat<X b-(j:J).toNat;lia)
    ·rw[zB,U O];simp only[xak,ut];obtain rfl:j=X b:=W
     rw[y6 λk _=>nT a b i k]
  ·rw[zB,U O];simp only[xak,ut];obtain rfl:i=X a:=W
   rfl
def QT(c:yH ka a)(d:yH kb b)(o:ka+kb+X a+1<=100000)(hc:X b<=100000)(g:3000000<=fu):W2 fu a b=Z (yS a b):=by
 unfold W2;rw[zb,(W:(X a:J)+(X b:J)=((X a+X b:K):J)),yR,yV,zf,az];have⟨n,hn⟩:∃n,n=X a+X b:=⟨_,O⟩;rw[<-hn,U (v:=zi n<|Yy a b (X a))]
 ·rw[U<|y9 (Yf<|oi c d (X a)) W (by rw[yc];lia) g,yc];congr 1;unfold yS;exact YM (λj f=>zW<|by rw[yc];lia) (λj f=>KS f)<|λj=>Jz (λj f=>KS) j
 ·refine zA (λs:J×N M=>∃i:K,i<=X a/\s=((i:J),zi n<|Yy a b i)) (λs=>X a-s.1.toNat) _ ?_ _ _ ⟨0,xai _,O⟩ (by show X a-0<fu;lia);rintro s L ⟨i,hi,rfl⟩ l;unfold ia;simp only;by_cases h1:i<X a
  ·rw[zT,U (v:=(a,b,zi n<|Yy a b<|i+1))]
   ·simp only;rw[zb];exact l _ ⟨i+1,W,O⟩ (by show X a-((i:J)+1).toNat<X a-(i:J).toNat;lia)
   ·refine zA (λs:N M×N M×J×N M=>∃j:K,j<=X b/\s=(a,b,(j:J),zi n<|ZK a b i j)) (λs=>X b-s.2.2.1.toNat) _ ?_ _ _ ⟨0,xai _,by rw[y6 λk _=>(oW a b i k).symm];rfl⟩ (by show X b-0<fu;lia);rintro s p ⟨j,f,rfl⟩ h;unfold gY;simp only;by_cases m:j<X b
    ·rw[zT];have e:(i:J)+(j:J)=((i+j:K):J):=W
     have hp:=BN c d i j<|i+j;rw[e,zb,zb,zo (by rw[yc];lia),zf,ZY W,zo h1,zf,zo m,zf,U<|VG (c.okZ W i) (d.okZ W j) g,Z8,Z8,U<|YU (hp.ok W) (((c.bz i).mul<|d.bz j).ok W) g,zn,zn,zo (by rw[yc];lia),zf,U2,zb];exact h _ ⟨j+1,W,by rw[y6 λk _=>mQ a b i j k];rfl⟩ (by show X b-((j:J)+1).toNat<X b-(j:J).toNat;lia)
    ·rw[zB];obtain rfl:j=X b:=W
     rw[y6 λk _=>nT a b i k]
  ·rw[zB];obtain rfl:i=X a:=W
   rfl
def ZO(c:yH ka a)(d:yH kb b):yH (ka+kb+X a) (yS a b):=yN<|oi c d (X a)
theorem Mg(a b:N M)(k:K):G (yS a b) k=Yy a b (X a) k:=jo (λj c=>KS c) k
def qB(a b:N M):X (yS a b)<=X a+X b:=by unfold yS;rw[xw];exact qg _ _
end
section
variable{f g:wr->wl}{fu k:wr}{a:xS Zr}{m:Zr}{a2:Zr->Zr->ww (Zr×wl)}
theorem BU{f g:K->J}:∀{n},(∀k,k<n->f k=g k)->dg f n=dg g n
 |0,_=>rfl
 |n+1,h=>by
  unfold dg;rw[h n W,BU λk b=>h k W]
theorem XM{n:K}(h:∀k,k<n->f k=g k):wk n f=wk n g:=by grind [wk,BU,qg,y6]
def rY{n:K}:wk n (G<|zi n f)=wk n f:=XM λk b=>Ph b
def Rv{l:K}{c:J}(n:a8 m)(h0:0<zv m)(r:X a<=1000000)(hl:l<=100000)(o:∀j,Bz l<|g j)(b:3000000<=fu)(h:∀j,j<X a->a2 (a.getD j (I,[])) m=Z (yp<|g j,c)):
 qd fu a m a2=Z (wk (X a) g,0):=by
 unfold qd;rw[U<|xn n.ok b,ir (λe=>by have:=Lb.1 e;lia),yR,yV,zf,az,U (v:=zi (X a) g)]
 ·rw[U<|zI (Yf o) hl (by rw[yc];lia) b,yc,rY]
 ·refine zA (λs:J×N M=>∃i:K,i<=X a/\s=((i:J),zi (X a) (λk=>if k<i then g k else 0))) (λs=>X a-s.1.toNat) _ ?_ _ _ ⟨0,xai _,by rw[y6 (g:=λk=>if k<0 then g k else 0)<|λk _=>by rw[zB]];rfl⟩ (by show X a-0<fu;lia);rintro s L ⟨i,hi,rfl⟩ p;unfold Ud;simp only;by_cases h1:i<X a
  ·rw[zT,U O];simp only[uL];rw[zo h1,zf,U<|h i h1];simp only;rw[zo (by rw[yc];exact h1),zf,U2,zb];refine p _ ⟨i+1,W,?_⟩ (by show X a-((i:J)+1).toNat<X a-(i:J).toNat;lia);congr 1;refine y6 λk q=> ?_;unfold Y8;by_cases e:k=i
   ·rw[iq e,zT,e]
   ·rw[ir e];show(if k<i then g k else 0)=_;by_cases d:k<i
    ·rw[iq d,zT]
    ·rw[ir d,zB]
  ·rw[zB,U O];simp only[xak,ut];congr 1;exact y6 λk q=>by rw[zT]
theorem FW(b:a8 m)(h0:zv m<=0)(c:3000000<=fu):qd fu a m a2=Z ([],1):=by grind [qd,U,xn,a8.ok,Lb]
def vg(a:N M)(m:J):N M:=wk (X a)<|λj=>G a j%m
def mh(a:N M)(m:J):N M:=wk (X a)<|λj=>near (G a j) m
def zcm(a:N M)(m:J):N M×J:=if m<=0 then([],1)else(vg a m,0)
def TE(a:N M)(m:J):N M×J:=if m<=0 then([],1)else(mh a m,0)
def a8.bz{z:M}(h:a8 z):Bz 40000 (zv z):=(Bz.of h.1).mono h.2
theorem aR(e:yH k a)(h:k<=40000)(b:a8 m)(hc:X a<=1000000)(d:3000000<=fu):Xn fu a m=Z (zcm a<|zv m):=by
 unfold Xn zcm;by_cases h0:zv m<=0
 ·rw[U<|FW b h0 d,iq h0]
 ·have⟨K,i⟩:∃K,K=40000:=⟨_,O⟩;have l:Bz K (zv m):=by rw[i];exact b.bz
  rw[ir h0,U<|Rv (c:=0) b W hc (W:K<=100000) (λj=>l.emod W) d λj n=> ?_]
  ·rfl
  ·show qG fu _ _=_;rw[ZJ (e.okS h j) b d];unfold Gb;rw[ir h0];rfl
def sB(e:yH k a)(h:k<=40000)(b:a8 m)(hc:X a<=1000000)(d:3000000<=fu):WB fu a m=Z (TE a<|zv m):=by
 unfold WB TE;by_cases h0:zv m<=0
 ·rw[U<|FW b h0 d,iq h0]
 ·have⟨K,i⟩:∃K,K=40000:=⟨_,O⟩;have l:Bz K (zv m):=by rw[i];exact b.bz
  rw[ir h0,U<|Rv (c:=0) b W hc (W:K<=100000) (λj=>l.near W) d λj n=> ?_]
  ·rfl
  ·show YC fu _ _=_;rw[AJ (e.okS h j) b d];unfold zgO;rw[ir h0];rfl
def tP{c d:K}{b:N M}(e:yH c a)(h:yH d b)(l:c+d+X a+1<=40000)(hc:X b<=40000)(j:a8 m)(i:3000000<=fu):Qo fu a b m=Z (zcm (yS a b)<|zv m):=by
 unfold Qo;have:=qB a b;rw[U<|xX e h W W i,U<|aR (ZO e h) W j W i]
end
section
def NM(n:K)(f:K->J):wk (X (wk n f)) (G<|wk n f)=wk n f:=by
 have e:∀k,k<dg f n->G (wk n f) k=f k:=λk a=>Ph a;have h:dg (G<|wk n f) (X (wk n f))=dg f n:=by
  rw[xw];refine J5 (Nm _) (λk h1 b=>by lia) ?_;by_cases h0:dg f n=0
  ·lia
  ·right;rw[e _ W];exact Vv f n h0
 show zi (dg (G<|wk n f) (X (wk n f))) (G<|wk n f)=wk n f;rw[h];exact y6 e
theorem zgP{p:N M}(h:p=wk (X p) (G p)):p=zi (X p) (G p):=by grind [wk,xw]
def YX{p:N M}(h:p=wk (X p) (G p))(h0:X p≠0):G p (X p-1)≠0:=by grind [xw,Vv]
def BD{p:N M}(h:p=wk (X p) (G p)){j:K}(a:j<X p:=by lia):p.getD j (I,[])=yp (G p j):=by grind [zgP,ZY]
def kZ(n:K)(f:K->J):wk n f=wk (X (wk n f)) (G<|wk n f):=(NM n f).symm
def lF{p:N M}(h:p=wk (X p) (G p)){l:K}(a:∀k,l<=k->G p k=0):X p<=l:=by
 refine xbu λb=> ?_;exact YX h W<|a _ W
def dvF(r d:N M)(m:J)(qn:K):K->K->J
 |0=>G r
 |s+1=>λk=>dvF r d m qn s k-(dvF r d m qn s (qn-(s+1)+(X d-1))%m)*NZ d (qn-(s+1)) k
def Ek(r d:N M)(m:J)(qn i:K):K->J:=dvF r d m qn<|qn-i
def TA(r d:N M)(m:J)(qn i:K):J:=Ek r d m qn (i+1) (i+(X d-1))%m
section
variable{r d:xS Zr}{m:wl}{qn:wr}
def Bn:Ek r d m qn qn=G r:=by unfold Ek;rw[xcQ];rfl
theorem BB{i:K}(h:i<qn)(k:K):Ek r d m qn i k=Ek r d m qn (i+1) k-TA r d m qn i*NZ d i k:=by
 unfold TA Ek;have⟨s,a⟩:∃s,s=qn-(i+1):=⟨_,O⟩;rw[(W:qn-i=s+1)];show dvF r d m qn s k-(dvF r d m qn s (qn-(s+1)+(X d-1))%m)*NZ d (qn-(s+1)) k=_;grind
def HH{K:wr}(a:yH K r)(hd:yH K d)(b:Bz K m)(h0:0<m):∀s k,Bz (2*K+s) (dvF r d m qn s k)
 |0,k=>(a.bz k).mono W
 |s+1,k=>by
  have h:=((Bz.emod (x:=dvF r d m qn s<|qn-(s+1)+(X d-1)) b h0).mul<|zdq hd (qn-(s+1)) k).mono (W:K+K<=2*K+s);exact Bz.sub (HH a hd b h0 s k) h
def SH{K:wr}(a:Bz K m)(h0:0<m)(i:wr):Bz K (TA r d m qn i):=Bz.emod a h0
end
def Y5{fu k:K}{a:N M}{m:M}(b:yH k a)(c:k<=40000)(d:a8 m)(h0:0<zv m)(hc:X a<=1000000:=by lia)(e:3000000<=fu:=by lia):xl fu a m=Z (vg a<|zv m):=by grind [xl,zcm,U,aR]
def aa{K:wr}{a:N M}{m:J}(b:Bz K m)(h0:0<m):yH K (vg a m):=yN λj=>Bz.emod b h0
theorem YT(a:N M)(m:J):X (vg a m)<=X a:=by unfold vg;rw[xw];exact qg _ _
def ud(a:N M)(m:J)(k:K):G (vg a m) k=G a k%m:=jo (λj b=>by rw[zW b,xas]) k
def KT(a:N M)(m:J):vg a m=wk (X (vg a m)) (G<|vg a m):=kZ _ _
def dvQ(r d:N M)(m:J)(qn:K):K->J:=λk=>if k<qn then TA r d m qn k else 0
def E8(r d:N M)(m:J):N M:=wk (X r+1-X d)<|λk=>dvQ r d m (X r+1-X d) k%m
def Wz(r d:N M)(m:J):N M:=wk (X r)<|λk=>Ek r d m (X r+1-X d) 0 k%m
def AH(r d:N M)(m:J)(qn i j:K):K->J:=λk=>Ek r d m qn (i+1) k-if i<=k/\k<i+j then TA r d m qn i*G d (k-i)else 0
def zb9{r d:N M}{m:J}{qn i k:K}:AH r d m qn i 0 k=Ek r d m qn (i+1) k:=by
 unfold AH;lia
def zdb{r d:N M}{m:J}{qn i:K}(h:i<qn)(k:K):AH r d m qn i (X d) k=Ek r d m qn i k:=by
 rw[BB h];unfold AH NZ;by_cases h:i<=k
 ·rw[iq h];by_cases a:k<i+X d
  ·lia
  ·rw[ir<|λe=>a e.2,zW W,xaz]
 ·grind
def zb1(r d:N M)(m:J)(qn i j k:K):Y8 (AH r d m qn i j) (i+j) (AH r d m qn i j (i+j)-TA r d m qn i*G d j) k=AH r d m qn i (j+1) k:=by
 unfold Y8;by_cases h:k=i+j
 ·subst h;unfold AH;simp_all
 ·skip;unfold AH;by_cases a:i<=k/\k<i+j
  ·lia
  ·lia
def ziv{K:wr}{r d:N M}{m:J}{qn i j:wr}(b:yH K r)(hd:yH K d)(a:Bz K m)(h0:0<m)(h:i<qn)(k:wr):Bz (2*K+qn+1) (AH r d m qn i j k):=by
 refine Bz.sub ((HH b hd a h0 _ k).mono W) ?_;split
 ·exact((SH a h0 i).mul<|hd.bz _).mono W
 ·exact Bz.zero _
def zcC{fu K n i qn:wr}{r d:N M}{m:M}{q:wr->J}(c:yH K r)(hd:yH K d)(a:Bz K (zv m))(h0:0<zv m)(hn:X r=n)(o:qn=n+1-X d)(p:0<X d)(hi:i<qn)(t:2*K+n+5<=40000)(g:q i=TA r d (zv m) qn i)(b:3000000<=fu):
 zg (Yd fu d (i:J)) fu (d,m,0,zi n<|Ek r d (zv m) qn<|i+1,zi qn q)=Z (d,m,zi n<|Ek r d (zv m) qn i,zi qn q):=by
 refine zA (λs:N M×M×J×N M×N M=>∃j:wr,j<=X d/\s=(d,m,(j:J),zi n<|AH r d (zv m) qn i j,zi qn q)) (λs=>X d-s.2.2.1.toNat) _ ?_ _ _ ⟨0,xai _,by rw[y6 (f:=AH r d (zv m) qn i 0) λk _=>zb9];rfl⟩ (by show X d-0<fu;lia);rintro s L ⟨j,u,rfl⟩ h;unfold Yd;simp only;by_cases l:j<X d
 ·rw[zT,U O];simp only[uL];have e:(i:J)+(j:J)=((i+j:wr):J):=W
  have hp:=ziv (j:=j) c hd a h0 hi<|i+j;have hc:=SH (r:=r) (d:=d) (qn:=qn) a h0 i;rw[zo l,zf,e,zb,zb,zo (by rw[yc];lia),zf,ZY W,zo (by rw[yc];lia),zf,ZY hi,g,U<|yv (hc.ok W) (hd.okZ W j) b,Z8,zn,U<|qO (hp.ok W) ((hc.mul<|hd.bz j).ok W) b,zn,zn,zo (by rw[yc];lia),zf,U2,zb];exact h _ ⟨j+1,W,by rw[y6 λk _=>zb1 r d (zv m) qn i j k];rfl⟩ (by show X d-((j:J)+1).toNat<X d-(j:J).toNat;lia)
 ·rw[zB,U O];simp only[xak,ut];obtain rfl:j=X d:=W
  rw[y6 λk _=>zdb hi k]
def Iu{fu K n qn:wr}{r d:N M}{m:M}(a:yH K r)(j:r=zi n (G r))(hd:yH K d)(b:Bz K (zv m))(hc:zm m.2)(v:X m.2<=K)(h0:0<zv m)(hn:X r=n)(l:qn=n+1-X d)(o:0<X d)(p:2*K+n+5<=40000)(w:X d<=1000000)(c:3000000<=fu):
 zg (Ye fu d m) fu ((qn:J)-1,r,xac qn (I,[]))=Z (zi n<|Ek r d (zv m) qn 0,zi qn<|dvQ r d (zv m) qn):=by
 refine zA (λs:J×N M×N M=>∃i:wr,i<=qn/\s=((i:J)-1,zi n<|Ek r d (zv m) qn i,zi qn (λk=>if i<=k then TA r d (zv m) qn k else 0))) (λs=>(s.1+1).toNat) _ ?_ _ _ ⟨qn,Nm _,?_⟩ (by show((qn:J)-1+1).toNat<fu;lia)
 ·rintro s L ⟨i,hi,rfl⟩ t;unfold Ye;simp only
  cases i with
  |zero=>
   have e0:(zi qn λk=>if 0<=k then TA r d (zv m) qn k else 0)=zi qn (dvQ r d (zv m) qn):=y6 λk e=>by
    rw[iq<|xai _];unfold dvQ;lia
   rw[zB,e0]
  |succ i=>
   have e1:((i+1:wr):J)-1=(i:J):=W
   have u:(i:J)+(X d:J)-1=((i+(X d-1):wr):J):=W
   have hp:Bz (2*K+qn) (Ek r d (zv m) qn (i+1)<|i+(X d-1)):=(HH a hd b h0 _ _).mono W;rw[e1,zT,zb,u,zb,zo (by rw[yc];lia),zf,ZY W,U<|ZJ (hp.okS W) ⟨hc,W⟩ c,zn];unfold Gb;rw[zB];simp only;rw[zo (by rw[yc];lia),zf,U2,U<|zcC (q:=Y8 (λk=>if i+1<=k then TA r d (zv m) qn k else 0) i<|Ek r d (zv m) qn (i+1) (i+(X d-1))%zv m) a hd b h0 hn l o W p ?_ c]
   ·simp only;rw[zb];refine t _ ⟨i,W,?_⟩ (by show((i:J)-1+1).toNat<(((i+1:wr):J)-1+1).toNat;lia);congr 2;refine y6 λk e=> ?_;unfold Y8;by_cases h:k=i
    ·rw[iq h,zT,h];rfl
    ·rw[ir h];show(if i+1<=k then _ else _)=_;by_cases f:i+1<=k
     ·rw[iq f,zT]
     ·rw[ir f,zB]
   ·unfold Y8;rw[iq O];rfl
 ·rw[Bn,<-j,az,y6 (g:=λk=>if qn<=k then TA r d (zv m) qn k else 0) λk e=>by rw[zB]]
def VW{fu k K:wr}{a d:N M}{m:M}(i:yH k a)(b:k<=40000)(hd:yH K d)(e:zm m.2)(hi:X m.2<=K)(h0:0<zv m)(l:0<X d)(s:2*K+X a+5<=40000)(hn:X d<=1000000)(o:3000000<=fu):
 ji fu a d m=Z (E8 (vg a<|zv m) d<|zv m,Wz (vg a<|zv m) d<|zv m):=by
 unfold ji;have c:Bz K (zv m):=(Bz.of e).mono hi;have f:a8 m:=⟨e,W⟩;have g:=aa (a:=a) c h0;have hl:=YT a<|zv m;have hc:=zgP<|KT a<|zv m;rw[U<|Y5 i b f h0];generalize vg a (zv m)=r at*
 have⟨qn,h⟩:∃qn,qn=X r+1-X d:=⟨_,O⟩;have e1:max ((X r:J)-(X d:J)+1) 0=(qn:J):=W
 rw[zb,zb,zf,e1,yR,yV,zf,xaZ,zb,U<|Iu g hc hd c e hi h0 O h l W hn o];simp only;have p:∀j,Bz K (dvQ r d (zv m) qn j):=λj=>by
  unfold dvQ;split
  ·exact SH c h0 j
  ·exact Bz.zero _
 have q:∀j,Bz (2*K+qn) (Ek r d (zv m) qn 0 j):=λj=>(HH g hd c h0 _ _).mono W;rw[U (Y5 (Yf p) W f h0<|by rw[yc];lia),U<|Y5 (Yf q) W f h0<|by rw[yc];lia];unfold E8 Wz vg;rw[<-h,yc,yc,XM λk b=>by rw[Ph b],XM (n:=X r) λk b=>by rw[Ph b]]
end
section
variable{k:wr}{a b:xS Zr}
def mono(i:K)(c:J):K->J:=λk=>if k=i then c else 0
theorem zbr(i:K)(c:J)(k:K):G (zi (i+1)<|mono i c) k=mono i c k:=by grind [mono,Jz]
theorem Gx{d:N M}{i:K}{c:J}(k:K):∀n,n<=i->Yy (zi (i+1)<|mono i c) d n k=0
 |0,_=>rfl
 |n+1,h=>by
  unfold Yy;rw[Gx k n W,zbr];unfold mono;grind
def zcx(d:N M)(i:K)(c:J)(k:K):G (yS (zi (i+1)<|mono i c) d) k=c*NZ d i k:=by simp_all [mono,Yy,Mg,yc,Gx,zbr]
def IK(a b:N M)(k:K):G (KH a b) k=G a k-G b k:=jo (λj c=>by rw[zW W,zW W];rfl) k
def Uv(a b:N M):X (KH a b)<=max (X a) (X b):=by unfold KH;rw[xw];exact qg _ _
def AU(c:yH k a)(d:yH k b):yH (k+1) (KH a b):=yN λj=>(c.bz j).sub<|d.bz j
theorem Bz.one':∀{k:K},1<=k->Bz k 1:=by grind [Bz]
theorem Nk(hl:X a=X b)(h:∀j,j<X a->a.getD j (I,[])=b.getD j (I,[])):a=b:=by grind [xeT]
theorem aJ{fu:K}(f:yH k a)(m:k<=1000000)(hc:X a<=1000000:=by lia)(n:3000000<=fu:=by lia):YG fu a b=Z (decide<|a=b):=by
 unfold YG;by_cases hl:X a=X b
 ·rw[zT,U (v:=if a=b then .inl ()else .inr ())]
  ·grind
  ·refine zA (λi:J=>∃j:K,i=(j:J)/\j<=X a/\∀l,l<j->a.getD l (I,[])=b.getD l (I,[])) (λi=>X a-i.toNat) _ ?_ _ _ ⟨0,O,xai _,λl h=>wR h<|xbn _⟩ (by show X a-0<fu;lia);rintro i L ⟨j,rfl,o,d⟩ g;unfold dB;by_cases h1:j<X a
   ·have:=(f.get j).2;rw[zT,zo h1,zf,zY,zf,U<|AK W W];by_cases c:a.getD j (I,[])=b.getD j (I,[])
    ·rw[Z3 c,ir gS,zb];refine g _ ⟨j+1,O,W,λl h=> ?_⟩ W;by_cases p:l=j
     ·simp_all
     ·exact d l W
    ·rw[uT c,iq gS,ir<|λe=>c<|by rw[e]]
   ·rw[zB,iq<|Nk hl λl h=>d l W]
 ·rw[zB,uT<|λe=>hl<|by rw[e]]
theorem FP{d:N M}(h:X d≠0:=by lia):d.drop (X d-1)=[d.getD (X d-1) (I,[])]:=by grind [xbT]
end
def zgn{l:N K}(h:(Ty.l .u).ok l):zm l:=λx a=>h.2 x a
def zbs{p:N M}(h:(Ty.l (.p .b (.l .u))).ok p){k:K}(c:∀z∈p,X z.2<=k):yH k p:=λz a=>⟨zgn (h.2 z a).2,c z a⟩
def Hb{l:N M}{i:K}(h:i<X l:=by lia):l.getD i (I,[])∈l:=by grind
def Nf{l:N M}{q:M->Prop}(h:∀j,j<X l->q (l.getD j (I,[]))):∀z∈l,q z:=by grind [xdN]
section
def Hp{a b:N M}(k:K):∀c,Yy a b (X a+c) k=Yy a b (X a) k
 |0=>rfl
 |c+1=>by
  show Yy a b (X a+c) k+G a (X a+c)*NZ b (X a+c) k=_;rw[Hp k c,zW W,xba,xbZ]
def PS{a b:N M}{n:K}(h:X a<=n)(k:K):Yy a b n k=Yy a b (X a) k:=by
 have:=Hp (a:=a) (b:=b) k<|n-X a;simp_all
def DW{a b:N M}{m:J}(h:∀k,G a k%m=G b k%m):vg a m=vg b m:=by grind [vg,YM,zW,xas]
section
variable{r d:xS Zr}{m:wl}
theorem zaQ{qn:K}{q:N M}(a:∀j,j<qn->G q j=TA r d m qn j)(k:K):∀n,n<=qn->Ek r d m qn n k=Ek r d m qn 0 k+Yy q d n k
 |0,_=>by show _=_+0;lia
 |n+1,h=>by
  have b:=zaQ a k n W;rw[BB W]at b;show _=_+(Yy q d n k+G q n*NZ d n k);grind
def zas(j:K):G (E8 r d m) j=dvQ r d m (X r+1-X d) j%m:=jo (λk a=>by unfold dvQ;rw[zB,xas]) j
def CB{qn:K}(hn:X r<=qn+(X d-1))(a:0<X d)(hc:G d (X d-1)=1):∀c i k,i+c=qn->i+(X d-1)<=k->Ek r d m qn i k%m=0
 |0,i,k,hi,b=>by
  obtain rfl:i=qn:=W
  rw[Bn,zW W,xas]
 |c+1,i,k,hi,b=>by
  rw[BB W];by_cases h:k=i+(X d-1)
  ·unfold NZ TA;simp_all
  ·have e:=CB hn a hc c (i+1) k W W;unfold NZ;rw[zT,zW W,xaz,xdc];exact e
def lD(h:X r<=X r+1-X d+(X d-1))(a:0<X d)(hc:G d (X d-1)=1)(k:K):G (Wz r d m) k=Ek r d m (X r+1-X d) 0 k%m:=
 jo (λj b=>by
  by_cases c:X d<=X r
  ·exact CB h a hc _ 0 j (xaJ _) W
  ·rw[(W:X r+1-X d=0),Bn,zW b,xas]) k
def EE(a:0<X d)(hc:G d (X d-1)=1):X (Wz r d m)<X d:=by
 have h:X (Wz r d m)<=X d-1:=lF (kZ _ _) λk b=>by
  rw[show wk (X r) (λk=>Ek r d m (X r+1-X d) 0 k%m)=Wz r d m from O,lD W a hc];exact CB W a hc _ 0 k (xaJ _) W
 lia
end
end
section
variable{m:wl}
def yi:K->(K->J)->J
 |0,_=>0
 |n+1,f=>yi n f+f n
def yq{f g:K->J}:∀{n},(∀k,k<n->f k=g k)->yi n f=yi n g
 |0,_=>rfl
 |n+1,h=>by
  show yi n f+f n=yi n g+g n;rw[yq λk a=>h k W,h n W]
def YB(f g:K->J):∀n,yi n (λk=>f k+g k)=yi n f+yi n g
 |0=>rfl
 |n+1=>by
  show yi n _+(f n+g n)=yi n f+f n+(yi n g+g n);rw[YB f g n];lia
theorem uy(c:J)(f:K->J):∀n,yi n (λk=>c*f k)=c*yi n f
 |0=>by show 0=c*0;lia
 |n+1=>by
  show yi n _+c*f n=c*(yi n f+f n);rw[uy c f n,xfx]
theorem zdc(c:J)(f:K->J)(n:K):yi n (λk=>f k*c)=yi n f*c:=by grind [uy,xbw]
def yT:∀{n}{f:K->J},(∀k,k<n->f k=0)->yi n f=0
 |0,_,_=>rfl
 |n+1,f,h=>by
  show yi n f+f n=0;rw[yT λk a=>h k W,h n W];rfl
def uI(f:K->J):∀n,yi (n+1) f=f 0+yi n (λk=>f<|k+1)
 |0=>by show 0+f 0=f 0+0;lia
 |n+1=>by
  show yi (n+1) f+f (n+1)=f 0+(yi n _+f (n+1));rw[uI f n];lia
def Re(f:K->J):∀n,yi (n+1) f=yi (n+1) (λk=>f<|n-k)
 |0=>rfl
 |n+1=>by
  rw[uI (λk=>f<|n+1-k)<|n+1];show yi (n+1) f+f (n+1)=f (n+1-0)+_;rw[Re f n,Nat.sub_zero,yq (f:=λk=>f<|n+1-(k+1)) λk _=>by rw[(W:n+1-(k+1)=n-k)]];lia
def L7{f:K->J}{n:K}(h:∀k,n<=k->f k=0):∀c,yi (n+c) f=yi n f
 |0=>rfl
 |c+1=>by
  show yi (n+c) f+f (n+c)=_;rw[L7 h c,h _ W];lia
theorem Rk(G:K->K->J):∀n,yi n (λi=>yi (i+1)<|λj=>G j<|i-j)=yi n (λj=>yi (n-j)<|λl=>G j l)
 |0=>rfl
 |n+1=>by
  show yi n _+yi (n+1) (λj=>G j<|n-j)=yi n _+yi (n+1-n) (λl=>G n l);rw[Rk G n,yq (f:=λj=>yi (n+1-j)<|λl=>G j l) (g:=λj=>yi (n-j) (λl=>G j l)+G j (n-j)) λj a=>by rw[(W:n+1-j=(n-j)+1)];rfl,YB,(W:n+1-n=1)];show _+(yi n (λj=>G j<|n-j)+G n (n-n))=_+(0+G n 0);grind
abbrev Pz:=K->J
instance:_root_.Add Pz:=⟨λf g k=>f k+g k⟩
instance:_root_.Sub Pz:=⟨λf g k=>f k-g k⟩
instance:_root_.Neg Pz:=⟨λf k=> -f k⟩
instance:_root_.Mul Pz:=⟨λf g k=>yi (k+1)<|λi=>f i*g (k-i)⟩
def pc(c:J):Pz:=λk=>if k=0 then c else 0
theorem zK(f g:Pz)(k:K):(f+g) k=f k+g k:=O
theorem yx(f g:Pz)(k:K):(f-g) k=f k-g k:=O
theorem zbb(f:Pz)(k:K):(-f) k= -f k:=O
theorem wM(f g:Pz)(k:K):(f*g) k=yi (k+1) (λi=>f i*g (k-i)):=O
theorem zk(f g:Pz):f*g=g*f:=by
 funext k;rw[wM,Re];exact yq λi hi=>by rw[(W:k-(k-i)=i),xbw]
theorem xH(f g h:Pz):f*(g+h)=f*g+f*h:=by
 funext k;rw[zK,wM,wM,wM,<-YB];exact yq λi _=>by rw[zK,xfx]
theorem yF(f g h:Pz):(f+g)*h=f*h+g*h:=by grind [zk,xH]
theorem zco(f g:Pz):f*(-g)= -(f*g):=by grind [zbb,yi,wM,uy]
theorem O5(f g:Pz):f-g=f+ -g:=by
 rfl
theorem wm(f g h:Pz):f*(g-h)=f*g-f*h:=by grind [O5,xH,zco]
theorem qp(f g h:Pz):(f-g)*h=f*h-g*h:=by grind [zk,wm]
theorem zd(f g h:Pz):f*g*h=f*(g*h):=by
 funext k;have e1:(f*g*h) k=yi (k+1) (λi=>yi (i+1)<|λj=>(λj l=>f j*g l*h (k-(j+l))) j<|i-j):=by
  rw[wM];refine yq λi hi=> ?_;rw[wM,<-zdc];exact yq λj a=>by grind
 rw[e1,Rk<|λj l=>f j*g l*h (k-(j+l)),wM];refine yq λj a=> ?_;rw[wM,<-uy,(W:k+1-j=k-j+1)];exact yq λl hl=>by
  show f j*g l*h (k-(j+l))=f j*(g l*h (k-j-l));rw[(W:k-(j+l)=k-j-l),xdg]
theorem zC(f g h:Pz):f*(g*h)=g*(f*h):=by grind [zd,zk]
theorem zP(c:J)(f:Pz)(k:K):(pc c*f) k=c*f k:=by simp_all [pc,wM,uI,yT]
def zw(f:Pz):pc 1*f=f:=by funext k;rw[zP,xcY]
def yf(f:Pz):pc 0*f=pc 0:=by
 funext k;rw[zP,xba];unfold pc;split<;>rfl
def zJ(k:K):pc 0 k=0:=by unfold pc;split<;>rfl
def qf(a b:J):pc a*pc b=pc (a*b):=by
 funext k;rw[zP];unfold pc;split
 ·rfl
 ·lia
def Cg(m:J)(f g:Pz):Prop:=∀k,f k%m=g k%m
def Cg.rfl{f:Pz}:Cg m f f:=λ_=>Eq.refl _
def Cg.of{f g:Pz}(h:f=g):Cg m f g:=λ_=>by rw[h]
def Cg.symm{m:J}{f g:Pz}(h:Cg m f g):Cg m g f:=λk=>(h k).symm
def Cg.trans{m:J}{f g h:Pz}(h1:Cg m f g)(a:Cg m g h):Cg m f h:=λk=>(h1 k).trans<|a k
def Cg.add{f f' g a:Pz}(h1:Cg m f f')(b:Cg m g a):Cg m (f+g) (f'+a):=λk=>by
 rw[zK,zK,xec,h1,b,<-xec]
def Cg.sub{f f' g a:Pz}(h1:Cg m f f')(b:Cg m g a):Cg m (f-g) (f'-a):=λk=>by
 rw[yx,yx,Int.sub_emod,h1,b,<-Int.sub_emod]
def eT{m:J}{f g:K->J}:∀{n},(∀k,k<n->f k%m=g k%m)->yi n f%m=yi n g%m
 |0,_=>Eq.refl _
 |n+1,h=>by
  show(yi n f+f n)%m=(yi n g+g n)%m;rw[xec,eT λk a=>h k W,h n W,<-xec]
def Cg.mul{f f' g a:Pz}(h1:Cg m f f')(b:Cg m g a):Cg m (f*g) (f'*a):=λk=>by
 exact eT λi _=>by rw[xck,h1,b,<-xck]
def Cg.down{n:J}{f g:Pz}(h:Cg m f g)(hd:n∣m):Cg n f g:=λk=>by
 have:=h k;rw[<-xcL (f k) hd,this,xcL _ hd]
def Cg.dvd{f:Pz}(h:Cg m f (pc 0))(k:K):m∣f k:=xaB<|by rw[h,zJ,xas]
def Cg.of_dvd{f:Pz}(h:∀k,m∣f k):Cg m f (pc 0):=λk=>by rw[zJ,xas,xaw<|h k]
def dE{m:J}{f:K->J}:∀{n},(∀k,k<n->m∣f k)->m∣yi n f
 |0,_=>xdE _
 |n+1,h=>Int.dvd_add (dE λk a=>h k W)<|h n W
def Cg.mul_zero{n:J}{f g:Pz}(a:Cg m f (pc 0))(b:Cg n g (pc 0)):Cg (m*n) (f*g) (pc 0):=Cg.of_dvd λk=>by
 exact dE λi _=>xfT (a.dvd i)<|b.dvd _
def Cg.mul_zero_l{f:Pz}(g:Pz)(a:Cg m f (pc 0)):Cg m (g*f) (pc 0):=by
 have:=(Cg.rfl (f:=g)).mul a;rw[zk g<|pc 0,yf]at this;lia
def Cg.iff_sub{f g:Pz}:Cg m f g↔Cg m (f-g) (pc 0):=by
 constructor
 ·intro h;refine Cg.of_dvd λk=> ?_;exact xaB<|xaI.1<|h k
 ·intro h k;have:=xaw<|h.dvd k;exact xaI.2 this
end
section
variable{m:wl}{f g h s t:Pz}
theorem ye(f:Pz):f*pc 1=f:=by rw[zk,zw]
def zjo(f g h s t e q:Pz):f-(g+(t*e+q*g))*(h+(s*e-q*h))=(f-g*h-e)+(e*(pc 1-(s*g+t*h))-(t*s)*(e*e)+(t*h-g*s)*(q*e)+(g*h)*(q*q)):=by
 simp only[xH,wm,ye,zC,zk];funext k;simp only[zK,yx];lia
def zg4(g h s t b c:Pz):(s-(s*b-c*h))*g+(t-(t*b+c*g))*h-pc 1=(s*g+t*h-pc 1-b)-(s*g+t*h-pc 1-b)*b-b*b:=by
 simp only[xH,wm,ye,zC,zk];funext k;simp only[zK,yx];lia
def Cg.zero_add(a:Cg m f (pc 0))(b:Cg m g (pc 0)):Cg m (f+g) (pc 0):=Cg.of_dvd λk=>by skip;exact Int.dvd_add (a.dvd k)<|b.dvd k
def Cg.zero_sub(a:Cg m f (pc 0))(b:Cg m g (pc 0)):Cg m (f-g) (pc 0):=Cg.of_dvd λk=>by skip;exact xdw (a.dvd k)<|b.dvd k
def Cg.mul_zero_r(g:Pz)(a:Cg m f (pc 0)):Cg m (f*g) (pc 0):=by rw[zk];exact a.mul_zero_l g
def zgk{n:J}(b:m∣n*n)(hn:n∣m){e q r d i:Pz}(h1:Cg n f (g*h))(p:Cg n (s*g+t*h) (pc 1))(j:Cg m e (f-g*h))(hd:Cg m (s*e) (q*h+r))(c:Cg n q (pc 0))(v:Cg n r (pc 0))(l:Cg m d (g+(t*e+q*g)))(o:Cg m i (h+r)):
 Cg m f (d*i)/\Cg n d g/\Cg n i h:=by
 have a:Cg n e (pc 0):=(j.down hn).trans<|Cg.iff_sub.1 h1;have hc:Cg m r (s*e-q*h):=by
  refine Cg.iff_sub.2<|Cg.of_dvd λk=> ?_;have:=(Cg.iff_sub.1 hd).dvd k;simp only[zK,yx]at this⊢;have e1:r k-((s*e) k-(q*h) k)= -((s*e) k-((q*h) k+r k)):=W
  simp_all
 refine⟨?_,?_,?_⟩
 ·refine Cg.trans ?_<|Cg.symm<|l.mul<|o.trans<|Cg.rfl.add hc;refine Cg.iff_sub.2 ?_;rw[zjo];have u:Cg m (f-g*h-e) (pc 0):=Cg.iff_sub.1 j.symm;have z2:Cg n (pc 1-(s*g+t*h)) (pc 0):=Cg.iff_sub.1 p.symm;exact u.zero_add ((((a.mul_zero z2).down b).zero_sub<|((a.mul_zero a).down b).mul_zero_l _).zero_add (((c.mul_zero a).down b).mul_zero_l _)|>.zero_add (((c.mul_zero c).down b).mul_zero_l _))
 ·refine(l.down hn).trans<|Cg.iff_sub.2 ?_;have e1:g+(t*e+q*g)-g=t*e+q*g:=by
   funext k;simp only[zK,yx];lia
  rw[e1];exact(a.mul_zero_l t).zero_add<|c.mul_zero_r g
 ·refine(o.down hn).trans<|Cg.iff_sub.2 ?_;have e1:h+r-h=r:=by
   funext k;simp only[zK,yx];lia
  simp_all
def zdO{n:J}(o:m∣n*n)(hn:n∣m){b c d a e:Pz}(p:Cg n (s*g+t*h) (pc 1))(i:Cg m b (s*g+t*h-pc 1))(hd:Cg m (s*b) (c*h+d))(q:Cg m a (s-d))(r:Cg m e (t-(t*b+c*g))):
 Cg m (a*g+e*h) (pc 1):=by
 have j:=(i.down hn).trans<|Cg.iff_sub.1 p;have hc:Cg m d (s*b-c*h):=by
  refine Cg.iff_sub.2<|Cg.of_dvd λk=> ?_;have:=(Cg.iff_sub.1 hd).dvd k;simp only[zK,yx]at this⊢;have e1:d k-((s*b) k-(c*h) k)= -((s*b) k-((c*h) k+d k)):=W
  simp_all
 refine((q.trans<|Cg.rfl.sub hc).mul Cg.rfl|>.add (r.mul Cg.rfl)).trans<|Cg.iff_sub.2 ?_;rw[zg4];have l:=Cg.iff_sub.1 i.symm;exact(l.zero_sub<|l.mul_zero_r b).zero_sub<|(j.mul_zero j).down o
end
section
variable{a p:wl}{fu j m:wr}{f g:Pz}{l:xS wl}
theorem zgS(hp:0<p):(if xca a p<0 then xca a p+p else xca a p)=a%p:=by
 have h1:=xcT a (W:p≠0);have b:=xdI a hp;by_cases h:0<=a\/p∣a
 ·grind
 ·grind
theorem fc(b:0<=a:=by lia):xca a p=a%p:=by grind
def xe(hp:0<p:=by lia):0<=a%p/\a%p<p:=⟨xcT a W,xdI a hp⟩
theorem Yr(h1:1<=p)(c:p<=65521)(d:Jx a):u6 fu a p=Z (a%p):=by
 unfold u6;have e:=xe (a:=a) (p:=p);have b:=zgS (a:=a) (p:=p) W;rw[zB,yV,zf];by_cases h:xca a p<0
 ·rw[iq h]at b;rw[iq h,zb,b]
 ·grind
def zl(n:K)(f:Pz):N J:=(xaH n).map f
def ci(l:N J):Pz:=λk=>l.getD k 0
def nl(n:K)(f:Pz):N J:=zl (dg f n) f
def Vp(l:N J)(k:K):l.getD k 0=ci l k:=O
theorem z6(n:K)(f:Pz):X (zl n f)=n:=by unfold zl;simp
def ke{n:K}(h:j<n:=by lia):(zl n f).getD j 0=f j:=by simp_all [zl]
theorem yU{n:K}(h:∀k,k<n->f k=g k):zl n f=zl n g:=by simp_all [zl]
theorem Zu{n:K}{v:J}:(zl n f).set j v=zl n (Y8 f j v):=by
 refine xcH λi=> ?_;unfold zl Y8;by_cases h:j=i
 ·grind
 ·grind
theorem cZ(n:K):xac n 0=zl n (λ_=>0):=by grind [zl,List.map_const',xep]
theorem ziT{n:K}:zl n f++[f n]=zl (n+1) f:=by grind [zl,xdl]
def zaO{n:K}(h:m<=n:=by lia):(zl n f).take m=zl m f:=by
 unfold zl;rw[<-List.map_take,List.take_range,xce h]
theorem uZ{n:K}(h:j<n):ci (zl n f) j=f j:=ke h
theorem yh(h:X l<=j):ci l j=0:=by simp_all [ci]
theorem Xc{n:K}(h:∀k,n<=k->f k=0)(j:K):ci (zl n f) j=f j:=by grind [uZ,yh,z6]
theorem N6(l:N J):zl (X l) (ci l)=l:=by grind [zl,ci,z6,xeT]
def zhd(n:K)(f:Pz):X (nl n f)=dg f n:=z6 _ _
def Hg(n:K)(f:Pz):X (nl n f)<=n:=by rw[zhd];exact qg _ _
def Dn{n:K}(h:∀k,n<=k->f k=0)(j:K):ci (nl n f) j=f j:=by
 refine Xc (λk b=> ?_) j;by_cases hn:k<n
 ·exact Vy f n k b hn
 ·simp_all
theorem zlL{n:K}(c:∀k,n<=k->f k=0)(d:∀k,m<=k->g k=0)(h:∀k,f k=g k):dg f n=dg g m:=by
 refine J5 ?_ ?_ ?_
 ·refine xbu λe=> ?_;have:=Vv g m W;grind
 ·intro k h1 i;rw[h];by_cases b:k<m
  ·exact Vy g m k h1 b
  ·simp_all
 ·by_cases h0:dg g m=0
  ·lia
  ·right;rw[h];exact Vv g m h0
theorem zlt{n:K}(b:∀k,n<=k->f k=0)(c:∀k,m<=k->g k=0)(h:∀k,f k=g k):nl n f=nl m g:=by grind [nl,zlL,yU]
theorem Py{n:K}(h:∀k,k<n->f k=g k):nl n f=nl n g:=by grind [nl,BU,qg,yU]
def Nl(l:N J):Prop:=X l=0\/ci l (X l-1)≠0
def sZ(n:K)(f:Pz):Nl (nl n f):=by
 by_cases h:X (nl n f)=0
 ·exact .inl h
 ·right;rw[zhd]at h⊢;unfold nl;rw[uZ W];exact Vv f n h
def Nl.eq(h:Nl l):l=nl (X l) (ci l):=by
 have e:=J5 (Nm _) (λk h1 b=>by lia)<|h.imp id id;unfold nl;rw[e,N6]
def Nl.ext{a b:N J}(d:Nl a)(e:Nl b)(h:∀k,ci a k=ci b k):a=b:=by
 rw[d.eq,e.eq];exact zlt (λk c=>yh c) (λk c=>yh c) h
theorem Nl.le(h:Nl l){n:K}(b:∀k,n<=k->ci l k=0):X l<=n:=by
 obtain h|h:=h
 ·lia
 ·grind
def Rl(l:N J):Prop:=∀k,Jx<|ci l k
structure Fp(p:J)(l:N J):Prop where
 nn:∀k,0<=ci l k
 lt:∀k,ci l k<p
 nl:Nl l
def pm(p:J)(l:N J):N J:=nl (X l)<|λk=>ci l k%p
def GK(p:J)(l:N J)(k:K):ci (pm p l) k=ci l k%p:=Dn (λk b=>by rw[yh b,xas]) k
def zbx(p:J)(l:N J):X (pm p l)<=X l:=Hg _ _
def Cj(hp:0<p)(l:N J):Fp p (pm p l):=⟨λk=>by rw[GK];exact(xe hp).1,λk=>by rw[GK];exact(xe hp).2,sZ _ _⟩
def MO(p:J)(l:N J):Cg p (ci<|pm p l) (ci l):=λk=>by rw[GK,xaT]
def Fp.mod(h:Fp p l)(k:K):ci l k%p=ci l k:=xaL (h.nn k)<|h.lt k
def Fp.pm{p:J}{l:N J}(h:Fp p l):pm p l=l:=by
 refine Nl.ext (sZ _ _) h.nl λk=> ?_;exact(GK p l k).trans<|h.mod k
theorem Fp.ext{p:J}{a b:N J}(c:Fp p a)(d:Fp p b)(h:Cg p (ci a) (ci b)):a=b:=Nl.ext c.nl d.nl λk=>by rw[<-c.mod,h,d.mod]
def Fp.rl(h:Fp p l)(hp:p<=65521):Rl l:=λk=>by
 have h1:=h.nn k;have b:=h.lt k;lia
def zN(h1:1<=p)(n:p<=65521)(o:Rl l)(hl:X l<=1000000)(r:3000000<=fu):yb fu l p=Z (pm p l):=by
 unfold yb;have hd:=qg (λk=>ci l k%p) (X l);rw[yR,yV,zf,cZ,U (v:=zl (X l)<|λk=>ci l k%p)]
 ·rw[U (v:=pm p l)];refine zA (λt:N J=>∃m,m<=X l/\t=zl m (λk=>ci l k%p)/\dg (λk=>ci l k%p) m=dg (λk=>ci l k%p) (X l)) (λt=>X t) _ ?_ _ _ ⟨X l,Nm _,O,O⟩ (by rw[z6];lia);rintro t L ⟨m,u,rfl,b⟩ c;unfold aI;rw[z6]
  cases m with
  |zero=>
   rw[zB];unfold pm nl;rw[<-b];rfl
  |succ m=>
   rw[zT,(W:((m+1:K):J)-1=(m:J)),zb,zY,zf,ke];by_cases h0:ci l m%p=0
   ·rw[iq h0,zb,yR,yV,zf,zaO];exact c _ ⟨m,W,O,by rw[<-oj (f:=λk=>ci l k%p) h0,b]⟩<|by rw[z6,z6];lia
   ·rw[ir h0];unfold pm nl;rw[<-b,cn (f:=λk=>ci l k%p) h0]
 ·refine zA (λs:J×N J=>∃i:K,i<=X l/\s=((i:J),zl (X l) (λk=>if k<i then ci l k%p else 0))) (λs=>X l-s.1.toNat) _ ?_ _ _ ⟨0,xai _,by rw[yU (g:=λk=>if k<0 then ci l k%p else 0)<|λk _=>by rw[zB]];rfl⟩ (by show X l-0<fu;lia);rintro s L ⟨i,hi,rfl⟩ c;unfold aU;simp only;by_cases h:i<X l
  ·rw[zT,zo h,zf,Vp,U<|Yr h1 n<|o i,zo (by rw[z6];exact h),zf,Zu,zb];refine c _ ⟨i+1,W,?_⟩ (by show X l-((i:J)+1).toNat<X l-(i:J).toNat;lia);congr 1;refine yU λk q=> ?_;unfold Y8;by_cases e:k=i
   ·rw[iq e,zT,e]
   ·rw[ir e];show(if k<i then ci l k%p else 0)=_;by_cases d:k<i
    ·rw[iq d,zT]
    ·rw[ir d,zB]
  ·rw[zB];congr 1;exact yU λk q=>by rw[zT]
end
section
variable{f g:Pz}{p:wl}{fu:wr}{a b:xS wl}
def sh(g:Pz)(i k:K):J:=if i<=k then g (k-i)else 0
def SC(f g:Pz)(n k:K):J:=yi n<|λi=>f i*sh g i k
theorem HC{n:K}(d:∀k,n<=k->f k=0)(k:K):SC f g n k=(f*g) k:=by
 have e1:=L7 (f:=λi=>f i*sh g i k) (λi hi=>by rw[d i hi,xba])<|k+1;have c:=L7 (f:=λi=>f i*sh g i k) (n:=k+1) (λi hi=>by unfold sh;rw[zB,xaz]) n;rw[xdA]at c;unfold SC;rw[<-e1,c];exact yq λi hi=>by unfold sh;rw[zT]
theorem N7(a b:N M)(k:K):∀n,Yy a b n k=SC (G a) (G b) n k
 |0=>rfl
 |n+1=>by
  show Yy a b n k+G a n*NZ b n k=SC (G a) (G b) n k+G a n*sh (G b) n k;rw[N7 a b k n];rfl
theorem vZ(a b:N M):G (yS a b)=(G a:Pz)*G b:=by grind [Mg,N7,HC,zW]
def tL(f g:Pz)(i j k:K):J:=SC f g i k+if i<=k/\k<i+j then f i*g (k-i)else 0
def zct(f g:Pz)(i k:K):tL f g i 0 k=SC f g i k:=by
 unfold tL;lia
theorem zc1{n:K}(c:∀k,n<=k->g k=0)(i k:K):tL f g i n k=SC f g (i+1) k:=by
 show _=SC f g i k+f i*sh g i k;unfold tL sh;by_cases h:i<=k
 ·grind
 ·grind
def zcq(f g:Pz)(p:J)(i j k:K):Y8 (λk=>tL f g i j k%p) (i+j) ((tL f g i j (i+j)%p+f i*g j)%p) k=tL f g i (j+1) k%p:=by
 unfold Y8;by_cases h:k=i+j
 ·subst h;unfold tL;simp_all
 ·rw[ir h];show tL f g i j k%p=_;unfold tL;congr 2;by_cases c:i<=k/\k<i+j
  ·lia
  ·lia
def xD(p:J)(a b:N J):N J:=nl (X a+X b)<|λk=>(ci a*ci b) k%p
theorem kL{n m:K}(c:∀k,n<=k->f k=0)(d:∀k,m<=k->g k=0){k:K}(h:n+m<=k+1:=by lia):(f*g) k=0:=by
 refine yT λi hi=> ?_;by_cases h1:i<n
 ·grind
 ·simp_all
def UH(p:J)(a b:N J)(k:K):ci (xD p a b) k=(ci a*ci b) k%p:=Dn (λk d=>by rw[kL (λj c=>yh c)<|λj c=>yh c,xas]) k
theorem Ze(p:J)(a b:N J):Cg p (ci<|xD p a b) (ci a*ci b):=λk=>by rw[UH,xaT]
theorem qH(hp:0<p)(a b:N J):Fp p (xD p a b):=⟨λk=>by rw[UH];exact(xe hp).1,λk=>by rw[UH];exact(xe hp).2,sZ _ _⟩
def jc(p:J)(a b:N J):X (xD p a b)<=X a+X b:=Hg _ _
def cD{x y:J}(e:p<=65521)(d:0<=x)(h:x<p)(c:0<=y)(hc:y<p):0<=x*y/\x*y<=4293001441:=by
 refine⟨xcJ d c,?_⟩;have h1:x*y<=65521*y:=xbx W c;lia
def w4(h1:1<=p)(l:p<=65521)(m:Fp p a)(o:Fp p b)(hc:X a<=100000)(hd:X b<=100000)(q:3000000<=fu):wH fu a b p=Z (xD p a b):=by
 unfold wH;have⟨n,hn⟩:∃n,n=X a+X b:=⟨_,O⟩;rw[zb,(W:(X a:J)+(X b:J)=(n:J)),yR,yV,zf,cZ,U (v:=zl n<|λk=>SC (ci a) (ci b) (X a) k%p)]
 ·have r:∀k,n<=k->SC (ci a) (ci b) (X a) k%p=0:=λk d=>by rw[HC<|λj c=>yh c,kL (λj c=>yh c)<|λj c=>yh c,xas]
  have t:Rl (zl n<|λk=>SC (ci a) (ci b) (X a) k%p):=λk=>by
   rw[Xc r];have:=xe (a:=SC (ci a) (ci b) (X a) k) (p:=p);exact⟨W,W⟩
  rw[U<|zN h1 l t (by rw[z6];lia) q];congr 1;unfold pm xD;rw[z6,<-hn];exact Py λk d=>by rw[uZ d,xaT,HC<|λj c=>yh c]
 ·refine zA (λs:J×N J=>∃i:K,i<=X a/\s=((i:J),zl n<|λk=>SC (ci a) (ci b) i k%p)) (λs=>X a-s.1.toNat) _ ?_ _ _ ⟨0,xai _,by rw[yU (g:=λk=>SC (ci a) (ci b) 0 k%p) λk _=>by show(0:J)=0%p;rw[xas]];rfl⟩ (by show X a-0<fu;lia);rintro s L ⟨i,hi,rfl⟩ u;unfold JF;simp only;by_cases w:i<X a
  ·rw[zT,U O];simp only[uL];rw[zo w,zf,U (v:=zl n<|λk=>SC (ci a) (ci b) (i+1) k%p),zb]
   ·exact u _ ⟨i+1,W,O⟩ (by show X a-((i:J)+1).toNat<X a-(i:J).toNat;lia)
   ·refine zA (λs:J×N J=>∃j:K,j<=X b/\s=((j:J),zl n<|λk=>tL (ci a) (ci b) i j k%p)) (λs=>X b-s.1.toNat) _ ?_ _ _ ⟨0,xai _,by rw[yU λk _=>by rw[<-zct]];rfl⟩ (by show X b-0<fu;lia);rintro s y ⟨j,c,rfl⟩ h;unfold J4;simp only;by_cases x:j<X b
    ·rw[zT,U O];simp only[uL];have e:(i:J)+(j:J)=((i+j:K):J):=W
     have r1:=xe (a:=tL (ci a) (ci b) i j<|i+j) (p:=p);have⟨r2,z⟩:=cD l (m.nn i) (m.lt i) (o.nn j)<|o.lt j;rw[zo x,zf,e,zb,zb,zo (by rw[z6];lia),zf,ke,Vp,Vp,zb,zb,yV,zf,fc,zo (by rw[z6];lia),zf,Zu,zb];exact h _ ⟨j+1,W,by rw[yU λk _=>zcq (ci a) (ci b) p i j k];rfl⟩ (by show X b-((j:J)+1).toNat<X b-(j:J).toNat;lia)
    ·rw[zB,U O];simp only[xak,ut];obtain rfl:j=X b:=W
     rw[yU λk _=>by rw[zc1<|λk d=>yh d]]
  ·rw[zB,U O];simp only[xak,ut];obtain rfl:i=X a:=W
   rfl
def Xr(p:J)(a b:N J)(c:J):N J:=nl (max (X a) (X b))<|λk=>(ci a k+c*ci b k)%p
def H0(p:J)(a b:N J)(c:J)(k:K):ci (Xr p a b c) k=(ci a k+c*ci b k)%p:=Dn (λk d=>by rw[yh W,yh W,xaz];exact xas _) k
def IB(p:J)(a b:N J)(c:J):Cg p (ci<|Xr p a b c) (ci a+pc c*ci b):=λk=>by rw[H0,xaT,zK,zP]
def U5(hp:0<p)(a b:N J)(c:J):Fp p (Xr p a b c):=⟨λk=>by rw[H0];exact(xe hp).1,λk=>by rw[H0];exact(xe hp).2,sZ _ _⟩
def Bj(p:J)(a b:N J)(c:J):X (Xr p a b c)<=max (X a) (X b):=Hg _ _
theorem zmO{n:K}(h:X a<=n):cpy (xac n 0) a=zl n (ci a):=by
 unfold cpy;rw[xaZ,xce h,xcw,List.drop_replicate];refine xeT (by rw[xap,xaZ,z6];lia) λj h1 c=> ?_;have d:=uZ (f:=ci a) (by rw[z6]at c;exact c);have e:(zl n<|ci a).getD j 0=a.getD j 0:=d;grind
def Jb{c:J}(h1:1<=p)(o:p<=65521)(h:Fp p a)(j:Fp p b)(hc:0<=c)(hd:c<p)(z:X a<=100000)(A:X b<=100000)(q:3000000<=fu):Yo fu a b c p=Z (Xr p a b c):=by
 unfold Yo;have⟨n,hn⟩:∃n,n=max (X a) (X b):=⟨_,O⟩;have r:∀k,n<=k->ci a k+c*ci b k=0:=λk m=>by rw[yh W,yh W,xaz];rfl
 have t:∀k,0<=ci a k+c*ci b k/\ci a k+c*ci b k<=4293066962:=λk=>by
  have⟨r2,u⟩:=cD o hc hd (j.nn k)<|j.lt k;have:=h.nn k;have:=h.lt k;lia
 rw[zf,(W:max (X a:J) (X b:J)=(n:J)),yR,yV,zf,zf,zmO W,U (v:=zl n<|λk=>ci a k+c*ci b k)]
 ·have w:Rl (zl n<|λk=>ci a k+c*ci b k):=λk=>by
   rw[Xc r];have:=t k;exact⟨W,W⟩
  rw[U<|zN h1 o w (by rw[z6];lia) q];congr 1;unfold pm Xr;rw[z6,<-hn];exact Py λk m=>by rw[uZ m]
 ·refine zA (λs:J×N J=>∃i:K,i<=X b/\s=((i:J),zl n (λk=>ci a k+if k<i then c*ci b k else 0))) (λs=>X b-s.1.toNat) _ ?_ _ _ ⟨0,xai _,by rw[yU (f:=ci a) (g:=λk=>ci a k+if k<0 then c*ci b k else 0) λk _=>by rw[zB,xbZ]];rfl⟩ (by show X b-0<fu;lia);rintro s L ⟨i,hi,rfl⟩ x;unfold gQ;simp only;by_cases y:i<X b
  ·rw[zT,U O];simp only[uL];have⟨r2,u⟩:=cD o hc hd (j.nn i)<|j.lt i;have:=h.nn i;have:=h.lt i;rw[zo y,zf,zo (by rw[z6];lia),zf,ke,ir<|Nat.lt_irrefl i,xbZ,Vp,zb,zb,zo (by rw[z6];lia),zf,Zu,zb];refine x _ ⟨i+1,W,?_⟩ (by show X b-((i:J)+1).toNat<X b-(i:J).toNat;lia);congr 1;refine yU λk m=> ?_;unfold Y8;by_cases e:k=i
   ·rw[iq e,zT,e]
   ·rw[ir e];show ci a k+(if k<i then c*ci b k else 0)=_;by_cases d:k<i
    ·rw[iq d,zT]
    ·rw[ir d,zB]
  ·rw[zB,U O];simp only[xak,ut];congr 1;refine yU λk m=> ?_;by_cases d:k<i
   ·rw[iq d]
   ·rw[ir d,yh (l:=b) W,xaz]
end
section
variable{p a fu:wr}
theorem Uf(hp:2<=p)(h:jx p)(h0:0<a:=by lia)(h1:a<p:=by lia):xdq p a=1:=by
 have⟨g,b⟩:∃g,g=xdq p a:=⟨_,O⟩;have d1:g∣p:=by rw[b];exact xfM _ _
 have d2:g∣a:=by rw[b];exact xdx _ _
 have j:g<=a:=Nat.le_of_dvd h0 d2;have i:0<g:=Nat.pos_of_dvd_of_pos d1 W;rw[<-b];refine xcR (xbu λk=> ?_) i;by_cases c:g*g<=p
 ·exact h g W c<|Nat.mod_eq_zero_of_dvd d1
 ·have⟨d,hd⟩:=d1;have l:d<g:=by
   refine xdf λf=>c ?_;rw[hd];exact xaD _ f
  have hc:2<=d:=by
   refine xbu λf=> ?_;have:d=0\/d=1:=W
   obtain e|e:=this
   ·grind
   ·grind
  refine h d hc ?_ ?_
  ·rw[hd];exact xan _ W
  ·rw[hd];exact Nat.mul_mod_left _ _
theorem ui{p:J}(hp:vF p=wF)(b:400<fu:=by lia):w7 fu p=Z 0:=by grind [w7,U,Wo]
structure IvI(p a:K)(r0 r1:K)(t0 t1:J):Prop where
 lt:r1<r0
 two:2<=r0
 le:r0<=p
 c0:(p:J)∣(r0:J)-t0*a
 c1:(p:J)∣(r1:J)-t1*a
 g:xdq r0 r1=1
 s:∃u0 u1:K,((t0=u0/\t1= -u1)\/(t0= -u0/\t1=u1))/\r0*u1+r1*u0=p
theorem IvI.step{r0 r1:K}{t0 t1:J}(h:IvI p a r0 r1 t0 t1)(k:2<=r1):IvI p a r1 (r0%r1) t1 (t0-((r0/r1:K):J)*t1)/\(((r0/r1:K):J)*t1).natAbs<=p/\(t0-((r0/r1:K):J)*t1).natAbs<=p:=by
 have hd:=xbt r0 r1;have l:=xaS r0 (W:0<r1);have⟨c,b,m,r⟩:=h.s;generalize t:r0/r1=q at*
 generalize n:r0%r1=r2 at*
 have u:=h.le;have hi:=h.lt;have e1:r1*(c+q*b)+r2*b=p:=by grind
 have v:c+q*b<=p:=by
  have d:1*(c+q*b)<=r1*(c+q*b):=xan _ W;lia
 have hc:((q*b:K):J)=(q:J)*(b:J):=gT
 have f:((t1=b/\t0-(q:J)*t1= -((c+q*b:K):J))\/(t1= -b/\t0-(q:J)*t1=((c+q*b:K):J)))/\((q:J)*t1).natAbs<=p:=by
  rcases m with⟨i,j⟩|⟨i,j⟩
  ·grind
  ·rw[i,j,<-hc];exact⟨.inl ⟨O,W⟩,W⟩
 refine⟨⟨l,k,W,h.c1,?_,?_,b,c+q*b,f.1,e1⟩,f.2,by rcases f.1 with⟨_,e⟩|⟨_,e⟩<;>lia⟩
 ·have d:=xdw h.c0<|xbp h.c1<|xcx (q:J) _;have o:(r0:J)-t0*a-(q:J)*((r1:J)-t1*a)=(r2:J)-(t0-(q:J)*t1)*a:=by
   rw[Int.mul_sub,Int.sub_mul,xdg];have:(r0:J)=(r1:J)*(q:J)+(r2:J):=by rw[<-hd];simp
   rw[this,xbw (r1:J)];lia
  rw[o]at d;exact d
 ·have d:=h.g;rw[<-n,xdF,<-Nat.gcd_rec,xdF];exact d
def zg7(hp:p<=65521)(j:70000<fu){t:J}:∀{r0 r1:K}{t0 t1:J},IvI p a r0 r1 t0 t1->∀n,r1<n->∃x:J,zg (lQ fu) n ((r0:J),(r1:J),t0,t1)=Z (.inl x)/\(p:J)∣1-x*a/\x.natAbs<=p:=by
 intro r0 r1
 induction r1 using xdz generalizing r0 with
 |_ r1 c=>
  intro t0 t1 h n hn;obtain⟨n,rfl⟩:∃k,n=k+1:=⟨n-1,W⟩;rw[kf];unfold lQ;simp only;have hc:=h.lt;have l:=h.two;have hd:=h.le;by_cases h0:r1=0
  ·have:=h.g;simp_all
  ·rw[zB];by_cases h1:r1=1
   ·rw[zT];refine⟨t1,O,?_,?_⟩
    ·have:=h.c1;rw[h1]at this;exact this
    ·have⟨m,b,d,o⟩:=h.s;have q:1*b<=r0*b:=xan _ W;rcases d with⟨_,e⟩|⟨_,e⟩<;>lia
   ·have⟨f,r,u⟩:=h.step W;have e1:xct (r0:J) (r1:J)=((r0/r1:K):J):=O;have v:=xbt r0 r1;have i:((r0/r1:K):J)*(r1:J)=((r1*(r0/r1):K):J):=by rw[xbw];simp
    have hi:((r0/r1:K):J)<=(r0:J):=Int.ofNat_le.2<|xcp _ _;have w:(0:J)<=((r0/r1:K):J):=xdm _;rw[zB,yV,e1,zb,i,zb,(W:(r0:J)-((r1*(r0/r1):K):J)=((r0%r1:K):J)),zb,zb,zb];exact c (r0%r1) (xaS _ W) f n (by have:=xaS r0 (W:0<r1);lia)
def Kf{p a:J}(hp:vF p=wF)(h0:0<a)(h1:a<p)(f:3000000<=fu):∃x,Vk fu a p=Z (x,0)/\0<=x/\x<p/\(x*a)%p=1:=by
 have⟨g,i⟩:=zz hp;have c:jx p.toNat:=by
  refine xae λh=> ?_;rw[GB<|λe=>h e.2.2]at hp;simp_all
 obtain⟨P,rfl⟩:=xaA (W:0<=p);obtain⟨A,rfl⟩:=xaA (W:0<=a);have d:IvI P A P A 0 1:=⟨W,W,Nm _,by rw[xba,xdc];exact xed _,by rw[xcY,xee];exact xdE _,Uf W c,0,1,.inr ⟨O,O⟩,W⟩;have⟨x,k1,k2,j⟩:=zg7 (fu:=fu) (t:=0) (W:P<=65521) W d fu W;have b:=xe (a:=x) (p:=(P:J));refine⟨x%P,?_,b.1,b.2,?_⟩
 ·unfold Vk;rw[U<|ui hp,iq O,U<|Yr W W ⟨W,W⟩,xaL (a:=(A:J)) W W,U k1];simp only;rw[U<|Yr W W ⟨W,W⟩]
 ·rw[xck,xaT,<-xck];have:=xaI.2<|xaw k2;rw[<-this];exact xaL gS W
end
section
variable{p x:wl}{fu i qn:wr}{a b:xS wl}{R Q:Pz}
def ya{α β:Type}{f:(β->V α)->β->V α}(j:β->Prop)(m:β->K)(Q:α->Prop)
 (step:∀s L,j s->(∀c,j c->m c<m s->∃r,L c=Z r/\Q r)->∃r,f L s=Z r/\Q r):∀(n:K) (s:β),j s->m s<n->∃r,zg f n s=Z r/\Q r
 |0,s,_,h=>wR h<|xbn _
 |n+1,s,d,h=>step s _ d λc e g=>ya j m Q step n c e W
theorem wG{f:K->J}{i:K}(h:∀k,k≠i->f k=0):∀n,yi n f=if i<n then f i else 0
 |0=>by skip;rfl
 |n+1=>by
  show yi n f+f n=_;rw[wG h n];by_cases h1:i<n
  ·grind
  ·grind
theorem jj(i:K)(c:J)(g:Pz)(k:K):((mono i c:Pz)*g) k=c*sh g i k:=by
 rw[wM,wG λj d=>by show mono i c j*_=0;unfold mono;rw[ir d,xba]];unfold sh;by_cases h:i<=k
 ·rw[zT];unfold mono;simp_all
 ·grind
theorem qV(x:J):ci [x]=pc x:=by
 funext k
 cases k with
 |zero=>rfl
 |succ k=>exact yh gT
def VN(h0:0<x:=by lia)(h1:x<p:=by lia):Fp p [x]:=⟨λk=>by rw[qV];unfold pc;split<;>lia,λk=>by rw[qV];unfold pc;split<;>lia,.inr (by show x≠0;lia)⟩
def Tb(h:0<p:=by lia):Fp p []:=⟨λk=>by rw[yh<|xai _];lia,λk=>by skip;exact h,.inl O⟩
def zi7{c:J}(h:0<=x)(d:(x*c)%p=1):0<x:=by
 obtain h|h:=Int.lt_or_eq_of_le h
 ·exact h
 ·rw[<-h,xba]at d;cases d
def J3{c:J}(hp:vF p=wF)(h:Fp p a)(h0:0<c)(h1:c<p)(hc:X a<=90000)(d:3000000<=fu):∃x,0<x/\x<p/\(x*c)%p=1/\Vk fu c p=Z (x,0)/\vU fu a c p=Z (xD p a [x]):=by
 have⟨l,j⟩:=zz hp;have⟨x,e1,k,e,f⟩:=Kf hp h0 h1 d;have g:=zi7 k f;refine⟨x,g,e,f,e1,?_⟩;unfold vU;rw[U e1];simp only;rw[U<|w4 W j h (VN g e) W gT d]
def ie(R g:Pz)(p c:J)(i j:K):Pz:=λk=>if i<=k/\k<i+j then(R k+(p-c)*g (k-i))%p else R k
theorem zcP(R g:Pz)(p c:J)(i j k:K):Y8 (ie R g p c i j) (i+j) ((R (i+j)+(p-c)*g j)%p) k=ie R g p c i (j+1) k:=by grind [ie,Y8]
theorem zcI{g:Pz}{c:J}{n:K}(d:∀k,R k%p=R k)(e:∀k,n<=k->g k=0)(k:K):ie R g p c i n k%p=(R k-c*sh g i k)%p:=by
 unfold ie sh;by_cases h:i<=k/\k<i+n
 ·rw[iq h,iq h.1,xaT,Int.sub_mul];refine xaI.2<|xaw ⟨g<|k-i,?_⟩;lia
 ·grind
def zbZ{n:K}{c:J}(h1:1<=p)(q:p<=65521)(d:Fp p b)(h:∀k,0<=R k/\R k<p)(hc:0<=c)(r:c<p)(hd:i+X b<=n)(hn:n<=100000)(t:3000000<=fu):
 zg (YH fu b (i:J) c) fu (b,p,x,0,zl n R,zl qn Q)=Z (b,p,x,zl n<|ie R (ci b) p c i (X b),zl qn Q):=by
 refine zA (λs:N J×J×J×J×N J×N J=>∃j:K,j<=X b/\s=(b,p,x,(j:J),zl n<|ie R (ci b) p c i j,zl qn Q)) (λs=>X b-s.2.2.2.1.toNat) _ ?_ _ _ ⟨0,xai _,by rw[yU (f:=R) (g:=ie R (ci b) p c i 0) λk _=>by unfold ie;rw[zB]];rfl⟩ (by show X b-0<fu;lia);rintro s L ⟨j,u,rfl⟩ l;unfold YH;simp only;by_cases m:j<X b
 ·rw[zT,U O];simp only[uL];have e:(i:J)+(j:J)=((i+j:K):J):=W
  have o:ie R (ci b) p c i j (i+j)=R (i+j):=by unfold ie;rw[zB]
  have⟨r1,r2⟩:=h<|i+j;have v:0<=(p-c)*ci b j:=xcJ W<|d.nn j;have w:(p-c)*ci b j<=65521*ci b j:=xbx W<|d.nn j;have y:=d.lt j;rw[zo m,zf,e,zb,zb,zo (by rw[z6];lia),zf,ke,Vp,o,zb,zb,zb,yV,zf,fc,zo (by rw[z6];lia),zf,Zu,zb];exact l _ ⟨j+1,W,by rw[yU λk _=>zcP R (ci b) p c i j k];rfl⟩ (by show X b-((j:J)+1).toNat<X b-(j:J).toNat;lia)
 ·rw[zB,U O];simp only[xak,ut];obtain rfl:j=X b:=W
  rfl
structure FdI(p:J)(a b:N J)(qn i:K)(R Q:Pz):Prop where
 hi:i<=qn
 rr:∀k,0<=R k/\R k<p
 qr:∀k,0<=Q k/\Q k<p
 rz:∀k,i+(b.length-1)<=k->R k=0
 ql:∀k,k<i->Q k=0
 qz:∀k,qn<=k->Q k=0
 cg:Cg p (ci a) (Q*ci b+R)
def FdI.step(h1:1<=p)(h:FdI p a b qn (i+1) R Q)(s:0<X b)(j:(x*ci b (X b-1))%p=1):
 FdI p a b qn i (ie R (ci b) p (R (i+(X b-1))*x%p) i (X b)) (Y8 Q i<|R (i+(X b-1))*x%p):=by
 have⟨c,hc⟩:∃c,c=R (i+(X b-1))*x%p:=⟨_,O⟩;have hi:=h.hi;have e:=xe (a:=R (i+(X b-1))*x) (p:=p);rw[<-hc]at e⊢;have m:∀k,R k%p=R k:=λk=>xaL (h.rr k).1 (h.rr k).2;have f:=zcI (g:=ci b) (c:=c) (i:=i) (n:=X b) m<|λk d=>yh d;have hd:∀k,0<=ie R (ci b) p c i (X b) k/\ie R (ci b) p c i (X b) k<p:=λk=>by
  unfold ie;split
  ·exact xe
  ·exact h.rr k
 have o:∀k,Y8 Q i c k=(Q+(mono i c:Pz)) k:=λk=>by
  rw[zK];unfold Y8 mono;by_cases d:k=i
  ·rw[iq d,iq d,h.ql k W,xcE]
  ·lia
 refine⟨W,hd,λk=> ?_,λk d=> ?_,λk d=> ?_,λk d=> ?_,?_⟩
 ·unfold Y8;split
  ·exact e
  ·exact h.qr k
 ·have q:=xaL (hd k).1 (hd k).2;rw[<-q,f];by_cases r:k=i+(X b-1)
  ·unfold sh;rw[zT,(W:k-i=X b-1),hc,r,Int.sub_emod,xck,xaT,<-xck,xdg,xck _<|x*_,j,xcZ,xaT,<-Int.sub_emod,xee,xas]
  ·unfold sh;rw[h.rz k W,zT,yh (l:=b) W,xaz,xdc,xas]
 ·unfold Y8;rw[zB];exact h.ql k W
 ·unfold Y8;rw[zB];exact h.qz k d
 ·refine h.cg.trans λk=> ?_;rw[show Y8 Q i c=Q+(mono i c:Pz)from qR o,yF,zK,zK,zK,jj,xec<|_+_,f,<-xec];congr 1;lia
def xA(hp:vF p=wF)(g:Fp p a)(c:Fp p b)(m:0<X b)(B:X a<=90000)(C:X b<=90000)(d:3000000<=fu):
 ∃q r,xF fu a b p=Z (q,r)/\Fp p q/\Fp p r/\Cg p (ci a) (ci q*ci b+ci r)/\X r<X b/\X q<=X a:=by
 have⟨D,e⟩:=zz hp;unfold xF;rw[xB (by simp;lia),zf,xby,zb];by_cases hl:X a<X b
 ·rw[zT];refine⟨[],a,O,Tb,g,Cg.of ?_,hl,xai _⟩;funext k;rw[zK,show ci []=pc 0 from qR λj=>by rw[yh<|xai _,zJ],yf,zJ,xcE]
 ·have⟨qn,E⟩:∃qn,qn=X a-X b+1:=⟨_,O⟩;have F:ci b (X b-1)≠0:=by
   obtain h|h:=c.nl
   ·lia
   ·exact h
  have t1:=c.nn<|X b-1;have t2:=c.lt<|X b-1;have⟨x,e1,o,t,u⟩:=Kf (fu:=fu) hp (W:0<ci b (X b-1)) t2 d;have c1:(X b:J)-1=((X b-1:K):J):=W
  have c2:(X a:J)-(X b:J)+1=(qn:J):=W
  rw[zB,c1,zb,zY,zf,Vp,U e1];simp only;rw[zb,c2,yR,yV,zf]
  have hc:=ya (f:=Y3 fu b p x) (λs:J×N J×N J=>∃(i:K) (R Q:Pz),s=((i:J)-1,zl (X a) R,zl qn Q)/\FdI p a b qn i R Q) (λs=>(s.1+1).toNat)
   (λr=>∃R Q:Pz,r=(zl (X a) R,zl qn Q)/\FdI p a b qn 0 R Q) (by
    rintro s L ⟨i,R,Q,rfl,h⟩ v;unfold Y3;simp only
    cases i with
    |zero=>
     rw[zB];exact⟨_,O,R,Q,O,h⟩
    |succ i=>
     have hi:=h.hi;have⟨r1,r2⟩:=h.rr<|i+(X b-1);have⟨w,G⟩:=cD e r1 r2 o t;have hd:=xe (a:=R (i+(X b-1))*x) (p:=p);rw[(W:((i+1:K):J)-1=(i:J)),zT,zb,(W:(i:J)+(X b:J)-1=((i+(X b-1):K):J)),zb,zo (by rw[z6];lia),zf,ke,zb,yV,zf,fc w,zo (by rw[z6];lia),zf,Zu,U<|zbZ W e c h.rr hd.1 hd.2 W W d];simp only;rw[zb];exact v _ ⟨i,_,_,O,h.step W m u⟩ (by show((i:J)-1+1).toNat<(((i+1:K):J)-1+1).toNat;lia))
   fu ((X a:J)-(X b:J),a,xac qn 0) ⟨qn,ci a,λ_=>0,by rw[N6,cZ,(W:(X a:J)-(X b:J)=(qn:J)-1)],Nm _,λk=>⟨g.nn k,g.lt k⟩,λk=>⟨xfy _,W⟩,λk y=>yh W,λk _=>O,λk _=>O,Cg.of (by
    funext k;rw[zK,show((λ_=>0:Pz))=pc 0 from qR λj=>(zJ j).symm,yf,zJ,xcE])⟩ (by show((X a:J)-(X b:J)+1).toNat<fu;lia)
  obtain⟨_,z,R,Q,rfl,h⟩:=hc;rw[U z];simp only;have A:Rl (zl (X a) R):=λk=>by
   rw[Xc λj l=>h.rz j W];have:=h.rr k;exact⟨W,W⟩
  have hn:Rl (zl qn Q):=λk=>by
   rw[Xc h.qz];have:=h.qr k;exact⟨W,W⟩
  rw[U<|zN W e hn (by rw[z6];lia) d,U<|zN W e A (by rw[z6];lia) d];refine⟨_,_,O,Cj W _,Cj W _,?_,?_,?_⟩
  ·refine h.cg.trans<|Cg.add (Cg.mul (Cg.symm<|(MO p _).trans<|Cg.of<|funext (Xc h.qz)) Cg.rfl)<|Cg.symm<|(MO p _).trans<|Cg.of<|funext (Xc λj l=>h.rz j W)
  ·have:=(Cj (p:=p) W<|zl (X a) R).nl.le (n:=X b-1) λk y=>by rw[GK,Xc (λj l=>h.rz j W),h.rz k W,xas]
   lia
  ·have:=zbx p<|zl qn Q;rw[z6]at this;lia
end
section
variable{p:wl}{fu N:wr}{r0 s0 t0 r1 s1 t1 g h:xS wl}{f:Pz}
def zlU(f:Pz):Cg p (pc (p-1)*f) (-f):=λk=>by
 rw[zP,zbb,Int.sub_mul];simp_all
def K6(a b:xS J):Cg p (ci<|Xr p a b<|p-1) (ci a-ci b):=by
 refine(IB p a b<|p-1).trans ?_;exact Cg.rfl.add<|zlU _
def AA{S:K}(hp:vF p=wF)(b:Fp p r0)(l:Fp p s0)(m:Fp p t0)(hc:Fp p r1)(hl:Fp p s1)(o:Fp p t1)(h0:0<X r1)(l1:X r0<=N)(D:X r1<=N)(E:X s0<=S)(F:X t0<=S)(G:X s1<=S)(H:X t1<=S)(M:N<=9000)(P:S<=90000)(a:3000000<=fu):
 ∃q,Fp p q/\X q<=N/\Cg p (ci r0) (ci q*ci r1+ci (Xr p r0 (xD p q r1)<|p-1))/\X (Xr p r0 (xD p q r1)<|p-1)<X r1/\
  YK fu [r0,s0,t0] [r1,s1,t1] p=Z [Xr p r0 (xD p q r1)<|p-1,Xr p s0 (xD p q s1)<|p-1,Xr p t0 (xD p q t1)<|p-1]:=by
 have⟨Q,c⟩:=zz hp;have⟨q,r,e1,d,s,hd,t,hv⟩:=xA (fu:=fu) hp b hc h0 W W a;have e:Xr p r0 (xD p q r1) (p-1)=r:=by
  refine Fp.ext (U5 W _ _ _) s<|(K6 r0<|xD p q r1).trans ?_;refine(hd.sub<|Ze p q r1).trans<|Cg.of ?_;funext k;simp only[zK,yx];lia
 refine⟨q,d,W,by rw[e];exact hd,by rw[e];exact t,?_⟩;unfold YK;have f1:=jc p q r1;have f2:=jc p q s1;have f3:=jc p q t1;rw[show(0:J)=((0:K):J)from O,zo gS,zo gS,zf];show Y (xF fu r0 r1 p) _=_;rw[U e1];simp only;rw[U (v:=([Xr p r0 (xD p q r1)<|p-1,Xr p s0 (xD p q s1)<|p-1,Xr p t0 (xD p q t1)<|p-1],xac 3 []))];have⟨n,hn⟩:∃n,fu=n+4:=⟨fu-4,W⟩
 have step:∀(L:xS J×J×xS (xS J)×xS (xS J)->V (xS (xS J)×xS (xS J))) (i:K) (x y z u:xS J) (ts:xS (xS J)),i<3->X ts=3->ts.getD i []=x->[r1,s1,t1].getD i []=y->Fp p x->Fp p y->X x<=90000->X y<=90000->
  u5 fu [r1,s1,t1] p L (q,(i:J),ts,xac 3 [])=L (q,((i+1:K):J),ts.set i<|Xr p x (xD p q y)<|p-1,xac 3 []):=λL i x y z u ts hi R w A B C T hA=>by
  unfold u5;simp only;have f4:=jc p q y;rw[zT,U O];simp only[uL];rw[zo hi,zo hi,zf,w,A,U<|w4 W c d C W W a,zb,U<|Jb W c B (qH W _ _) W W W W a,zo hi,zf,zb];rfl
 have j:zg (u5 fu [r1,s1,t1] p) (n+4) (q,((0:K):J),[r0,s0,t0],xac 3 [])=Z ([Xr p r0 (xD p q r1)<|p-1,Xr p s0 (xD p q s1)<|p-1,Xr p t0 (xD p q t1)<|p-1],xac 3 []):=by
  rw[kf,step _ 0 r0 r1 [] [] _ gS O O O b hc W W,kf,step _ 1 s0 s1 [] [] _ gS O O O l hl W W,kf,step _ 2 t0 t1 [] [] _ gS O O O m o W W,kf];unfold u5;simp only;rw[ir gS,U O];rfl
 rw[<-hn]at j;exact j
def Fs(f:Pz):Prop:=∃n,∀k,n<=k->f k=0
def Fs.add{g:Pz}(a:Fs f)(b:Fs g):Fs (f+g):=by
 have⟨n,hn⟩:=a;have⟨m,c⟩:=b;exact⟨n+m,λk d=>by rw[zK,hn k W,c k W];rfl⟩
def Fs.mul{g:Pz}(a:Fs f)(b:Fs g):Fs (f*g):=by
 have⟨n,hn⟩:=a;have⟨m,c⟩:=b;exact⟨n+m,λk d=>kL hn c⟩
def Fs.pc(c:J):Fs (pc c):=⟨1,λk a=>by unfold Go.Proofs.YtoegnnjcmlghhaaGreat.pc;rw[zB]⟩
theorem Fs.ci(l:xS J):Fs (ci l):=⟨X l,λk a=>yh a⟩
def Fs.cf(l:xS M):Fs (G l):=⟨X l,λk a=>zW a⟩
structure BzR(p:J)(g h d s t:xS J)(S:K):Prop where
 df:Fp p d
 sf:Fp p s
 tf:Fp p t
 cg:Cg p (ci d) (ci s*ci g+ci t*ci h)
 dv:∃A C:Pz,Fs A/\Fs C/\Cg p (ci g) (A*ci d)/\Cg p (ci h) (C*ci d)
 dl:d.length<=S
 sl:s.length<=S
 tl:t.length<=S
structure BzI(p:J)(g h r0 s0 t0 r1 s1 t1:xS J)(N:K):Prop where
 f0:Fp p r0
 g0:Fp p s0
 h0:Fp p t0
 f1:Fp p r1
 g1:Fp p s1
 h1:Fp p t1
 c0:Cg p (ci r0) (ci s0*ci g+ci t0*ci h)
 c1:Cg p (ci r1) (ci s1*ci g+ci t1*ci h)
 dv:∃A B C D:Pz,Fs A/\Fs B/\Fs C/\Fs D/\Cg p (ci g) (A*ci r0+B*ci r1)/\Cg p (ci h) (C*ci r0+D*ci r1)
 l0:r0.length<=N
 l1:r1.length<=N
 b0:s0.length<=1+N*(N+1-r1.length)
 b1:t0.length<=1+N*(N+1-r1.length)
 b2:s1.length<=1+N*(N+1-r1.length)
 b3:t1.length<=1+N*(N+1-r1.length)
def BzI.step(a:BzI p g h r0 s0 t0 r1 s1 t1 N)(hp:vF p=wF)(i:N<=290)(j:0<X r1)(l:3000000<=fu):
 ∃r2 c t2,YK fu [r0,s0,t0] [r1,s1,t1] p=Z [r2,c,t2]/\X r2<X r1/\BzI p g h r1 s1 t1 r2 c t2 N:=by
 have⟨u,v⟩:=zz hp;have m:1+N*(N+1-X r1)<=90000:=by
  have:N*(N+1-X r1)<=290*290:=xbo i W;lia
 have hd:=a.l0;have d:=a.l1;have n:=a.b0;have hi:=a.b1;have o:=a.b2;have r:=a.b3;have⟨q,w,x,hc,hl,s⟩:=AA (fu:=fu) (S:=1+N*(N+1-X r1)) hp a.f0 a.g0 a.h0 a.f1 a.g1 a.h1 j hd d n hi o r W m l;refine⟨_,_,_,s,hl,a.f1,a.g1,a.h1,U5 W _ _ _,U5 W _ _ _,U5 W _ _ _,a.c1,?_,?_,d,W,?_,?_,?_,?_⟩
 ·refine(K6 _ _).trans<|(a.c0.sub<|(Ze p q r1).trans<|Cg.rfl.mul a.c1).trans ?_;refine Cg.trans (Cg.of ?_)<|Cg.symm (((K6 s0<|xD p q s1).trans<|Cg.rfl.sub<|Ze p q s1).mul (Cg.rfl (f:=ci g))|>.add (((K6 t0<|xD p q t1).trans<|Cg.rfl.sub<|Ze p q t1).mul<|Cg.rfl (f:=ci h)));simp only[xH,yF,wm,qp,zd];funext k;simp only[zK,yx];lia
 ·have⟨A,B,C,D,e,z2,z3,z4,d1,d2⟩:=a.dv;refine⟨A*ci q+B,A,C*ci q+D,C,(e.mul<|Fs.ci q).add z2,e,(z3.mul<|Fs.ci q).add z4,z3,?_,?_⟩
  ·refine d1.trans<|((Cg.rfl (f:=A)).mul hc|>.add Cg.rfl).trans<|Cg.of ?_;simp only[xH,yF,zd];funext k;simp only[zK];lia
  ·refine d2.trans<|((Cg.rfl (f:=C)).mul hc|>.add Cg.rfl).trans<|Cg.of ?_;simp only[xH,yF,zd];funext k;simp only[zK];lia
 ·have:N*(N+1-X r1)<=N*(N+1-X (Xr p r0 (xD p q r1)<|p-1)):=xaD _ W;lia
 ·have:N*(N+1-X r1)<=N*(N+1-X (Xr p r0 (xD p q r1)<|p-1)):=xaD _ W;lia
 ·have h1:=Bj p s0 (xD p q s1)<|p-1;have t:=jc p q s1;have b:N*(N+1-X r1+1)<=N*(N+1-X (Xr p r0 (xD p q r1)<|p-1)):=xaD _ W;rw[xbk,xdU]at b;lia
 ·have h1:=Bj p t0 (xD p q t1)<|p-1;have t:=jc p q t1;have b:N*(N+1-X r1+1)<=N*(N+1-X (Xr p r0 (xD p q r1)<|p-1)):=xaD _ W;rw[xbk,xdU]at b;lia
def zgw(hp:vF p=wF)(e:N<=290)(i:3000000<=fu)(a:BzI p g h r0 s0 t0 r1 s1 t1 N):
 ∃d s t,zg (Zg fu p) fu ([r0,s0,t0],[r1,s1,t1])=Z [d,s,t]/\BzR p g h d s t (1+N*(N+1)):=by
 obtain⟨r,e1,d,s,t,rfl,j⟩:=ya (f:=Zg fu p) (λx:xS (xS J)×xS (xS J)=>∃r0 s0 t0 r1 s1 t1,x=([r0,s0,t0],[r1,s1,t1])/\BzI p g h r0 s0 t0 r1 s1 t1 N) (λx=>X (x.2.getD 0 [])) (λr=>∃d s t,r=[d,s,t]/\BzR p g h d s t (1+N*(N+1))) (by
  rintro x L ⟨r0,s0,t0,r1,s1,t1,rfl,a⟩ n;unfold Zg;simp only;rw[show(0:J)=((0:K):J)from O,zo gS];show∃r,(if((0:K):J)<(X r1:J)then _ else _)=Z r/\_;by_cases h0:0<X r1
  ·have⟨r2,o,t2,l,q,hc⟩:=a.step (fu:=fu) hp e h0 i;rw[zT,U l];simp_all
  ·rw[zB];have b:ci r1=pc 0:=qR λk=>by rw[yh W,zJ]
   have c:1+N*(N+1-X r1)<=1+N*(N+1):=by
    have:N*(N+1-X r1)<=N*(N+1):=xaD _ W;lia
   have hd:=a.l0;have u:N*1<=N*(N+1):=xaD _ W;refine⟨_,O,r0,s0,t0,O,a.f0,a.g0,a.h0,a.c0,?_,W,xal a.b0 c,xal a.b1 c⟩;have⟨A,B,C,D,m,z2,z3,z4,d1,d2⟩:=a.dv;rw[b,zk B,yf]at d1;rw[b,zk D,yf]at d2;refine⟨A,C,m,z3,d1.trans<|Cg.of ?_,d2.trans<|Cg.of ?_⟩<;>funext k<;>rw[zK,zJ,xbZ]) fu ([r0,s0,t0],[r1,s1,t1]) ⟨_,_,_,_,_,_,O,a⟩ (by have:=a.l1;show X r1<fu;lia)
 exact⟨d,s,t,e1,j⟩
theorem kY(hp:vF p=wF)(o:Fp p g)(q:Fp p h)(hu:X g<=290)(hv:X h<=290)(j:3000000<=fu):
 ∃d s t,uH fu g h p=Z (d,s,t,0)/\BzR p g h d s t (2+max (X g) (X h)*(max (X g) (X h)+1))/\(X d=0\/ci d (X d-1)=1):=by
 have⟨p1,l⟩:=zz hp;unfold uH;rw[U<|ui hp,iq O,U<|zN W l (o.rl l) W j,U<|zN W l (q.rl l) W j,o.pm,q.pm];have z0:ci ([]:xS J)=pc 0:=qR λk=>by rw[yh<|xai _,zJ]
 have c:∀f:Pz,f+pc 0=f:=λf=>qR λk=>by rw[zK,zJ,xbZ]
 have e:∀f:Pz,pc 0+f=f:=λf=>qR λk=>by rw[zK,zJ,xcE]
 have D:BzI p g h g [1] [] h [] [1] (max (X g) (X h)):=by
  refine⟨o,VN,Tb,q,Tb,VN,Cg.of ?_,Cg.of ?_,⟨pc 1,pc 0,pc 0,pc 1,Fs.pc 1,Fs.pc 0,Fs.pc 0,Fs.pc 1,Cg.of ?_,Cg.of ?_⟩,xeo _ _,xdY _ _,xbM _ _,xai _,xai _,xbM _ _⟩
  ·rw[qV,z0,zw,yf,c]
  ·rw[qV,z0,zw,yf,e]
  ·rw[zw,yf,c]
  ·rw[zw,yf,e]
 have⟨d,s,t,e1,b⟩:=zgw (fu:=fu) hp W j D;have hS:max (X g) (X h)*(max (X g) (X h)+1)<=290*291:=xbo W W;generalize max (X g) (X h)*(max (X g) (X h)+1)=S at*
 rw[U e1,show(0:J)=((0:K):J)from O,zo gS];show∃r u v,Y (if((0:K):J)<(X d:J)then Z wF else Z I) _=_/\_;by_cases h0:0<X d
 ·have hw:=b.dl;have ht:ci d (X d-1)≠0:=by
   obtain h|h:=b.df.nl
   ·lia
   ·exact h
  have t1:=b.df.nn<|X d-1;have t2:=b.df.lt<|X d-1;have⟨x,E,G,w,H,x5⟩:=J3 (fu:=fu) hp b.df (W:0<ci d (X d-1)) t2 W j;have sc:∀{a:xS J},Fp p a->X a<=90000->vU fu a (ci d<|X d-1) p=Z (xD p a [x]):=λ{a} M hl=>by
   unfold vU;rw[U H];simp only;rw[U<|w4 W l M (VN E G) W gT j]
  rw[zT,U O,iq O,zo gS];show∃r u v,Q ((X d:J)-1) _=_/\_;rw[(W:(X d:J)-1=((X d-1:K):J)),zb];show∃r u v,zD ((X d-1:K):J) (X d) _=_/\_;rw[zY,zf];show∃r u v,Y (zg (wZ fu p<|ci d<|X d-1) fu (((0:K):J),[d,s,t])) _=_/\_;have P:zg (wZ fu p<|ci d<|X d-1) fu (((0:K):J),[d,s,t])=Z [xD p d [x],xD p s [x],xD p t [x]]:=by
   have⟨n,hn⟩:∃n,fu=n+4:=⟨fu-4,W⟩
   have step:∀(L:J×xS (xS J)->V (xS<|xS J)) (i:K) (y:xS J) (ts:xS (xS J)),i<3->ts.getD i []=y->Fp p y->X y<=90000->
    wZ fu p (ci d<|X d-1) L ((i:J),ts)=L (((i+1:K):J),ts.set i<|xD p y [x]):=λL i y ts hi R T hr=>by
    unfold wZ;simp only;rw[zT,zo hi,R,U<|sc T hr,zo hi,zf,zb];rfl
   have z:zg (wZ fu p<|ci d<|X d-1) (n+4) (((0:K):J),[d,s,t])=Z [xD p d [x],xD p s [x],xD p t [x]]:=by
    rw[kf,step _ 0 d _ gS O b.df (xal b.dl W),kf,step _ 1 s _ gS O b.sf (xal b.sl W),kf,step _ 2 t _ gS O b.tf (xal b.tl W),kf];unfold wZ;simp only;rw[ir gS];rfl
   rw[<-hn]at z;exact z
  rw[U P];have hc:∀a:xS J,Cg p (ci<|xD p a [x]) (ci a*pc x):=λa=>by
   have:=Ze p a [x];rw[qV]at this;exact this
  have hj:Cg p (pc x*pc (ci d<|X d-1)) (pc 1):=λk=>by
   rw[qf];unfold pc;split
   ·rw[w];exact(xaL gS W).symm
   ·rfl
  have f1:=jc p d [x];have f2:=jc p s [x];have f3:=jc p t [x];have hx:=b.sl;have hz:=b.tl;simp only[xau,xbH]at f1 f2 f3;have hd:∀k,ci (xD p d [x]) k=(x*ci d k)%p:=λk=>by rw[UH,qV,zk,zP]
  have hm:X (xD p d [x])=X d:=by
   refine xcR ((qH W _ _).nl.le λk hk=> ?_)<|xbu λhA=> ?_
   ·rw[hd,yh hk,xaz,xas]
   ·have B:=hd<|X d-1;rw[w,yh W]at B;cases B
  refine⟨xD p d [x],xD p s [x],xD p t [x],O,⟨qH W _ _,qH W _ _,qH W _ _,?_,?_,W,W,W⟩,.inr ?_⟩
  ·refine(hc d).trans<|(b.cg.mul Cg.rfl).trans<|Cg.trans (Cg.of ?_)<|Cg.symm<|((hc s).mul Cg.rfl).add<|(hc t).mul Cg.rfl;simp only[xH,yF,zd,zk,zC]
  ·have⟨A,C,z1,z3,d1,d2⟩:=b.dv;have m:∀F:Pz,Cg p (F*ci d) (F*pc (ci d<|X d-1)*ci (xD p d [x])):=λF=>by
    refine Cg.symm<|(Cg.rfl.mul<|hc d).trans<|Cg.trans (Cg.of ?_)<|((Cg.rfl (f:=F*ci d)).mul hj).trans<|Cg.of<|ye _;simp only[zd,zk,zC]
   exact⟨_,_,z1.mul<|Fs.pc _,z3.mul<|Fs.pc _,d1.trans<|m A,d2.trans<|m C⟩
  ·rw[hm,hd,w]
 ·rw[zB,U O,ir gS];exact⟨d,s,t,O,⟨b.df,b.sf,b.tf,b.cg,b.dv,xal b.dl W,xal b.sl W,xal b.tl W⟩,.inl W⟩
end
section
variable{fu:wr}{a l b:xS wl}{p:wl}
def sw{n:K}(h:n<9223372036854775808:=by lia):sgn n=(n:J):=by
 unfold sgn;lia
def Ar{x:J}(h0:0<=x)(h:x<9223372036854775808)(f:3000000<=fu):Qu fu (yp x)=Z (x,wF):=by
 have c:Bz 1 x:=by unfold Bz;lia
 unfold Qu;rw[U<|ZT (c.ok gS) f,zn];have g:(yp x).1=I:=by unfold yp;simp;lia
 by_cases d:x=0
 ·subst d;rfl
 ·have hc:=eK.2 d;have hd:=c.len;obtain⟨n,rfl⟩:=xaA h0;have e:(yp (n:J)).2.getD 0 0=n:=by
   show(yB<|(n:J).natAbs).getD 0 0=n;rw[xbh,ZA,xeH,xdK,xam W]
  rw[zB,U O,ir gS,zB,U O,ir gS,g,ir gS,U O,ir gS,ir gS,show(0:J)=((0:K):J)from O,zY,zf,e,zB,zY,zf,e,zf,sw]
def Cn{a:M}(d:a8 a)(h1:1<=p)(g:p<=65521)(c:3000000<=fu):JO fu a p=Z (zv a%p,0):=by
 unfold JO;have e:Bz 1 p:=by unfold Bz;lia
 have f:=xe (a:=zv a) (p:=p);rw[U<|ym ⟨W,W⟩ c,U<|ZJ d (e.okS gS) c,zn];unfold Gb;rw[zB];simp only[uL];rw[U<|Ar f.1 W c]
def qx(p:J)(a:N M):N J:=nl (X a)<|λk=>G a k%p
def JR(p:J)(a:N M)(k:K):ci (qx p a) k=G a k%p:=Dn (λk c=>by rw[zW c,xas]) k
def fh(p:J)(a:N M):Cg p (ci<|qx p a) (G a):=λk=>by rw[JR,xaT]
def Qe(hp:0<p)(a:N M):Fp p (qx p a):=⟨λk=>by rw[JR];exact(xe hp).1,λk=>by rw[JR];exact(xe hp).2,sZ _ _⟩
def zjC(p:J)(a:N M):X (qx p a)<=X a:=Hg _ _
def uu{k:K}{a:N M}(o:yH k a)(c:k<=40000)(h1:1<=p)(q:p<=65521)(hl:X a<=1000000:=by lia)(r:3000000<=fu:=by lia):uO fu a p=Z (qx p a,0):=by
 unfold uO;have hd:=qg (λk=>G a k%p) (X a);rw[zB,U (v:=zl (X a)<|λk=>G a k%p)]
 ·rw[U (v:=qx p a)];refine zA (λt:N J=>∃m,m<=X a/\t=zl m (λk=>G a k%p)/\dg (λk=>G a k%p) m=dg (λk=>G a k%p) (X a)) (λt=>X t) _ ?_ _ _ ⟨X a,Nm _,O,O⟩ (by rw[z6];lia);rintro t L ⟨m,u,rfl,d⟩ j;unfold gM;rw[z6]
  cases m with
  |zero=>
   rw[zB];unfold qx nl;rw[<-d];rfl
  |succ m=>
   rw[zT,(W:((m+1:K):J)-1=(m:J)),zb,zY,zf,ke];by_cases h0:G a m%p=0
   ·rw[iq h0,zb,yR,yV,zf,zaO];exact j _ ⟨m,W,O,by rw[<-oj (f:=λk=>G a k%p) h0,d]⟩<|by rw[z6,z6];lia
   ·rw[ir h0];unfold qx nl;rw[<-d,cn (f:=λk=>G a k%p) h0]
 ·unfold qS;rw[yR,yV,zf,cZ,U];refine zA (λs:J×N J=>∃i:K,i<=X a/\s=((i:J),zl (X a) (λk=>if k<i then G a k%p else 0))) (λs=>X a-s.1.toNat) _ ?_ _ _ ⟨0,xai _,by rw[yU (g:=λk=>if k<0 then G a k%p else 0)<|λk _=>by rw[zB]];rfl⟩ (by show X a-0<fu;lia);rintro s L ⟨i,hi,rfl⟩ j;unfold uC;simp only;by_cases h:i<X a
  ·rw[zT,U O];simp only[uL];have e1:WA fu (i:J) (a.getD i (I,[])) p=Z (G a i%p):=by
    unfold WA;rw[U<|Cn (o.okS c i) h1 q r];rfl
   rw[zo h,zf,U e1,zo (by rw[z6];exact h),zf,Zu,zb];refine j _ ⟨i+1,W,?_⟩ (by show X a-((i:J)+1).toNat<X a-(i:J).toNat;lia);congr 1;refine yU λk c=> ?_;unfold Y8;by_cases e:k=i
   ·rw[iq e,zT,e]
   ·rw[ir e];show(if k<i then G a k%p else 0)=_;by_cases n:k<i
    ·rw[iq n,zT]
    ·rw[ir n,zB]
  ·rw[zB,U O];simp only[xak,ut];congr 1;exact yU λk c=>by rw[zT]
def jI(l:N J):N M:=wk (X l)<|ci l
def qc(l:N J):G (jI l)=ci l:=qR λk=>jo (λk c=>yh c) k
def mU(l:N J):X (jI l)<=X l:=by unfold jI;rw[xw];exact qg _ _
def Rl.bz(h:Rl l)(k:K):Bz 1 (ci l k):=by
 have⟨h1,c⟩:=h k;unfold Bz;lia
def OI(h:Rl l):yH 1 (jI l):=yN h.bz
theorem ky(h:Rl l)(hl:X l<=1000000)(c:3000000<=fu):qF fu l=Z (jI l):=by
 unfold qF;rw[U (v:=zi (X l)<|ci l)]
 ·rw[U<|zI (Yf h.bz) gS (by rw[yc];lia) c,yc,rY];rfl
 ·unfold qX;rw[yR,yV,zf,az,U];refine zA (λs:J×N M=>∃i:K,i<=X l/\s=((i:J),zi (X l) (λk=>if k<i then ci l k else 0))) (λs=>X l-s.1.toNat) _ ?_ _ _ ⟨0,xai _,by rw[y6 (g:=λk=>if k<0 then ci l k else 0)<|λk _=>by rw[zB]];rfl⟩ (by show X l-0<fu;lia);rintro s L ⟨i,hi,rfl⟩ f;unfold uo;simp only;by_cases h1:i<X l
  ·have e1:Xf fu (i:J) (l.getD i 0)=Z (yp<|ci l i):=by
    unfold Xf;rw[Vp,U<|ym (h i) c]
   rw[zT,zo h1,zf,U e1,zo (by rw[yc];exact h1),zf,U2,zb];refine f _ ⟨i+1,W,?_⟩ (by show X l-((i:J)+1).toNat<X l-(i:J).toNat;lia);congr 1;refine y6 λk j=> ?_;unfold Y8;by_cases e:k=i
   ·rw[iq e,zT,e]
   ·rw[ir e];show(if k<i then ci l k else 0)=_;by_cases d:k<i
    ·rw[iq d,zT]
    ·rw[ir d,zB]
  ·rw[zB];congr 1;exact y6 λk j=>by rw[zT]
theorem E9(h:Rl l)(hl:X l<=1000000)(c:3000000<=fu):QI fu l=Z (jI l):=by grind [QI,U,ky]
def uk(hp:vF p=wF)(d:Fp p a)(e:Fp p b)(hc:X a<=90000:=by lia)(hd:X b<=90000:=by lia)(f:3000000<=fu:=by lia):jH fu a b p=Z (xD p a b,0):=by
 have⟨g,c⟩:=zz hp;unfold jH;rw[U<|ui hp,iq O,U<|zN W c (d.rl c) W f,U<|zN W c (e.rl c) W f,d.pm,e.pm,U<|w4 W c d e W W f]
def dF(hp:vF p=wF)(d:Fp p a)(e:Fp p b)(hc:X a<=90000)(hd:X b<=90000)(f:3000000<=fu):Vm fu a b p=Z (Xr p a b<|p-1,0):=by
 have⟨g,c⟩:=zz hp;unfold Vm;rw[U<|ui hp,iq O,U<|zN W c (d.rl c) W f,U<|zN W c (e.rl c) W f,d.pm,e.pm,zb,U<|Jb W c d e W W W W f]
def JX(hp:vF p=wF)(c:Fp p a)(d:Fp p b)(hd:X a<=90000)(f:X b<=90000)(g:3000000<=fu):Y9 fu a b p=Z (decide<|a=b):=by
 have⟨i,j⟩:=zz hp;unfold Y9;rw[U<|dF hp c d hd f g];simp only;have e:=U5 (p:=p) W a b<|p-1;have hc:=K6 (p:=p) a b;by_cases h:a=b
 ·have hl:X (Xr p a b<|p-1)<=0:=e.nl.le λk _=>by
   have:=hc k;rw[e.mod,yx]at this;simp_all
  simp_all
 ·rw[uT h,if_neg];intro h0;refine h<|c.ext d<|Cg.iff_sub.2<|hc.symm.trans λk=> ?_;rw[yh W,zJ]
end
section
variable{p:wl}{l:xS wl}{fu M i:wr}
def RK(p:J)(l:N J):Prop:=(∀j,j<X l->0<=ci l j/\ci l j<p)/\1<X l/\ci l (X l-1)=1
def RK.fp(hp:0<p)(h:RK p l):Fp p l:=by
 refine⟨λk=> ?_,λk=> ?_,.inr<|by rw[h.2.2];decide⟩
 ·by_cases a:k<X l
  ·exact(h.1 k a).1
  ·rw[yh W];lia
 ·by_cases a:k<X l
  ·exact(h.1 k a).2
  ·rw[yh W];exact hp
theorem Ke(hl:X l<=1000000)(o:3000000<=fu):∃b,YZ fu l p=Z b/\(b=wF↔RK p l):=by
 unfold YZ;have⟨r,e1,g⟩:=ya (f:=XX fu l p) (λi:J=>∃j:K,i=(j:J)/\j<=X l/\∀t,t<j->0<=ci l t/\ci l t<p) (λi=>X l-i.toNat) (λr=>(r=.inl ()/\∀t,t<X l->0<=ci l t/\ci l t<p)\/(r=.inr ()/\¬∀t,t<X l->0<=ci l t/\ci l t<p)) (by
  rintro i L ⟨j,rfl,q,c⟩ k;unfold XX;by_cases h1:j<X l
  ·rw[zT,zo h1,zf,Vp];by_cases a:ci l j<0
   ·grind
   ·rw[ir a];by_cases d:p<=ci l j
    ·rw[iq d];exact⟨_,O,.inr ⟨O,λe=>by have:=(e j h1).2;lia⟩⟩
    ·rw[ir d,zb];refine k _ ⟨j+1,O,W,λt m=> ?_⟩ W;by_cases n:t=j
     ·rw[n];lia
     ·exact c t W
  ·rw[zB];exact⟨_,O,.inl ⟨O,λt m=>c t W⟩⟩) fu 0 ⟨0,O,xai _,λt h=>wR h (xbn _)⟩ (by show X l-0<fu;lia)
 rw[U e1];rcases g with⟨rfl,h⟩|⟨rfl,h⟩
 ·simp only;by_cases h1:1<X l
  ·rw[zT,(W:(X l:J)-1=((X l-1:K):J)),zb,zY,zf,Vp];by_cases a:ci l (X l-1)=1
   ·rw[iq a];exact⟨_,O,λ_=>⟨h,h1,a⟩,λ_=>O⟩
   ·rw[ir a];exact⟨_,O,λe=>wR e gS,λe=>wR e.2.2 a⟩
  ·rw[zB];exact⟨_,O,λe=>wR e gS,λe=>wR e.2.1 h1⟩
 ·exact⟨_,O,λe=>wR e gS,λe=>wR e.1 h⟩
def VX(p:J)(fs:N (N J)):N J:=fs.foldl (xD p) [1]
def prZ:N Pz->Pz
 |[]=>pc 1
 |f::r=>f*prZ r
theorem wi:∀(a b:N Pz),prZ (a++b)=prZ a*prZ b
 |[],b=>(zw _).symm
 |f::r,b=>by show f*prZ (r++b)=f*prZ r*prZ b;rw[wi r b,zd]
def zbH(p:J):∀(fs:N (N J)) (t:N J),Cg p (ci<|fs.foldl (xD p) t) (ci t*prZ (fs.map ci))
 |[],t=>by show Cg p (ci t) (ci t*pc 1);rw[ye];exact Cg.rfl
 |f::r,t=>by refine(zbH p r<|xD p t f).trans<|((Ze p t f).mul Cg.rfl).trans<|Cg.of<|zd _ _ _
def me(p:J)(fs:N (N J)):Cg p (ci<|VX p fs) (prZ<|fs.map ci):=by
 have:=zbH p fs [1];rw[qV,zw]at this;exact this
def zak{p:J}(hp:0<p):∀(fs:N (N J)) {t:N J},Fp p t->Fp p (fs.foldl (xD p) t)
 |[],_,h=>h
 |f::r,t,h=>zak hp r<|qH hp t f
def dV(hp:2<=p)(fs:N (N J)):Fp p (VX p fs):=zak W fs<|VN
theorem zbz{p:J}{M:K}:∀{fs:N (N J)}{t:N J},(∀f∈fs,X f<=M)->X (fs.foldl (xD p) t)<=X t+X fs*M
 |[],_,_=>by simp
 |f::r,t,h=>by
  have h1:=zbz (p:=p) (t:=xD p t f) λg a=>h g<|UV _ a;have b:=jc p t f;show(r.foldl (xD p)<|xD p t f).length<=X t+(X r+1)*M;grind
def cR{fs:N (N J)}(h:∀f∈fs,X f<=M):X (VX p fs)<=1+X fs*M:=zbz h
theorem FZ{l:N (N J)}(h:i<X l):l.getD i []∈l:=by grind
theorem zc6{l:N (N J)}(h:i<X l):l.take (i+1)=l.take i++[l.getD i []]:=by grind [xeL]
def jd{fs:N (N J)}(hp:vF p=wF)(d:∀f∈fs,Fp p f)(a:∀f∈fs,X f<=M)(g:1+X fs*M<=90000)(h:M<=90000)(hc:X fs<=90000:=by lia)(b:3000000<=fu:=by lia):vQ fu fs p=Z (VX p fs):=by
 have⟨j,k⟩:=zz hp;unfold vQ;rw[U (v:=VX p fs)];refine zA (λs:N J×J=>∃i:K,i<=X fs/\s=(VX p<|fs.take i,(i:J))) (λs=>X fs-s.2.toNat) _ ?_ _ _ ⟨0,xai _,O⟩ (by show X fs-0<fu;lia);rintro s L ⟨i,hi,rfl⟩ e;unfold QJ;simp only;by_cases h1:i<X fs
 ·have c:=FZ h1;have hl:=cR (p:=p) (fs:=fs.take i) (M:=M) λf b=>a f<|xel b;have hd:X (fs.take i)*M<=X fs*M:=xan _<|List.length_take_le' ..;have m:=a _ c;rw[zT,zo h1,zf,U<|uk hp (dV W _)<|d _ c];simp only;rw[zb];refine e _ ⟨i+1,W,?_⟩ (by show X fs-((i:J)+1).toNat<X fs-(i:J).toNat;lia);congr 1;unfold VX;rw[zc6 h1,List.foldl_append];rfl
 ·rw[zB,xaQ W]
def jF(p:J)(f g:Pz):Prop:=∃s t:Pz,Fs s/\Fs t/\Cg p (s*f+t*g) (pc 1)
theorem jF.symm{f g:Pz}(h:jF p f g):jF p g f:=by
 have⟨s,t,a,z2,h⟩:=h;refine⟨t,s,z2,a,(Cg.of ?_).trans h⟩;funext k;rw[zK,zK,xfc]
def jF.mul{p:J}{f g h:Pz}(c:Fs g)(d:Fs h)(e:Fs f)(h1:jF p f h)(a:jF p g h):jF p (f*g) h:=by
 have⟨s,t,b,z2,h1⟩:=h1;have⟨u,v,z3,z4,a⟩:=a;refine⟨s*u,s*f*v+t*(u*g+v*h),b.mul z3,((b.mul e).mul z4).add<|z2.mul<|(z3.mul c).add<|z4.mul d,Cg.trans (Cg.of ?_)<|(h1.mul a).trans<|Cg.of<|zw _⟩;simp only[xH,zC,zk];funext k;simp only[zK];lia
def jF.one(p:J)(h:Pz):jF p (pc 1) h:=⟨pc 1,pc 0,Fs.pc 1,Fs.pc 0,Cg.of (by
 rw[zw,yf];funext k;rw[zK,zJ,xbZ])⟩
theorem Fs.prZ:∀{fs:N Pz},(∀f∈fs,Fs f)->Fs (prZ fs)
 |[],_=>Fs.pc 1
 |f::r,a=>(a f<|FS).mul<|Fs.prZ λg b=>a g<|UV _ b
theorem jF.prZ{p:J}{h:Pz}(c:Fs h):∀{fs:N Pz},(∀f∈fs,Fs f)->(∀f∈fs,jF p f h)->jF p (prZ fs) h
 |[],_,_=>jF.one p h
 |f::r,b,d=>jF.mul (Fs.prZ λg a=>b g<|UV _ a) c (b f<|FS) (d f<|FS)<|jF.prZ c (λg a=>b g<|UV _ a) λg a=>d g<|UV _ a
def Mx{g h d s t:N J}{S:K}(a:BzR p g h d s t S)(hl:X d=1)(h1:ci d (X d-1)=1):jF p (ci g) (ci h):=by
 have e:ci d=pc 1:=by
  funext k;unfold pc;by_cases b:k=0
  ·simp_all
  ·rw[ir b,yh W]
 have:=a.cg;rw[e]at this;exact⟨ci s,ci t,Fs.ci s,Fs.ci t,this.symm⟩
structure dj(p:J)(a:N Zr)(fs:N (N J)):Prop where
 a0:a.length≠0
 al:(qx p a).length=a.length
 fl:fs.length<=a.length
 pl:∀i,i<fs.length->(fs.getD i []).length<=a.length/\RK p (fs.getD i [])
 cp:∀i j,i<fs.length->j<i->jF p (ci<|fs.getD i []) (ci<|fs.getD j [])
 pr:xD p (VX p fs) [ci (qx p a)<|a.length-1]=qx p a
def OX{f:N J}{fs:N (N J)}(hp:vF p=wF)(hc:Fp p f)(hd:X f<=290)(hi:i<=X fs)(hl:i<=1000000)(c:∀j,j<i->Fp p (fs.getD j [])/\X (fs.getD j [])<=290)(g:3000000<=fu):
 ∃r,zg (jl fu p f<|fs.take i) fu 0=Z r/\(r=.inl ()->∀j,j<i->jF p (ci f) (ci<|fs.getD j [])):=by
 have y:X (fs.take i)=i:=by rw[xax];lia
 have k:∀j,j<i->(fs.take i).getD j []=fs.getD j []:=λj a=>by rw[H1,xcA,iq a,<-H1]
 refine ya (λx:J=>∃j:K,x=(j:J)/\j<=i/\∀t,t<j->jF p (ci f) (ci<|fs.getD t [])) (λx=>i-x.toNat) _ ?_ _ _ ⟨0,O,xai _,λt h=>wR h<|xbn _⟩ (by show i-0<fu;lia);rintro x L ⟨j,rfl,a,b⟩ m;unfold jl;by_cases h1:j<i
 ·have⟨k1,k2⟩:=c j h1;have⟨d,s,t,e1,n,o⟩:=kY (fu:=fu) hp hc k1 hd k2 g;rw[zT,zY,zf,k j h1];have q:jO fu f (fs.getD j []) p=Z (d,0):=by
   unfold jO;rw[U e1]
  rw[U q];simp only;by_cases u:X d=1
  ·rw[zT,zb];refine m _ ⟨j+1,O,W,λt v=> ?_⟩ W;by_cases w:t=j
   ·rw[w];exact Mx n u<|o.resolve_left W
   ·exact b t W
  ·rw[zB];exact⟨_,O,λe=>wR e gT⟩
 ·rw[zB];exact⟨_,O,λ_ t v=>b t W⟩
def nK{k:K}{a:N Zr}{fs:N (N J)}(hp:vF p=wF)(u:yH k a)(v:k<=40000)(E:X a<=66)(g:3000000<=fu):
 ∃b,vi fu a fs p=Z b/\(b=wF->dj p a fs):=by
 have⟨F,w⟩:=zz hp;unfold vi;rw[U<|uu u v W w];simp only;by_cases h0:X a=0
 ·simp_all
 ·rw[zB];by_cases hl:X (qx p a)=X a
  ·rw[zT];by_cases hv:X a<X fs
   ·simp_all
   ·rw[zB]
    have⟨r,e1,y⟩:=ya (f:=jw fu a fs p) (λx:J×N J=>∃i:K,x=((i:J),qx p a)/\i<=X fs/\(∀t,t<i->X (fs.getD t [])<=X a/\RK p (fs.getD t []))/\∀t j,t<i->j<t->jF p (ci<|fs.getD t []) (ci<|fs.getD j [])) (λx=>X fs-x.1.toNat)
     (λr=>r=.inr ()\/(r=.inl (qx p a)/\(∀t,t<X fs->X (fs.getD t [])<=X a/\RK p (fs.getD t []))/\∀t j,t<X fs->j<t->jF p (ci<|fs.getD t []) (ci<|fs.getD j []))) (by
      rintro x L ⟨i,rfl,hi,g1,m⟩ z;unfold jw;simp only;by_cases h1:i<X fs
      ·rw[zT,U O];simp only[uL];rw[zo h1,zf];by_cases G:X a<X (fs.getD i [])
       ·rw[zT];exact⟨_,O,.inl O⟩
       ·have⟨b,b1,b2⟩:=Ke (fu:=fu) (l:=fs.getD i []) (p:=p) W g;rw[zB,U b1]
        cases b with
        |false=>
         rw[iq gS];exact⟨_,O,.inl O⟩
        |true=>
         have hd:=b2.1 O;rw[ir gS,yR,yV,zf];have⟨q,q1,q2⟩:=OX (fu:=fu) (i:=i) (fs:=fs) hp (hd.fp W) W W W (λj c=>⟨(g1 j c).2.fp W,by have:=(g1 j c).1;lia⟩) g;rw[U q1];obtain q|q:=q
         ·simp only;rw[zb];refine z _ ⟨i+1,O,W,λt d=> ?_,λt j d c=> ?_⟩ (by show X fs-((i:J)+1).toNat<X fs-(i:J).toNat;lia)
          ·by_cases o:t=i
           ·rw[o];exact⟨W,hd⟩
           ·exact g1 t W
          ·by_cases o:t=i
           ·rw[o]at c⊢;exact q2 O j c
           ·exact m t j W c
         ·exact⟨_,O,.inl O⟩
      ·rw[zB,U O];simp only[xak,ut];exact⟨_,O,.inr ⟨O,λt d=>g1 t W,λt j d c=>m t j W c⟩⟩) fu (0,qx p a) ⟨0,O,xai _,λt h=>wR h (xbn _),λt j h=>wR h (xbn _)⟩ (by show X fs-0<fu;lia)
    rw[U e1];obtain rfl|⟨rfl,g1,m⟩:=y
    ·exact⟨_,O,λe=>wR e gS⟩
    ·simp only;have hc:∀{q:N J->Prop},(∀t,t<X fs->q (fs.getD t []))->∀f∈fs,q f:=λ{q} h f g=>by
      obtain⟨j,c,rfl⟩:=xdN.1 g;have:=h j c;rw[H1,xah c]at this;exact this
     have hn:∀f∈fs,Fp p f:=hc λt d=>(g1 t d).2.fp W;have s:∀f∈fs,X f<=66:=hc λt d=>by have:=(g1 t d).1;lia
     have H:X fs*66<=66*66:=xan _ W;have hd:=cR (p:=p) s;have n:=Qe (p:=p) W a;have P:ci (qx p a) (X a-1)≠0:=by
      obtain h|h:=n.nl
      ·lia
      ·rw[hl]at h;exact h
     have Q:=n.nn<|X a-1;have A:=n.lt<|X a-1;have B:(qx p a).drop (X a-1)=[ci (qx p a)<|X a-1]:=by
      rw[xbT W,xcd W];unfold ci;rw[H1,xah W];rfl
     have C:=VN (p:=p) (x:=ci (qx p a)<|X a-1) W A;have D:=jc p (VX p fs) [ci (qx p a)<|X a-1];simp only[xau,xbH]at D;rw[U (jd hp hn s W gS),hl,(W:(X a:J)-1=((X a-1:K):J)),zb,yR,yV,zf,B,U<|uk hp (dV W fs) C W gT];simp only;rw[U<|JX hp (qH W _ _) n W W g];exact⟨_,O,λe=>⟨h0,hl,W,g1,m,Wl e⟩⟩
  ·rw[zB];exact⟨_,O,λe=>wR e gS⟩
end
section
variable{k fu K:wr}{a b x d f g h s:xS Zr}{m:wl}
def Kn(a b:N M):N M:=wk (max (X a) (X b))<|λj=>G a j+G b j
def IU(a b:N M)(k:wr):G (Kn a b) k=G a k+G b k:=jo (λj c=>WJ c) k
def KY(a b:N M):X (Kn a b)<=max (X a) (X b):=by unfold Kn;rw[xw];exact qg _ _
def eZ(c:yH k a)(e:yH k b):yH (k+1) (Kn a b):=yN λj=>(c.bz j).add<|e.bz j
def n9(c:yH k a)(e:yH k b)(i:k+1<=100000)(hc:X a<=1000000)(hd:X b<=1000000)(j:3000000<=fu):vJ fu a b=Z (Kn a b):=dP c e i hc hd j
def Rh:N M:=jI [1]
def zjq:(G Rh:Pz)=pc 1:=by unfold Rh;rw[qc,qV]
def zey:X Rh<=1:=mU [1]
def zf8:Rl [1]:=λk=>by
 rw[qV];unfold pc;split<;>exact⟨gS,gS⟩
def zao:yH 1 Rh:=OI zf8
def dI(f g h:N M)(m:J):N M:=vg (KH f<|yS g h) m
def Ej(x d:N M)(m:J):N M:=E8 (vg x m) d m
def Bh(x d:N M)(m:J):N M:=Wz (vg x m) d m
def puG(f g h s t:N M)(m:J):N M:=vg (Kn g<|Kn (yS t<|dI f g h m)<|yS (Ej (yS s<|dI f g h m) h m) g) m
def Fe(f g h s:N M)(m:J):N M:=vg (Kn h<|Bh (yS s<|dI f g h m) h m) m
def gw(g h s t:N M)(m:J):N M:=vg (KH (Kn (yS s g)<|yS t h) Rh) m
def puS(g h s t:N M)(m:J):N M:=vg (KH s<|Bh (yS s<|gw g h s t m) h m) m
def puT(g h s t:N M)(m:J):N M:=vg (KH t<|Kn (yS t<|gw g h s t m)<|yS (Ej (yS s<|gw g h s t m) h m) g) m
def zhb(c:Bz K m)(h0:0<m):yH K (Ej x d m):=yN λj=>c.emod h0
def zfz(c:Bz K m)(h0:0<m):yH K (Bh x d m):=yN λj=>c.emod h0
theorem zbh(x d:N M)(m:J):X (Ej x d m)<=X x+1:=by grind [E8,Ej,xw,YT,qg]
theorem zaF(x d:N M)(m:J):X (Bh x d m)<=X x:=by grind [Wz,Bh,xw,qg,YT]
def FJ(c:0<X d)(hc:G d (X d-1)=1):X (Bh x d m)<X d:=EE c hc
def zbM(i:2<=m)(hl:0<X h)(h1:G h (X h-1)=1):X (Fe f g h s m)=X h/\G (Fe f g h s m) (X h-1)=1:=by
 have j:=FJ (x:=yS s<|dI f g h m) (m:=m) hl h1;have e:∀k,G (Fe f g h s m) k=(G h k+G (Bh (yS s<|dI f g h m) h m) k)%m:=λk=>by unfold Fe;rw[ud,IU]
 have e1:G (Fe f g h s m) (X h-1)=1:=by
  rw[e,h1,zW (p:=Bh _ _ _) W];exact xaL gS W
 refine⟨xcR (lF (KT _ _) λk c=> ?_)<|xbu λl=> ?_,e1⟩
 ·have:=e k;unfold Fe at this;rw[this,zW c,zW (p:=Bh _ _ _) W,xbZ,xas]
 ·rw[zW W]at e1;cases e1
def fW{W:wr}{t:N M}{m:M}(F:yH K f)(n:yH K g)(u:yH K h)(e:yH K s)(j:yH K t)(lf:X f<=W)(lg:X g<=W)(lh:X h<=W)(ls:X s<=W)(lt:X t<=W)(hW:W<=5000)(hi:1<=K)(hK:K<=1000)(hc:zm m.2)(hd:X m.2<=K)(h2:2<=zv m)(hl:0<X h)(h1:cf h (X h-1)=1)(c:3000000<=fu):
 jr fu [g,h,s,t] f m=Z [puG f g h s t<|zv m,Fe f g h s<|zv m,puS (puG f g h s t<|zv m) (Fe f g h s<|zv m) s t<|zv m,puT (puG f g h s t<|zv m) (Fe f g h s<|zv m) s t<|zv m]:=by
 have l:Bz K (zv m):=(Bz.of hc).mono hd;have o:a8 m:=⟨hc,ge⟩;have h0:0<zv m:=ge
 unfold jr;rw[CJ (i:=0) gS,zf,CJ (i:=1) gS,zf,CJ (i:=2) gS,zf,CJ (i:=3) gS,zf,show[g,h,s,t].getD (Int.toNat 0) []=g from O,show[g,h,s,t].getD (Int.toNat 1) []=h from O,show[g,h,s,t].getD (Int.toNat 2) []=s from O,show[g,h,s,t].getD (Int.toNat 3) []=t from O];have p:=ZO n u;have l1:=qB g h;have L:=Uv f<|yS g h;rw[U<|xX n u ge ge c,U<|uj (k:=K+K+X g) (F.mono ge) p ge ge ge c,U<|Y5 (AU (F.mono ge) p) ge o h0,show vg (KH f<|yS g h) (zv m)=dI f g h (zv m)from O];have v:yH K (dI f g h<|zv m):=aa l h0;have le:X (dI f g h<|zv m)<=W+W:=xal (YT _ _) ge;have w:=ZO e v;have P:=qB s<|dI f g h<|zv m;have D:=zhb (x:=yS s<|dI f g h<|zv m) (d:=h) l h0;have pr:=zfz (x:=yS s<|dI f g h<|zv m) (d:=h) l h0;have lq:=zbh (yS s<|dI f g h<|zv m) h<|zv m;have lr:=zaF (yS s<|dI f g h<|zv m) h<|zv m;rw[U<|xX e v ge ge c,U<|VW w ge u hc hd h0 hl ge ge c,show E8 (vg (yS s<|dI f g h<|zv m)<|zv m) h (zv m)=Ej (yS s<|dI f g h<|zv m) h (zv m)from O,show Wz (vg (yS s<|dI f g h<|zv m)<|zv m) h (zv m)=Bh (yS s<|dI f g h<|zv m) h (zv m)from O];simp only;have q:=ZO j v;have Q:=qB t<|dI f g h<|zv m;have y:=ZO D n;have R:=qB (Ej (yS s<|dI f g h<|zv m) h<|zv m) g;have r:=eZ (k:=K+K+W+W+W+1) (q.mono ge) (y.mono ge);have S:=KY (yS t<|dI f g h<|zv m)<|yS (Ej (yS s<|dI f g h<|zv m) h<|zv m) g;have z:=eZ (k:=K+K+W+W+W+2) (n.mono ge) r;have T:=KY g<|Kn (yS t<|dI f g h<|zv m)<|yS (Ej (yS s<|dI f g h<|zv m) h<|zv m) g;rw[U<|xX j v ge ge c,U<|xX D n ge ge c,U<|n9 (k:=K+K+W+W+W+1) (q.mono ge) (y.mono ge) ge ge ge c,U<|n9 (k:=K+K+W+W+W+2) (n.mono ge) r ge ge ge c,U<|Y5 z ge o h0,show vg (Kn g<|Kn (yS t<|dI f g h<|zv m)<|yS (Ej (yS s<|dI f g h<|zv m) h<|zv m) g) (zv m)=puG f g h s t (zv m)from O];have V:=KY h<|Bh (yS s<|dI f g h<|zv m) h<|zv m;rw[U<|n9 u pr ge ge ge c,U<|Y5 (eZ u pr) ge o h0,show vg (Kn h<|Bh (yS s<|dI f g h<|zv m) h<|zv m) (zv m)=Fe f g h s (zv m)from O];have⟨hj,hk⟩:=zbM (f:=f) (g:=g) (s:=s) h2 hl h1;have B:yH K (puG f g h s t<|zv m):=aa l h0;have E:yH K (Fe f g h s<|zv m):=aa l h0;have lG:X (puG f g h s t<|zv m)<=4*W+1:=xal (YT _ _) ge;clear l1 L P Q R S T V p w q y r z v le D pr lq lr;generalize puG f g h s t (zv m)=G at*
 generalize Fe f g h s (zv m)=H at*
 have p:=ZO e B;have l1:=qB s G;have w:=ZO j E;have L:=qB t H;have q:=eZ (k:=K+K+W) (p.mono ge) (w.mono ge);have P:=KY (yS s G)<|yS t H;have Q:=Uv (Kn (yS s G)<|yS t H) Rh;have R:=zey;rw[U<|xX e B ge ge c,U<|xX j E ge ge c,U<|n9 (k:=K+K+W) (p.mono ge) (w.mono ge) ge ge ge c];rw[U<|E9 zf8 gS c,show jI [1]=Rh from O,U<|uj q (zao.mono ge) ge ge ge c,U<|Y5 (AU q<|zao.mono ge) ge o h0,show vg (KH (Kn (yS s G)<|yS t H) Rh) (zv m)=gw G H s t (zv m)from O];have C:yH K (gw G H s t<|zv m):=aa l h0;have lb:X (gw G H s t<|zv m)<=5*W+2:=xal (YT _ _) ge;have y:=ZO e C;have S:=qB s<|gw G H s t<|zv m;have A:=zhb (x:=yS s<|gw G H s t<|zv m) (d:=H) l h0;have pd:=zfz (x:=yS s<|gw G H s t<|zv m) (d:=H) l h0;have lc:=zbh (yS s<|gw G H s t<|zv m) H<|zv m;have ld:=zaF (yS s<|gw G H s t<|zv m) H<|zv m;have T:=Uv s<|Bh (yS s<|gw G H s t<|zv m) H<|zv m;rw[U<|xX e C ge ge c,U<|VW y ge E hc hd h0 ge ge ge c,show E8 (vg (yS s<|gw G H s t<|zv m)<|zv m) H (zv m)=Ej (yS s<|gw G H s t<|zv m) H (zv m)from O,show Wz (vg (yS s<|gw G H s t<|zv m)<|zv m) H (zv m)=Bh (yS s<|gw G H s t<|zv m) H (zv m)from O];simp only;rw[U<|uj e pd ge ge ge c,U<|Y5 (AU e pd) ge o h0,show vg (KH s<|Bh (yS s<|gw G H s t<|zv m) H<|zv m) (zv m)=puS G H s t (zv m)from O];have r:=ZO j C;have V:=qB t<|gw G H s t<|zv m;have z:=ZO A B;have l9:=qB (Ej (yS s<|gw G H s t<|zv m) H<|zv m) G;have Y:=eZ (k:=K+K+6*W+3) (r.mono ge) (z.mono ge);have a0:=KY (yS t<|gw G H s t<|zv m)<|yS (Ej (yS s<|gw G H s t<|zv m) H<|zv m) G;have a1:=Uv t<|Kn (yS t<|gw G H s t<|zv m)<|yS (Ej (yS s<|gw G H s t<|zv m) H<|zv m) G;rw[U<|xX j C ge ge c,U<|xX A B ge ge c,U<|n9 (k:=K+K+6*W+3) (r.mono ge) (z.mono ge) ge ge ge c,U<|uj (j.mono ge) Y ge ge ge c,U<|Y5 (AU (j.mono ge) Y) ge o h0,show vg (KH t<|Kn (yS t<|gw G H s t<|zv m)<|yS (Ej (yS s<|gw G H s t<|zv m) H<|zv m) G) (zv m)=puT G H s t (zv m)from O]
end
section
variable{x d f g h s t:xS Zr}{m:wl}
def Xa(a:N M)(m:J):Cg m (G<|vg a m) (G a):=λk=>by rw[ud,xaT]
def Hx(a b:N M):(G (KH a b):Pz)=G a-G b:=qR λk=>IK a b k
def iw(a b:N M):(G (Kn a b):Pz)=G a+G b:=qR λk=>IU a b k
def zep(b:0<X d)(hc:G d (X d-1)=1):Cg m (G x) ((G (Ej x d m):Pz)*G d+G (Bh x d m)):=by
 intro k;unfold Ej Bh;rw[zK,<-vZ,lD W b hc,xec,xaT,<-xec];have c:=ud x m k;generalize vg x m=r at*
 have⟨qn,a⟩:∃qn,qn=X r+1-X d:=⟨_,O⟩;have hd:∀j,j<qn->G (E8 r d m) j=TA r d m qn j:=λj i=>by
  rw[zas];unfold dvQ TA;simp_all
 have e:X (E8 r d m)<=qn:=by unfold E8;rw[xw,<-a];exact qg _ _
 have h:=zaQ hd k qn<|Nm _;rw[Bn,PS e]at h;rw[Mg,<-a,xfc,<-h,c,xaT]
def dR{n x:J}(hn:n∣m)(a:n∣x):n∣x%m:=by
 rw[Int.emod_def];exact xdw a<|xbp hn<|xcc _ _
def Br{r d:N M}{n m:J}{qn:K}(hn:n∣m)(a:∀k,n∣G r k):∀s k,n∣dvF r d m qn s k
 |0,k=>a k
 |s+1,k=>xdw (Br hn a s k)<|xbp (dR hn<|Br hn a s _)<|xcc _ _
def zgV{n:J}(hn:n∣m)(b:Cg n (G x) (pc 0))(c:0<X d)(hc:G d (X d-1)=1):Cg n (G<|Ej x d m) (pc 0)/\Cg n (G<|Bh x d m) (pc 0):=by
 have a:∀k,n∣G (vg x m) k:=λk=>by rw[ud];exact dR hn<|b.dvd k
 refine⟨Cg.of_dvd λk=> ?_,Cg.of_dvd λk=> ?_⟩
 ·unfold Ej;rw[zas];refine dR hn ?_;unfold dvQ;split
  ·exact dR hn<|Br hn a _ _
  ·simp_all
 ·unfold Bh;rw[lD W c hc];exact dR hn<|Br hn a _ _
def zl9{n:J}(c:m∣n*n)(hn:n∣m)(h1:Cg n (G f) ((G g:Pz)*G h))(e:Cg n ((G s:Pz)*G g+(G t:Pz)*G h) (pc 1))(a:0<X h)(hc:G h (X h-1)=1):
 Cg m (G f) ((G (puG f g h s t m):Pz)*G (Fe f g h s m))/\Cg n (G<|puG f g h s t m) (G g)/\Cg n (G<|Fe f g h s m) (G h):=by
 have b:Cg m (G<|dI f g h m) ((G f:Pz)-(G g:Pz)*G h):=by
  refine(Xa _ _).trans<|Cg.of ?_;rw[Hx,vZ]
 have i:Cg n (G<|dI f g h m) (pc 0):=(b.down hn).trans<|Cg.iff_sub.1 h1;have hd:Cg m ((G s:Pz)*G (dI f g h m)) ((G (Ej (yS s<|dI f g h m) h m):Pz)*G h+G (Bh (yS s<|dI f g h m) h m)):=by
  rw[<-vZ];exact zep a hc
 have⟨j,z2⟩:=zgV (x:=yS s<|dI f g h m) (d:=h) hn (by rw[vZ];exact i.mul_zero_l _) a hc;refine zgk c hn (q:=G<|Ej (yS s<|dI f g h m) h m) (r:=G<|Bh (yS s<|dI f g h m) h m) h1 e b hd j z2 ?_ ?_
 ·refine(Xa _ _).trans<|Cg.of ?_;rw[iw,iw,vZ,vZ]
 ·refine(Xa _ _).trans<|Cg.of ?_;rw[iw]
def zlV{n:J}(a:m∣n*n)(hn:n∣m)(b:Cg n ((G s:Pz)*G g+(G t:Pz)*G h) (pc 1))(c:0<X h)(hc:G h (X h-1)=1):
 Cg m ((G (puS g h s t m):Pz)*G g+(G (puT g h s t m):Pz)*G h) (pc 1):=by
 have e:Cg m (G<|gw g h s t m) ((G s:Pz)*G g+(G t:Pz)*G h-pc 1):=by
  refine(Xa _ _).trans<|Cg.of ?_;rw[Hx,iw,vZ,vZ,zjq]
 have hd:Cg m ((G s:Pz)*G (gw g h s t m)) ((G (Ej (yS s<|gw g h s t m) h m):Pz)*G h+G (Bh (yS s<|gw g h s t m) h m)):=by
  rw[<-vZ];exact zep c hc
 refine zdO a hn b e hd ?_ ?_
 ·refine(Xa _ _).trans<|Cg.of ?_;rw[Hx]
 ·refine(Xa _ _).trans<|Cg.of ?_;rw[Hx,iw,vZ,vZ]
def zaT{a b:N M}(e:0<X a)(hc:0<X b)(c:G b (X b-1)=1):((G a:Pz)*G b) (X a-1+(X b-1))=G a (X a-1):=by
 rw[wM,wG (i:=X a-1) λi hi=> ?_,zT,(W:X a-1+(X b-1)-(X a-1)=X b-1),c,xcZ];by_cases h:i<X a-1
 ·rw[zW (p:=b) W,xaz]
 ·rw[zW W,xba]
theorem zbJ(r:2<=m)(c:vg g m=g)(e:vg f m=f)(u:0<X f)(hl:0<X h)(hn:G h (X h-1)=1)(hc:Cg m (G f) ((G g:Pz)*G h)):
 X f=X g+(X h-1)/\0<X g/\G g (X g-1)=G f (X f-1):=by
 have l:=KT g m;have a:=KT f m;rw[c]at l;rw[e]at a;have q:∀k,G g k%m=G g k:=λk=>by rw[<-ud,c]
 have hd:∀k,G f k%m=G f k:=λk=>by rw[<-ud,e]
 have hp:=YX a W;have g0:0<X g:=by
  refine xco λh0=>hp ?_;rw[<-hd,hc,wM,yT λi hi=>by rw[zW (p:=g) W,xba],xas]
 have v:=YX l W;have o:=hc<|X g-1+(X h-1);rw[zaT g0 hl hn,hd,q]at o;have e1:X f=X g+(X h-1):=by
  refine xcR (lF a λk w=> ?_)<|xbu λy=> ?_
  ·rw[<-hd,hc,kL (n:=X g) (m:=X h) (λj b=>zW b)<|λj b=>zW b,xas]
  ·rw[zW (p:=f) W]at o;lia
 grind
end
section
variable{r0 r1 a b K fu:wr}{u0 u1 v0 v1:wl}
structure ZbI(a b:wr)(r0 r1:wr)(u0 v0 u1 v1:J):Prop where
 p0:0<r0
 le0:r0<=max a b
 le1:r1<=max a b
 e0:u0*a+v0*b=r0
 e1:u1*a+v1*b=r1
 g:xdq r0 r1=xdq a b
 su:∃x y:wr,((u0=x/\u1= -y)\/(u0= -x/\u1=y))/\r0*y+r1*x=b
 sv:∃x y:wr,((v0=x/\v1= -y)\/(v0= -x/\v1=y))/\r0*y+r1*x=a
 bu0:u0.natAbs<=b
 bu1:u1.natAbs<=b
 bv0:v0.natAbs<=a
 bv1:v1.natAbs<=a
def Rq{c:wr}(i:0<r1)(h:∃x y:wr,((u0=x/\u1= -y)\/(u0= -x/\u1=y))/\r0*y+r1*x=c):
 (∃x y:wr,((u1=x/\u0-((r0/r1:wr):J)*u1= -y)\/(u1= -x/\u0-((r0/r1:wr):J)*u1=y))/\r1*y+r0%r1*x=c)/\(u0-((r0/r1:wr):J)*u1).natAbs<=c:=by
 have⟨x,y,g,j⟩:=h;have hc:=xbt r0 r1;generalize r0/r1=q at*
 generalize r0%r1=r2 at*
 have e1:r1*(x+q*y)+r2*y=c:=by
  rw[xbk,<-xaP];have:r0*y=r1*q*y+r2*y:=by rw[<-xbb,hc]
  lia
 have k:x+q*y<=c:=by
  have l:1*(x+q*y)<=r1*(x+q*y):=xan _ W;lia
 have f:((q*y:wr):J)=(q:J)*(y:J):=gT
 rcases g with⟨d,e⟩|⟨d,e⟩
 ·rw[d,e,Int.mul_neg,<-f];exact⟨⟨y,x+q*y,.inr ⟨O,W⟩,e1⟩,W⟩
 ·rw[d,e,<-f];exact⟨⟨y,x+q*y,.inl ⟨O,W⟩,e1⟩,W⟩
theorem ZbI.step(h:ZbI a b r0 r1 u0 v0 u1 v1)(c:0<r1):ZbI a b r1 (r0%r1) u1 v1 (u0-((r0/r1:wr):J)*u1) (v0-((r0/r1:wr):J)*v1):=by
 have⟨d,e⟩:=Rq c h.su;have⟨t1,t2⟩:=Rq c h.sv;have hd:=xbt r0 r1;have i:=xaS r0 c;have f:=h.le1;refine⟨c,f,W,h.e1,?_,?_,d,t1,h.bu1,e,h.bv1,t2⟩
 ·have e0:=h.e0;have e1:=h.e1;have hc:(r0:J)=(r1:J)*((r0/r1:wr):J)+((r0%r1:wr):J):=W
  grind
 ·rw[<-h.g,xdF r1,<-Nat.gcd_rec,xdF]
theorem Bz.nat{n:wr}(h:n<18446744073709551616^K):Bz K (n:J):=by unfold Bz;exact h
def fX{q x0 e z0 f g h:J}(c:Bz K q)(h1:Bz K x0)(l:Bz K e)(m:Bz K z0)(i:Bz K f)(j:Bz K g)(k:Bz K h)(n:K<=10000)(d:3000000<=fu):
 Zm fu (yp x0,(yp e,yp z0)) (yp q) (yp f,(yp g,yp h))=Z (yp<|x0-q*f,(yp<|e-q*g,yp<|z0-q*h)):=by
 unfold Zm;have b1:=c.mul i;have b2:=c.mul j;have b3:=c.mul k;rw[U<|yv (c.ok W) (i.ok W) d,zn,zn,U<|qO (h1.ok W) (b1.ok W) d,zn,zn,U<|yv (c.ok W) (j.ok W) d,zn,zn,U<|qO (l.ok W) (b2.ok W) d,zn,zn,U<|yv (c.ok W) (k.ok W) d,zn,zn,U<|qO (m.ok W) (b3.ok W) d,zn,zn]
def LP(h:r1<=r0:=by lia)(c:0<r1:=by lia):bl (r0%r1)<bl r0:=by
 have f:=xbt r0 r1;have hc:=xaS r0 c;have d:1<=r0/r1:=(xcD c).2 W;have h1:r1*1<=r1*(r0/r1):=xaD _ d;have g:=B7 r0;have hp:1<=bl r0:=by rw[de];lia
 have e:2^bl r0=2*2^(bl r0-1):=by rw[<-xdO,(W:(bl r0-1).succ=bl r0)]
 have:=JD (n:=r0%r1) (k:=bl r0-1) W;lia
def zc5(q:a<18446744073709551616^K)(t:b<18446744073709551616^K)(w:K<=1000)(f:3000000<=fu)(c:ZbI a b r0 r1 u0 v0 u1 v1):
 ∃r,zg (VM fu) fu ((yp r0,(yp u0,yp v0)),(yp r1,(yp u1,yp v1)))=Z r/\∃u v:J,r=(yp (xdq a b:wr),(yp u,yp v))/\u*a+v*b=(xdq a b:wr)/\u.natAbs<=b/\v.natAbs<=a:=by
 have hc:∀{n:wr},n<=max a b->bl n<=64*K:=λ{n} hn=>JD (by
  rw[xcz,Gf];lia)
 refine ya (λs:(M×(M×M))×(M×(M×M))=>∃(r0 r1:wr) (u0 v0 u1 v1:J),s=((yp r0,(yp u0,yp v0)),(yp r1,(yp u1,yp v1)))/\ZbI a b r0 r1 u0 v0 u1 v1) (λs=>bl (zv s.1.1).natAbs+bl (zv s.2.1).natAbs+if(zv s.1.1).natAbs<(zv s.2.1).natAbs then 1 else 0) _ ?_ _ _ ⟨r0,r1,u0,v0,u1,v1,O,c⟩ ?_
 ·rintro s L ⟨r0,r1,u0,v0,u1,v1,rfl,c⟩ k;have d:∀x:J,x.natAbs<=max a b->Bz K x:=λx y=>by unfold Bz;lia
  have z0:Bz K (r0:J):=d _ (by have:=c.le0;lia);have h:Bz K (r1:J):=d _ (by have:=c.le1;lia);unfold VM;simp only;rw[U<|xn (h.ok W) f,zn];by_cases h0:r1=0
  ·rw[iq<|xi.2 W];have i:=c.g;rw[h0,Nat.gcd_zero_right]at i;exact⟨_,O,u0,v0,by rw[i],by rw[c.e0,i],c.bu0,c.bv0⟩
  ·rw[ir<|λe=>h0 (by have:=xi.1 e;lia),U<|KK (z0.okS W) (h.okS W) f,zn,zn];unfold Lj;rw[zB];simp only;have l:((r0:J)/(r1:J))=((r0/r1:wr):J):=O;have m:Bz K ((r0/r1:wr):J):=Bz.nat (by
    have h1:=xcp r0 r1;have j:=c.le0;lia)
   have o:=c.step W;have hd:=xbt r0 r1;have p:(r0:J)-((r0/r1:wr):J)*(r1:J)=((r0%r1:wr):J):=by
    have:(r0:J)=((r1*(r0/r1)+r0%r1:wr):J):=by rw[hd]
    conv=>lhs;rw[this]
    rw[hd];have j:(r0:J)=(r1:J)*((r0/r1:wr):J)+((r0%r1:wr):J):=by rw[this];simp
    rw[xbw];lia
   rw[l,U<|fX m z0 (d _ (by have:=c.bu0;lia)) (d _ (by have:=c.bv0;lia)) h (d _ (by have:=c.bu1;lia)) (d _ (by have:=c.bv1;lia)) W f,p];refine k _ ⟨_,_,_,_,_,_,O,o⟩ ?_;simp only[zn,xbh];have z:=xaS r0 (W:0<r1);rw[zB];by_cases hi:r0<r1
   ·rw[iq hi,xam hi];lia
   ·have:=LP (r0:=r0) (r1:=r1);lia
 ·simp only[zn,xbh];have h1:=hc c.le0;have j:=hc c.le1;split<;>lia
theorem rb{x y:M}(d:zm x.2)(f:zm y.2)(hc:X x.2<=K)(hd:X y.2<=K)(h:zv x=(a:J))(i:zv y=(b:J))(j:0<a)(o:0<b)(k:K<=1000)(c:3000000<=fu):
 ∃u v:J,Wc fu x y=Z (yp (xdq a b:wr),yp u,yp v)/\u*a+v*b=(xdq a b:wr)/\u.natAbs<=b/\v.natAbs<=a:=by
 have g:nv x.2=a:=by have:=vO x;lia
 have nb:nv y.2=b:=by have:=vO y;lia
 have l:a<18446744073709551616^K:=by rw[<-g];exact xao (vH d)<|xav gS hc
 have m:b<18446744073709551616^K:=by rw[<-nb];exact xao (vH f)<|xav gS hd
 have n:ZbI a b a b 1 0 0 1:=by refine⟨j,xeo _ _,xdY _ _,W,W,O,⟨1,0,.inl ⟨O,O⟩,W⟩,⟨0,1,.inr ⟨O,O⟩,W⟩,W,W,W,W⟩
 obtain⟨r,e1,u,v,rfl,p,q,s⟩:=zc5 (fu:=fu) l m k c n;unfold Wc;rw[U (yD d W W),U<|ym gS c,U<|ym gS c,U (yD f W W),U<|ym gS c,U<|ym gS c,ir gS,ir gS,g,nb,U e1];simp only;rw[U<|xn ⟨d,W⟩ c,ir (λe=>by rw[h,vo W]at e;exact wR e gS),U O,U<|xn ⟨f,W⟩ c,ir (λe=>by rw[i,vo W]at e;exact wR e gS),U O];grind
end
section
variable{p m:wl}{d:xS wl}{k K:wr}{f:xS Zr}
def Oz{x:Pz}(hp:2<=p)(g:Fs x)(s:0<i0 d)(hd:ci d (i0 d-1)=1)(h:Cg p (x*ci d) (pc 1)):i0 d=1:=by
 have⟨n,hn⟩:=g;have⟨X,b⟩:∃X,X=nl n (λk=>x k%p):=⟨_,O⟩;have a:∀k,ci X k=x k%p:=λk=>by
  rw[b];exact Dn (λj o=>by rw[hn j o,xas]) k
 have q:Nl X:=by rw[b];exact sZ _ _
 have c:Cg p (ci X*ci d) (pc 1):=(Cg.mul (λk=>by rw[a,xaT]) Cg.rfl).trans h;obtain h0|h0:=q
 ·have h1:=c 0;rw[wM,yT λi hi=>by rw[yh (l:=X) W,xba]]at h1;unfold pc at h1;rw[iq O,xas,xaL gS W]at h1;cases h1
 ·have t:0<i0 X:=xco λe=>h0 (yh W);have r:(ci X*ci d) (i0 X-1+(i0 d-1))=ci X (i0 X-1):=by
   rw[wM,wG (i:=i0 X-1) λi hi=> ?_,zT,(W:i0 X-1+(i0 d-1)-(i0 X-1)=i0 d-1),hd,xcZ];by_cases hc:i<i0 X-1
   ·rw[yh (l:=d) W,xaz]
   ·rw[yh (l:=X) W,xba]
  have h1:=c<|i0 X-1+(i0 d-1);rw[r,a,xaT,<-a]at h1;refine Decidable.byContradiction λhl=> ?_;unfold pc at h1;rw[zB,xas]at h1;exact h0 h1
def zh8{g h s t:N J}{S:wr}(hp:2<=p)(a:BzR p g h d s t S)(hd:X d=0\/ci d (X d-1)=1)(hc:jF p (ci g) (ci h)):Cg p (ci s*ci g+ci t*ci h) (pc 1):=by
 have⟨A,C,c,z2,d1,d2⟩:=a.dv;have⟨u,v,z3,z4,hc⟩:=hc;have b:Cg p ((u*A+v*C)*ci d) (pc 1):=by
  refine Cg.trans (Cg.of ?_)<|(((Cg.rfl (f:=u)).mul d1.symm).add<|(Cg.rfl (f:=v)).mul d2.symm).trans hc;rw[yF,zd,zd]
 have j:0<X d:=by
  refine xco λe=> ?_;have h1:=b 0;rw[wM,yT λi hi=>by rw[yh (l:=d) W,xaz]]at h1;unfold pc at h1;rw[xas,xaL gS W]at h1;cases h1
 have n:=hd.resolve_left W;have hl:=Oz hp ((z3.mul c).add<|z4.mul z2) j n b;have e:ci d=pc 1:=by
  funext k;unfold pc;by_cases o:k=0
  ·simp_all
  ·rw[ir o,yh W]
 have:=a.cg;rw[e]at this;exact this.symm
def XW(hp:vF p=wF):jx p.toNat:=by
 refine xae λh=> ?_;rw[GB<|λe=>h e.2.2]at hp;simp_all
def ziA{P N:wr}(h1:1<=P)(b:P<=65521)(a:k<=4*N)(c:0<N):P^k<18446744073709551616^N:=by
 rw[(gS:18446744073709551616=65536^4),<-xcz];exact xaK (xav W a)<|Nat.pow_lt_pow_left W W
def sC(hp:vF p=wF)(a:k<=1000:=by lia):Bz 250 (p^k):=by
 have⟨b,c⟩:=zz hp;obtain⟨P,rfl⟩:=xaA (W:0<=p);exact ziA W W a gS
theorem im(hp:vF p=wF)(a:1<=k:=by lia):2<=p^k:=by
 have⟨b,c⟩:=zz hp;obtain⟨P,rfl⟩:=xaA (W:0<=p);have h1:P^1<=P^k:=xav W a;grind
def eF{i j:wr}(h:i<=j:=by lia):p^i∣p^j:=⟨p^(j-i),by rw[<-Int.pow_add,(W:i+(j-i)=j)]⟩
def zh7{c:J}(hp:vF p=wF)(hc:c%p≠0)(a:0<=c):xdq c.toNat (p^k).toNat=1:=by
 have⟨g,h⟩:=zz hp;have hd:=XW hp;obtain⟨P,rfl⟩:=xaA (W:0<=p);obtain⟨C,rfl⟩:=xaA a;have b:=xaS C (W:0<P);have h1:=Uf W hd W b;have e:xdq C P=1:=by rw[xdF,Nat.gcd_rec,xdF];exact h1
 exact Nat.Coprime.pow_right k e
structure Rd(K:wr)(m:J)(f:N M):Prop where
 ok:yH K f
 rd:vg f m=f
def Rd.mod(h:Rd K m f)(k:wr):G f k%m=G f k:=by rw[<-ud,h.rd]
def Rd.can(h:Rd K m f):f=wk (X f) (G f):=by have:=KT f m;rw[h.rd]at this;exact this
def fH(b:Bz K m)(h0:0<m)(a:N M):Rd K m (vg a m):=⟨aa b h0,DW λk=>by rw[ud,xaT]⟩
def Aw{fu:wr}(hp:vF p=wF)(D:1<=k)(E:k<=1000)(g:Rd 250 (p^k) f)(P:0<X f)(Q:X f<=1000)(hd:G f (X f-1)%p≠0)(q:3000000<=fu):
 ∃w u,Ql fu f (yp<|p^k)=Z w/\Rd 250 (p^k) w/\X w=X f/\G w (X w-1)=1/\(u*G f (X f-1))%p^k=1/\Cg (p^k) (G w) (pc u*G f):=by
 have h:=sC hp E;have F:=im hp D;have⟨m,H⟩:∃m,m=p^k:=⟨_,O⟩;have n:=zh7 (k:=k) hp hd (by
  rw[<-g.mod];exact xcT _ W)
 rw[<-H]at h F g n⊢;have⟨c,hc⟩:∃c,c=G f (X f-1):=⟨_,O⟩;have r:=xe (a:=c) (p:=m);have s:=g.mod<|X f-1;rw[<-hc]at s hd n⊢;rw[s]at r;have R:c≠0:=λe=>hd (by rw[e,xas]);have S:Bz 250 c:=h.le W;have t:=g.ok.get<|X f-1;have⟨u,v,e1,z,T,V⟩:=rb (fu:=fu) (K:=250) (a:=c.toNat) (b:=m.toNat) (x:=f.getD (X f-1) (I,[])) (y:=yp m) t.1 (yG _) t.2 h.len (by rw[Z8,<-hc];lia) (by rw[zn];lia) W W gS q;rw[n]at z;have A:Bz 250 u:=h.le W;have B:(u*c)%m=1:=by
  have:u*c=1+m*(-v):=by
   rw[xdj r.1,xdj (W:0<=m)]at z;rw[Int.mul_neg,xbw m v];lia
  rw[this,Int.add_mul_emod_self_left];exact xaL gS W
 have L:a8 (yp m):=h.okS gS;have⟨sc,hl⟩:∃sc,sc=wk (X f) (λj=>G f j*u):=⟨_,O⟩;have hv:yH (250+250) sc:=by rw[hl];exact yN λj=>(g.ok.bz j).mul A
 have Y:X sc<=X f:=by rw[hl,xw];exact qg _ _
 have M:∀j,G sc j=G f j*u:=λj=>by rw[hl];exact jo (λi hi=>XI hi) j
 have hn:∀j,G (vg sc m) j=G f j*u%m:=λj=>by rw[ud,M]
 have o:G (vg sc m) (X f-1)=1:=by rw[hn,<-hc,xbw,B]
 have C:X (vg sc m)=X f:=by
  refine xcR (lF (KT _ _) λj N=> ?_)<|xbu λhH=> ?_
  ·rw[hn,zW N,xba,xas]
  ·rw[zW W]at o;cases o
 refine⟨vg sc m,u,?_,fH h W _,C,by rw[C];exact o,B,λj=> ?_⟩
 ·unfold Ql;rw[(W:(X f:J)-1=((X f-1:wr):J)),zb,zY,zf,U e1];simp only;rw[U<|jy (l:=250) g.ok ⟨yG _,A.len⟩ gS W q,zn,<-hl,U (Y5 hv gS L<|by rw[zn];lia),zn]
 ·rw[hn,zP,xaT,xbw]
end
section
variable{G H S f g0 h0:xS Zr}{p:wl}{i k lh LS j fu:wr}
structure TrI(p:J)(k:K)(f g0 h0:N M)(lh LS i:K)(G H S T:N M):Prop where
 i1:1<=i
 ik:i<=k
 rG:Rd 250 (p^i) G
 rH:Rd 250 (p^i) H
 rS:Rd 250 (p^i) S
 rT:Rd 250 (p^i) T
 hl:H.length=lh
 h1:cf H (lh-1)=1
 fac:Cg (p^i) (cf f) ((cf G:Pz)*cf H)
 bez:Cg (p^i) ((cf S:Pz)*cf G+(cf T:Pz)*cf H) (pc 1)
 gp:Cg p (cf G) (cf g0)
 hp:Cg p (cf H) (cf h0)
 sl:S.length<=LS
def zhV{m:J}{T:N M}{K:wr}(d:2<=m)(b:Rd K m T)(hl:0<X H)(h1:cf H (X H-1)=1)(c:Cg m ((cf S:Pz)*cf G+(cf T:Pz)*cf H) (pc 1)):X T<=X S+X G+1:=by
 refine xbu λe=> ?_;have g:=YX b.can W;have hp:=c<|X T-1+(X H-1);rw[zK,zaT W hl h1,kL (λj a=>zW a)<|λj a=>zW a,xcE,b.mod]at hp;unfold pc at hp;rw[zB,xas]at hp;lia
theorem HP{k:K}(hi:1<=i)(a:cf f (X f-1)%p≠0)(hc:0<X f):X (vg f<|p^i)=X f:=by
 refine xcR (YT _ _)<|xbu λb=>a ?_;have h:cf (vg f<|p^i) (X f-1)=0:=zW W;rw[ud]at h;have hd:p∣p^i:=by
  have:=eF (p:=p) hi;grind
 rw[<-xcL _ hd,h,xas]
def TrI.lens{T:N M}(h:TrI p k f g0 h0 lh LS i G H S T)(hp:vF p=wF)(a:cf f (X f-1)%p≠0)(hd:0<X f)(d:0<lh):
 X f=X G+(lh-1)/\0<X G/\cf G (X G-1)=cf f (X f-1)%p^i/\X T<=LS+X G+1:=by
 have hc:=im hp h.i1;have hl:=h.hl;have h1:=h.h1;rw[<-hl]at h1;have b:=HP (k:=k) h.i1 a hd;have⟨e1,e,c⟩:=zbJ hc h.rG.rd (DW λj=>by rw[ud,xaT]) W W h1<|(Xa _ _).trans h.fac;have g:=zhV hc h.rT W h1 h.bez;have:=h.sl;rw[b,ud]at c;lia
def zja(h:j<=i+i):p^j∣p^i*p^i:=by rw[<-Int.pow_add];exact eF h
theorem km(h:1<=i:=by lia):p∣p^i:=by
 have:=eF (p:=p) h;grind
def TrI.step{T:N M}(h:TrI p k f g0 h0 lh LS i G H S T)(hp:vF p=wF)(w:k<=1000)(hi:yH 250 f)(hd:cf f (X f-1)%p≠0)(q:0<X f)(hn:0<lh)(y:i<k)(z:X f<=300)(A:LS<=4500)(hv:lh<=LS)(r:3000000<=fu):
 ∃b c e l,jr fu [G,H,S,T] f (yp<|p^min (2*i) k)=Z [b,c,e,l]/\TrI p k f g0 h0 lh LS (min (2*i) k) b c e l:=by
 have⟨j,t⟩:∃j,j=min (2*i) k:=⟨_,O⟩;have u:=h.i1;have⟨l1,B,C,D⟩:=h.lens hp hd q hn;have a:=sC hp (k:=j);have n:=im hp (k:=j);have hl:=h.hl;have h1:=h.h1;have E:=h.sl;rw[<-hl]at h1;have o:=fW (fu:=fu) (K:=250) (W:=5000) hi h.rG.ok h.rH.ok h.rS.ok h.rT.ok ge ge ge ge ge (Nm _) gS gS (yG<|p^j) a.len (by rw[zn];exact n) ge h1 r;rw[zn]at o;rw[<-t];refine⟨_,_,_,_,o,?_⟩;have d1:p^j∣p^i*p^i:=zja ge;have d2:p^i∣p^j:=eF;have d3:p∣p^i:=km u;have⟨f1,f2,f3⟩:=zl9 d1 d2 h.fac h.bez ge h1;have⟨t1,t2⟩:=zbM (f:=f) (g:=G) (s:=S) n ge h1;have hc:Cg (p^i) ((cf S:Pz)*cf (puG f G H S T<|p^j)+(cf T:Pz)*cf (Fe f G H S<|p^j)) (pc 1):=((Cg.rfl.mul f2).add<|Cg.rfl.mul f3).trans h.bez;have v:=zlV d1 d2 hc ge (by rw[t1];exact t2);have F:=FJ (x:=yS S<|gw (puG f G H S T<|p^j) (Fe f G H S<|p^j) S T<|p^j) (d:=Fe f G H S<|p^j) (m:=p^j) ge (by rw[t1];exact t2);refine⟨ge,ge,fH a ge _,fH a ge _,fH a ge _,fH a ge _,ge,by rw[hl]at t2;exact t2,f1,v,(f2.down d3).trans h.gp,(f3.down d3).trans h.hp,?_⟩;have e1:=YT (KH S<|Bh (yS S<|gw (puG f G H S T<|p^j) (Fe f G H S<|p^j) S T<|p^j) (Fe f G H S<|p^j)<|p^j)<|p^j;have J:=Uv S<|Bh (yS S<|gw (puG f G H S T<|p^j) (Fe f G H S<|p^j) S T<|p^j) (Fe f G H S<|p^j)<|p^j;show(vg _ _).length<=LS;lia
theorem zfS(hp:vF p=wF)(h1:1<=j)(a:j<=1000)(b:3000000<fu):v7 fu p (j:J)=Z (yp<|p^j,0):=by grind [oH,k9]
def zdd{T:N M}(h:TrI p k f g0 h0 lh LS 1 G H S T)(hp:vF p=wF)(g:k<=1000)(hc:yH 250 f)(l:cf f (X f-1)%p≠0)(hd:0<X f)(m:0<lh)(n:X f<=300)(hi:LS<=4500)(o:lh<=LS)(q:3000000<fu):
 ∃a b c d,zg (ZQ fu f p (k:J)) fu (1,[G,H,S,T])=Z [a,b,c,d]/\TrI p k f g0 h0 lh LS k a b c d:=by
 obtain⟨r,e1,a,b,c,d,rfl,e⟩:=ya (f:=ZQ fu f p (k:J)) (λs:J×N (N M)=>∃(i:K) (G H S T:N M),s=((i:J),[G,H,S,T])/\TrI p k f g0 h0 lh LS i G H S T) (λs=>k-s.1.toNat) (λr=>∃G H S T,r=[G,H,S,T]/\TrI p k f g0 h0 lh LS k G H S T) (by
  rintro s L ⟨i,G,H,S,T,rfl,h⟩ t;unfold ZQ;simp only;have hl:=h.i1;have w:=h.ik;by_cases u:i<k
  ·have⟨a,b,c,d,e1,e⟩:=h.step (fu:=fu) hp g hc l hd m u n hi o W;have v:min (2*(i:J)) (k:J)=((min (2*i) k:K):J):=W
   rw[zT,zb,zf,v,U<|zfS hp W W q];simp only;rw[U e1];exact t _ ⟨_,_,_,_,_,O,e⟩ (by show k-((min (2*i) k:K):J).toNat<k-(i:J).toNat;lia)
  ·rw[zB];obtain rfl:i=k:=W
   exact⟨_,O,_,_,_,_,O,h⟩) fu (1,[G,H,S,T]) ⟨1,_,_,_,_,O,h⟩ (by show k-1<fu;lia)
 exact⟨_,_,_,_,e1,e⟩
end
section
variable{p:wl}{l:xS wl}{g:Pz}
def zfk{a b:N J}(hp:2<=p)(f:0<X a)(hd:ci a (X a-1)=1)(h:0<X b)(d:ci b (X b-1)=1):X (xD p a b)=X a+X b-1/\ci (xD p a b) (X a+X b-1-1)=1:=by
 have e:(ci a*ci b) (X a-1+(X b-1))=1:=by
  rw[wM,wG (i:=X a-1) λi hi=> ?_,zT,(W:X a-1+(X b-1)-(X a-1)=X b-1),d,hd]
  ·rfl
  ·by_cases hc:i<X a-1
   ·rw[yh (l:=b) W,xaz]
   ·rw[yh (l:=a) W,xba]
 have h1:ci (xD p a b) (X a+X b-1-1)=1:=by
  rw[UH,(W:X a+X b-1-1=X a-1+(X b-1)),e];exact xaL gS W
 refine⟨xcR ((qH W a b).nl.le λk o=> ?_)<|xbu λq=> ?_,h1⟩
 ·rw[UH,kL (n:=X a) (m:=X b) (λj c=>yh c)<|λj c=>yh c,xas]
 ·rw[yh W]at h1;cases h1
def Ot{p:J}(hp:2<=p):∀(fs:N (N J)) {t:N J},0<X t->ci t (X t-1)=1->(∀f∈fs,RK p f)->0<X (fs.foldl (xD p) t)/\ci (fs.foldl (xD p) t) (X (fs.foldl (xD p) t)-1)=1
 |[],_,h0,h1,_=>⟨h0,h1⟩
 |f::r,t,h0,h1,h=>by
  have a:=h f<|FS;have⟨e1,b⟩:=zfk hp h0 h1 (show 0<X f by have:=a.2.1;lia) a.2.2;have:=a.2.1;exact Ot hp r W (by rw[e1];exact b) λg c=>h g<|UV _ c
def zde(hp:2<=p){fs:N (N J)}(h:∀f∈fs,RK p f):0<X (VX p fs)/\ci (VX p fs) (X (VX p fs)-1)=1:=Ot hp fs gS O h
def Hn(h:Nl l):X (jI l)=X l:=by
 unfold jI;rw[xw];exact J5 (Nm _) (λk h1 a=>by lia)<|h.imp id id
def mo(h:Fp p l)(a:p<=65521):Rd 250 (p^1) (jI l):=by
 refine⟨(OI<|h.rl a).mono gS,?_⟩;rw[xbY,xcl,xcY];unfold vg;rw[show(λj=>G (jI l) j%p)=G (jI l)from qR λj=>by rw[qc,h.mod]];exact NM _ _
def jF.congr{f f' a:Pz}(h:jF p f g)(b:Cg p f f')(c:Cg p g a):jF p f' a:=by
 have⟨s,t,d,z2,h⟩:=h;exact⟨s,t,d,z2,((Cg.rfl.mul b.symm).add<|Cg.rfl.mul c.symm).trans h⟩
theorem GX{A B:N (N J)}(h:∀a∈A,∀b∈B,jF p (ci a)<|ci b):jF p (prZ<|A.map ci) (prZ<|B.map ci):=by grind [Fs.ci,jF.symm,jF.prZ,Fs.prZ]
def zg5{c:J}(hp:vF p=wF)(h0:0<c)(h1:c<p):jF p (pc c) g:=by
 have⟨x,e1,b,d,a⟩:=Kf hp h0 h1<|Nm _;refine⟨pc x,pc 0,Fs.pc _,Fs.pc _,?_⟩;rw[yf,qf];intro k;rw[zK,zJ,xbZ];unfold pc;split
 ·rw[a];exact(xaL gS W).symm
 ·rfl
def DK{α β:Type}(R:α->β->Prop):N α->N β->Prop
 |[],[]=>XS
 |a::r,b::s=>R a b/\DK R r s
 |_,_=>V6
def DK.append{α β:Type}{R:α->β->Prop}:∀{a:N α}{b:N β}{c:N α}{d:N β},DK R a b->DK R c d->DK R (a++c) (b++d)
 |[],[],_,_,_,h=>h
 |_::_,_::_,_,_,h,e=>⟨h.1,DK.append h.2 e⟩
def DK.len{α β:Type}{R:α->β->Prop}:∀{a:N α}{b:N β},DK R a b->X a=X b
 |[],[],_=>rfl
 |_::_,_::_,h=>by rw[xau,xau,h.2.len]
structure Up(p:J)(k:K)(u:N M)(g:N J):Prop where
 rd:Rd 250 (p^k) u
 len:u.length=g.length
 top:G u (u.length-1)=1
 cg:Cg p (G u) (ci g)
def zcF{f:N M}(h:0<X f):f.drop (X f-1)=[f.getD (X f-1) (I,[])]:=FP
def zd1{z:M}(hp:0<p)(h0:zv z%p≠0):qx p [z]=[zv z%p]:=by
 have b:=xe (a:=zv z) hp;refine(Qe hp [z]).ext (VN W b.2) ((fh p [z]).trans λk=> ?_)
 cases k with
 |zero=>show zv z%p=(zv z%p)%p;rw[xaT]
 |succ k=>skip;rfl
end
def ziW{k:K}{p:J}(hp:vF p=wF)(P:1<=k)(hk:k<=1000):∀(n:K) {fu:K}{f:N Zr}{fs:N (N J)},X fs=n->1<=n->n<=66->3000002+n<=fu->
 Rd 250 (p^k) f->0<X f->X f<=66->cf f (X f-1)%p≠0->(∀g∈fs,RK p g/\X g<=66)->fs.Pairwise (λa b=>jF p (ci a)<|ci b)->Cg p (cf f) (pc (cf f<|X f-1)*prZ (fs.map ci))->
 ∃us,vL fu f fs p (k:J) (yp<|p^k)=Z us/\DK (Up p k) us fs/\Cg (p^k) (cf f) (pc (cf f<|X f-1)*prZ (us.map λu=>(cf u:Pz))):=by
 intro n
 induction n using xdz with
 |_ n ih=>
 intro fu f fs hn h9 h' a5 Q hl a9 hd hE Jc R;have⟨C,o⟩:=zz hp;obtain⟨F,rfl⟩:∃F,fu=F+1:=⟨fu-1,W⟩;have hf:3000000<F:=W
 have b0:=im hp P;have hK:p∣p^k:=km P;unfold vL;by_cases h1:n=1
 ·obtain⟨g,rfl⟩:∃g,fs=[g]:=by
   match fs,hn with
   |[g],_=>exact⟨g,O⟩
   |[],h=>simp at h;lia
   |_::_::_,h=>simp at h;lia
  have⟨l,b3⟩:=hE g gT;have⟨w,u,e1,e2,e3,e4,e5,e6⟩:=Aw (fu:=F) hp P hk Q hl W hd W;have hu:Cg (p^k) (pc (cf f<|X f-1)*pc u) (pc 1):=λj=>by
   rw[qf,xbw];unfold pc;split
   ·rw[e5];exact(xaL gS W).symm
   ·rfl
  have hG:Cg (p^k) (cf f) (pc (cf f<|X f-1)*cf w):=by
   refine Cg.symm<|(Cg.rfl.mul e6).trans ?_;rw[<-zd];exact(hu.mul Cg.rfl).trans<|Cg.of<|zw _
  have hA:∀x:Pz,prZ [x]=x:=λx=>ye x;have hH:Cg p (cf w) (ci g):=by
   refine(e6.down hK).trans ?_;have v:Cg p (pc u*cf f) (pc u*(pc (cf f<|X f-1)*ci g)):=Cg.rfl.mul<|R.trans<|Cg.of (by show _*prZ [ci g]=_;rw[hA]);refine v.trans ?_;rw[<-zd,zk<|pc u];exact((hu.down hK).mul Cg.rfl).trans<|Cg.of<|zw _
  have hR:X w=X g:=by
   have b4:=l.fp (p:=p) W;refine xcR (xbu λhS=> ?_)<|xbu λhS=> ?_
   ·have v:=hH<|X w-1;rw[e4,yh W,xas,xaL gS W]at v;cases v
   ·have v:=hH<|X g-1;rw[l.2.2,zW W,xas,xaL gS W]at v;cases v
  rw[iq gT,U e1];refine⟨[w],O,⟨⟨e2,hR,e4,hH⟩,wS⟩,?_⟩;show Cg _ _ (_*prZ [(cf w:Pz)]);rw[hA];exact hG
 ·have⟨e,hT⟩:∃h,h=n/2:=⟨_,O⟩;have⟨c,hc⟩:∃c,c=cf f (X f-1):=⟨_,O⟩;have h8:X fs<=66:=W
  have hB:fs=fs.take e++fs.drop e:=(xbv e fs).symm;have hU:X (fs.take e)=e:=by rw[xax];lia
  have hV:X (fs.drop e)=n-e:=by rw[xbR];lia
  have hv:∀g∈fs.take e,RK p g/\X g<=66:=λg l=>hE g<|xel l;have D:∀g∈fs.drop e,RK p g/\X g<=66:=λg l=>hE g<|xeO l;rw[hB]at Jc R;have⟨a0,a1,E⟩:=xdp.1 Jc;rw[xaW,wi,<-hc]at R;have hL:=xe (a:=c) (p:=p);rw[<-hc]at hd;have hW:∀g∈fs.take e,Fp p g:=λg l=>(hv g l).1.fp W;have hX:∀g∈fs.drop e,Fp p g:=λg l=>(D g l).1.fp W;have y:=me p<|fs.take e;have A:=me p<|fs.drop e;have q:=zde (p:=p) C (fs:=fs.drop e) λg l=>(D g l).1;have a3:=cR (p:=p) (fs:=fs.take e) (M:=66) λg l=>(hv g l).2;have a4:=cR (p:=p) (fs:=fs.drop e) (M:=66) λg l=>(D g l).2;have b1:X (fs.take e)*66<=66*66:=xan _ W;have b2:X (fs.drop e)*66<=66*66:=xan _ W;have hM:=VN (p:=p) (x:=c%p) W hL.2;have⟨g0,hJ⟩:∃g0,g0=xD p (VX p<|fs.take e) [c%p]:=⟨_,O⟩;have⟨h0,V⟩:∃h0,h0=VX p (fs.drop e):=⟨_,O⟩;have Y:Fp p g0:=by rw[hJ];exact qH W _ _
  have hi:Fp p h0:=by rw[V];exact dV C _
  have hC:Cg p (pc<|c%p) (pc c):=λj=>by unfold pc;split;exact xaT _ _;rfl
  have ho:Cg p (ci g0) (prZ ((fs.take e).map ci)*pc c):=by
   rw[hJ];refine(Ze p _ _).trans ?_;rw[qV];exact y.mul hC
  have hq:Cg p (ci h0) (prZ<|(fs.drop e).map ci):=by rw[V];exact A
  rw[<-V]at q;have hD:Cg p (cf f) (ci g0*ci h0):=by
   refine R.trans<|Cg.trans (Cg.of ?_) (ho.mul hq).symm;simp only[zd,zk,zC]
  have hN:jF p (ci g0) (ci h0):=by
   refine jF.congr (jF.mul (Fs.pc _) (Fs.prZ λx hx=>by obtain⟨a,_,rfl⟩:=xat.1 hx;exact Fs.ci a) (Fs.prZ λx hx=>by obtain⟨a,_,rfl⟩:=xat.1 hx;exact Fs.ci a) (GX E)<|zg5 hp (W:0<c%p) hL.2) ?_ hq.symm;exact(Cg.rfl.mul hC).trans ho.symm
  have hj:p^1=p:=by rw[xbY,xcl,xcY]
  have rg:=mo Y o;have rh:=mo hi o;have lz:X (jI h0)=X h0:=Hn hi.nl;have L:X (jI g0)=X g0:=Hn Y.nl;have hO:cf (jI h0) (X (jI h0)-1)=1:=by rw[lz,qc];exact q.2
  have hY:X (vg f p)=X f:=by
   have:=HP (k:=k) (i:=1) (p:=p) (f:=f) (Nm _) (by rw[<-hc];exact hd) hl;rw[hj]at this;exact this
  have⟨d1,d2,d3⟩:=zbJ (m:=p) (f:=vg f p) (g:=jI g0) (h:=jI h0) C (by have:=rg.rd;rw[hj]at this;exact this) (DW λj=>by rw[ud,xaT]) W W hO ((Xa f p).trans<|by rw[qc,qc];exact hD);rw[hY,lz,L]at d1;rw[L]at d2;have⟨d,s,t,z1,B,z3⟩:=kY (fu:=F) hp Y hi W W W;have hP:=zh8 C B z3 hN;have b5:max (X g0) (X h0)*(max (X g0) (X h0)+1)<=66*67:=xbo W W;have b6:=B.sl;have c0:=B.tl;have rs:=mo B.sf o;have rt:=mo B.tf o;have hI:TrI p k f (jI g0) (jI h0) (X h0) 4430 1 (jI g0) (jI h0) (jI s) (jI t):=by
   refine⟨Nm _,P,rg,rh,rs,rt,lz,by rw[<-lz];exact hO,?_,?_,Cg.rfl,Cg.rfl,by have:=mU s;lia⟩
   ·rw[hj,qc,qc];exact hD
   ·rw[hj,qc,qc,qc,qc];exact hP
  have⟨G,H,S,T,l1,r⟩:=zdd (fu:=F) hI hp hk Q.ok (by rw[<-hc];exact hd) hl W W gS W hf;have⟨m1,m2,m3,m4⟩:=r.lens hp (by rw[<-hc];exact hd) hl W;have hZ:c%p^k=c:=by have:=Q.mod<|X f-1;rw[<-hc]at this;exact this
  rw[<-hc,hZ]at m3;have h3:=r.hl;have hy:=r.h1;rw[<-h3]at hy;have h4:Cg p (cf G) (pc c*prZ ((fs.take e).map ci)):=by
   refine r.gp.trans ?_;rw[qc,zk];exact ho
  have h5:Cg p (cf H) (pc 1*prZ ((fs.drop e).map ci)):=by
   refine r.hp.trans ?_;rw[qc,zw];exact hq
  have⟨us,u1,u2,u3⟩:=ih e W (fu:=F) (f:=G) (fs:=fs.take e) hU W W W r.rG m2 W (by rw[m3];exact hd) hv a0 (by rw[m3];exact h4);have⟨vs,v1,v2,v3⟩:=ih (n-e) W (fu:=F) (f:=H) (fs:=fs.drop e) hV W W W r.rH W W (by rw[hy,xaL gS W];decide) D a1 (by rw[hy];exact h5);rw[m3]at u3;rw[hy]at v3;have c1:=u2.len;have c2:=v2.len;refine⟨us++vs,?_,by rw[hB];exact u2.append v2,?_⟩
  ·have ez:[f.getD (X f-1) (I,[])].length=1:=O;have hQ:yH 250 [f.getD (X f-1) (I,[])]:=λz hz=>by
    obtain rfl:=xad.1 hz;exact Q.ok.get _
   have h6:qx p [f.getD (X f-1) (I,[])]=[c%p]:=by
    rw[hc];exact zd1 W<|by rw[Z8,<-hc];exact hd
   have h7:=jc p (VX p<|fs.take e) [c%p];simp only[xau,xbH]at h7;have a2:xct (X fs:J) 2=(e:J):=by rw[hn,hT];rfl
   rw[zB,xB gS,a2,zb,(W:(X f:J)-1=((X f-1:K):J)),zb,yR,yV,zf,zcF hl,U (uu hQ gS W o gT),h6];simp only;rw[yR,yV,zf,U (jd hp hW (λg l=>(hv g l).2) W gS),U (uk hp (dV C _) hM W gT),<-hJ];simp only;rw[yR,yV,zf,U (jd hp hX (λg l=>(D g l).2) W gS),<-V,U z1];simp only;rw[U (ky (Y.rl o) W W),U (ky (hi.rl o) W W),U (ky (B.sf.rl o) W W),U (ky (B.tf.rl o) W W),U l1];rw[CJ (i:=0) gS,yR,yV,zf,show[G,H,S,T].getD (Int.toNat 0) []=G from O,U u1,CJ (i:=1) gS,yR,yV,zf,show[G,H,S,T].getD (Int.toNat 1) []=H from O,U v1,yV,zf]
  ·rw[<-hc,xaW,wi];refine r.fac.trans<|(u3.mul v3).trans<|Cg.of ?_;rw[zw,zd]
section
variable{a:xS Zr}{p:wl}
def zQ(a:N M):N M:=wk (X a)<|G a
def kP(a:N M)(k:K):G (zQ a) k=G a k:=jo (λj b=>zW b) k
def j7(a:N M):X (zQ a)<=X a:=by unfold zQ;rw[xw];exact qg _ _
def Ku{k:K}(h:yH k a):yH k (zQ a):=yN h.bz
structure znn(p:J)(k:K)(a:N M)(fs:N (N J))(us:N (N M)):Prop where
 hp:vF p=wF
 k1:1<=k
 k2:k<=1000
 rt:dj p (zQ a) fs
 up:DK (Up p k) us fs
 cg:fs≠[]->Cg (p^k) (G a) (pc (G (zQ a)<|(zQ a).length-1)*prZ (us.map λu=>(G u:Pz)))
def dj.mem{fs:N (N J)}(h:dj p a fs):∀g∈fs,RK p g/\X g<=X a:=λg b=>by
 obtain⟨j,c,rfl⟩:=xdN.1 b;have:=h.pl j c;simp_all
def dj.pw{fs:N (N J)}(h:dj p a fs):fs.Pairwise (λa b=>jF p (ci a)<|ci b):=by
 refine xdd.2 λi j hi c d=> ?_;have:=h.cp j i c d;rw[H1,H1,xah hi,xah c]at this;exact this.symm
def pY{fu:wr}{k:J}{fs:N (N J)}(d:yH 250 a)(w:X a<=1000)(x:3000200<=fu):
 ∃us e,qT fu a fs p k=Z (us,e)/\(e=0->znn p k.toNat a fs us/\1<=k)/\(e≠0->(oH p k).2=0\/e=1):=by
 unfold qT;have y:=j7 a;have hl:=Ku d;rw[U<|k9 W];by_cases i:vF p=wF/\1<=k/\k<=1000
 ·have⟨hp,h1,z⟩:=i;obtain⟨K,rfl⟩:=xaA (W:0<=k);have hd:oH p (K:J)=(yp<|p^K,0):=by
   unfold oH;simp_all
  rw[hd];simp only;rw[U (zI d gS W W),iq wS,show wk (X a) (G a)=zQ a from O];by_cases hv:65<X (zQ a)
  ·rw[zT];exact⟨_,_,O,λe=>wR e gS,λ_=> .inl wS⟩
  ·rw[zB];have⟨b,b1,b2⟩:=nK (fu:=fu) (fs:=fs) hp hl gS W W;rw[U b1]
   cases b with
   |false=>
    rw[iq gS];exact⟨_,_,O,λe=>wR e gS,λ_=> .inl wS⟩
   |true=>
    have c:=b2 O;rw[ir gS];by_cases h0:X fs=0
    ·obtain rfl:fs=[]:=xbs.1 h0;rw[iq (show((X ([]:N (N J)):wr):J)=0 from O)];exact⟨_,_,O,λ_=>⟨⟨hp,W,W,c,wS,λe=>wR O e⟩,h1⟩,λe=>wR O e⟩
    ·rw[zB];have⟨A,B⟩:=zz hp;have l:=sC hp (k:=K);have C:=im hp (k:=K);have o:a8 (yp<|p^K):=l.okS gS;have⟨f,hc⟩:∃f,f=vg (zQ a) (p^K):=⟨_,O⟩;have hn:=c.a0;have m:G (zQ a) (X (zQ a)-1)%p≠0:=by
      have h3:=(Qe (p:=p) W<|zQ a).nl;unfold Nl at h3;rw[c.al]at h3;obtain h3|h3:=h3
      ·exact wR h3 hn
      ·rw[JR]at h3;exact h3
     have q:X f=X (zQ a):=by rw[hc];exact HP (k:=K) W m W
     have hi:G f (X f-1)=G (zQ a) (X (zQ a)-1)%p^K:=by rw[q,hc,ud]
     have h:p∣p^K:=km;have r:G f (X f-1)%p≠0:=by rw[hi,xcL _ h];exact m
     have s:Cg p (G f) (pc (G f<|X f-1)*prZ (fs.map ci)):=by
      have e1:Cg p (G f) (G<|zQ a):=by rw[hc];exact(Xa _ _).down h
      refine e1.trans<|(fh p<|zQ a).symm.trans ?_;rw[<-c.pr];refine(Ze p _ _).trans ?_;rw[qV,zk];refine Cg.mul (λj=> ?_)<|me p fs;rw[JR,hi];unfold pc;split
      ·rw[xcL _ h,xaT]
      ·rfl
     have⟨us,t,u,v⟩:=ziW (k:=K) hp W W (X fs) (fu:=fu) (f:=f) (fs:=fs) O W (by have:=c.fl;lia) (by have:=c.fl;lia) (by rw[hc];exact fH l W _) W W r (λg n=>⟨(c.mem g n).1,by have:=(c.mem g n).2;lia⟩) c.pw s;rw[U (Y5 hl gS o<|by rw[zn];lia),zn,<-hc,U t];refine⟨_,_,O,λ_=>⟨⟨hp,W,W,c,u,λ_=> ?_⟩,h1⟩,λe=>wR O e⟩;rw[xbc];have e1:Cg (p^K) (G a) (G f):=by
      rw[hc];exact Cg.trans (Cg.of<|funext λj=>(kP a j).symm) (Xa _ _).symm
     refine e1.trans<|v.trans<|Cg.mul (λj=> ?_) Cg.rfl;rw[hi];unfold pc;split
     ·rw[xaT]
     ·rfl
 ·have hd:oH p k=((I,[]),1):=by unfold oH;rw[ir i]
  rw[hd];simp only;rw[U (zI d gS W W),ir gS];exact⟨_,_,O,λe=>wR e gS,λ_=> .inr O⟩
end
def Mn(A:Pz)(d:K):Prop:=A d=1/\∀k,d<k->A k=0
def Mn.top{A x:Pz}{d n:K}(h:Mn A d)(a:∀k,n<k->x k=0):(x*A) (n+d)=x n:=by
 rw[wM,wG (i:=n) λi hi=> ?_,zT,(W:n+d-n=d),h.1,xcZ];by_cases hc:i<n
 ·rw[h.2 _ W,xaz]
 ·grind
def Mn.zero{p:J}(hp:2<=p){A x:Pz}{d:K}(h:Mn A d)(j:Fs x)(l:∀k,d<=k->(x*A) k%p=0):Cg p x (pc 0):=by
 have⟨n,hn⟩:=j;have a:∀c,c<=n->∀k,n-c<=k->x k%p=0:=by
  intro c
  induction c with
  |zero=>intro _ k g;rw[hn k W,xas]
  |succ c m=>
   intro hc k g;by_cases h1:n-c<=k
   ·grind
   ·obtain rfl:k=n-(c+1):=W
    have e:Cg p x (λi=>if i<=n-(c+1)then x i else 0):=λi=>by
     by_cases hi:i<=n-(c+1)
     ·simp_all
     ·show _=(if i<=n-(c+1)then x i else 0)%p;rw[ir hi,xas];grind
    have b:=(e.mul<|Cg.rfl (f:=A))<|n-(c+1)+d;rw[l _ W,h.top<|λi hi=>zB]at b;rw[iq<|Nm _]at b;exact b.symm
 intro k;rw[zJ,xas];by_cases g:k<n
 ·exact a n (Nm _) k W
 ·rw[hn k W,xas]
def Ov{k m n:J}(h:Int.gcd k m=1)(hd:k∣m*n):k∣n:=
 xcq.1 (Nat.Coprime.dvd_of_dvd_mul_left h<|by rw[<-xcC];exact xcq.2 hd)
def pdv(n:J)(f:Pz):Pz:=λk=>f k/n
def Me{n:J}{f:Pz}(h:Cg n f (pc 0)):pc n*pdv n f=f:=by
 funext k;rw[zP];exact Int.mul_ediv_cancel'<|h.dvd k
def IZ{n:J}{f:Pz}(h:Fs f):Fs (pdv n f):=by
 have⟨c,hc⟩:=h;exact⟨c,λk a=>by show f k/n=0;rw[hc k a,xef]⟩
def Fs.subt{f g:Pz}(c:Fs f)(d:Fs g):Fs (f-g):=by
 have⟨a,e⟩:=c;have⟨b,h⟩:=d;exact⟨a+b,λk i=>by rw[yx,e k W,h k W];rfl⟩
def zcS{p n:J}(hp:2<=p)(hn:n≠0)(E:p∣n){A B c g:Pz}{d:K}(i:Mn A d)(o:Mn c d)(F:Fs A)(j:Fs c)(G:Fs B)(l:Fs g)(hc:jF p A B)(h1:Cg n A c)(H:Cg n B g)(h:Cg (n*p) (A*B) (c*g)):
 Cg (n*p) A c/\Cg (n*p) B g:=by
 have⟨a,q⟩:∃a,a=pdv n (c-A):=⟨_,O⟩;have⟨b,r⟩:∃b,b=pdv n (g-B):=⟨_,O⟩;have u:pc n*a=c-A:=by rw[q];exact Me<|Cg.iff_sub.1 h1.symm
 have v:pc n*b=g-B:=by rw[r];exact Me<|Cg.iff_sub.1 H.symm
 have L:Fs a:=by rw[q];exact IZ<|j.subt F
 have w:Fs b:=by rw[r];exact IZ<|l.subt G
 have x:∀k,c k=A k+n*a k:=λk=>by
  have:=Wf u k;rw[zP,yx]at this;lia
 have bk:∀k,g k=B k+n*b k:=λk=>by
  have:=Wf v k;rw[zP,yx]at this;lia
 have hl:c=A+pc n*a:=qR λk=>by rw[zK,zP,x]
 have M:g=B+pc n*b:=qR λk=>by rw[zK,zP,bk]
 have y:Cg p (a*B+b*A) (pc 0):=by
  refine Cg.of_dvd λk=> ?_;have e:c*g-A*B=pc n*(a*B+b*A+pc n*(a*b)):=by
   rw[hl,M];simp only[xH,yF,zd,zC,zk];funext k;simp only[zK,yx];lia
  have hd:=(Cg.iff_sub.1 h.symm).dvd k;rw[e,zP]at hd;have z:p∣(a*B+b*A+pc n*(a*b)) k:=(Int.mul_dvd_mul_iff_left hn).1 hd;rw[zK,zP]at z;exact(Int.dvd_add_left<|xbp E<|xcc _ _).1 z
 have⟨s,t,fs,N,P⟩:=hc;have Q:∀k,d<=k->a k=0:=λk C=>by
  have e:c k=A k:=by
   by_cases R:k=d
   ·rw[R,i.1,o.1]
   ·rw[i.2 k W,o.2 k W]
  have:=x k;have S:n*a k=0:=W
  exact(xeI.1 S).resolve_left hn
 have D:Cg p a ((s*a-t*b)*A):=by
  have e1:Cg p a (a*(s*A+t*B)):=by
   have:=(Cg.rfl (m:=p) (f:=a)).mul P.symm;rw[ye]at this;exact this
  refine e1.trans<|Cg.iff_sub.2 ?_;have e:a*(s*A+t*B)-(s*a-t*b)*A=t*(a*B+b*A):=by
   simp only[xH,yF,wm,qp,zd,zC,zk];funext k;simp only[zK,yx];lia
  rw[e];exact y.mul_zero_l t
 have T:=i.zero hp ((fs.mul L).subt<|N.mul w) λk C=>by rw[<-D k,Q k C,xas]
 have hi:Cg p a (pc 0):=D.trans<|T.mul_zero_r A;have U:Cg p (b*A) (pc 0):=by
  have e:b*A=a*B+b*A-a*B:=by
   funext k;simp only[zK,yx];lia
  rw[e];exact y.zero_sub<|hi.mul_zero_r B
 have V:Cg p b (pc 0):=i.zero hp w λk _=>by rw[U k,zJ,xas]
 refine⟨Cg.symm<|Cg.iff_sub.2<|Cg.of_dvd λk=> ?_,Cg.symm<|Cg.iff_sub.2<|Cg.of_dvd λk=> ?_⟩
 ·rw[<-u,zP];exact Int.mul_dvd_mul_left n<|hi.dvd k
 ·rw[<-v,zP];exact Int.mul_dvd_mul_left n<|V.dvd k
def RB{p:J}(hp:2<=p){A B a e:Pz}{d:K}(f:Mn A d)(g:Mn a d)(i:Fs A)(b:Fs a)(l:Fs B)(c:Fs e)(hc:jF p A B)(h1:Cg p A a)(m:Cg p B e):∀j,Cg (p^j) (A*B) (a*e)->Cg (p^j) A a/\Cg (p^j) B e
 |0,_=>⟨λk=>by rw[xcl,Int.emod_one,Int.emod_one],λk=>by rw[xcl,Int.emod_one,Int.emod_one]⟩
 |1,_=>by grind
 |j+2,h=>by
  have⟨g1,n⟩:=RB hp f g i b l c hc h1 m (j+1)<|h.down<|eF;rw[xbY]at h⊢;exact zcS hp (Int.ne_of_gt<|Int.pow_pos W) (km) f g i b l c hc g1 n h
def bj:K->K->K
 |_,0=>1
 |0,_+1=>0
 |n+1,k+1=>bj n k+bj n (k+1)
def Vb(n:K):bj n 0=1:=by cases n<;>rfl
def Jh(n k:K):bj (n+1) (k+1)=bj n k+bj n (k+1):=O
def oy:∀n k,n<k->bj n k=0
 |0,0,h=>wR h<|Nat.lt_irrefl _
 |0,k+1,_=>rfl
 |n+1,0,h=>wR h<|xbn _
 |n+1,k+1,h=>by rw[Jh,oy n k W,oy n (k+1) W]
def DB:∀n,bj n n=1
 |0=>rfl
 |n+1=>by rw[Jh,DB n,oy n (n+1) W]
def LN:∀n k,(k+1)*bj (n+1) (k+1)=(n+1)*bj n k
 |0,0=>rfl
 |0,k+1=>by skip;rfl
 |n+1,0=>by
  have h:=LN n 0;rw[Vb]at h;rw[Jh,Vb];lia
 |n+1,k+1=>by
  have h1:=LN n k;have a:=LN n<|k+1;have b:=Jh n k;rw[Jh (n+1)<|k+1];grind
def zkv(a:J):∀n,(a+1)^n=yi (n+1) (λk=>(bj n k:J)*a^k)
 |0=>by
  show _=(0:J)+((1:K):J)*a^0;simp_all
 |n+1=>by
  have e1:yi (n+1+1) (λk=>(bj (n+1) k:J)*a^k)=1+(yi (n+1) (λk=>a*((bj n k:J)*a^k))+yi (n+1) (λk=>(bj n (k+1):J)*a^(k+1))):=by
   rw[uI,<-YB];congr 1
   ·show((bj (n+1) 0:K):J)*a^0=1;rw[Vb,xcl];rfl
   ·exact yq λk _=>by rw[Jh,xeD,Int.add_mul,xbY,<-xdg,<-xdg,xbw (_*a^k) a,<-xdg]
  have b:yi (n+1) (λk=>(bj n k:J)*a^k)=1+yi (n+1) (λk=>(bj n (k+1):J)*a^(k+1)):=by
   have h:yi (n+1+1) (λk=>(bj n k:J)*a^k)=yi (n+1) (λk=>(bj n k:J)*a^k):=by
    show yi (n+1) _+((bj n (n+1):K):J)*a^(n+1)=_;rw[oy n (n+1) W];lia
   rw[<-h,uI];congr 1;rw[Vb,xcl];rfl
  rw[e1,uy,xbY,zkv a n,xfx,xcZ,xbw _ a];lia
def zbu{p x y:K}(hp:2<=p)(hn:jx p)(h0:0<x)(h1:x<p)(h:p∣x*y):p∣y:=
 Nat.Coprime.dvd_of_dvd_mul_left (Uf hp hn h0 h1) h
def zaN{p k:K}(hp:2<=p)(hn:jx p)(h0:0<k:=by lia)(h1:k<p:=by lia):p∣bj p k:=by
 obtain⟨q,rfl⟩:∃q,p=q+1:=⟨p-1,W⟩;obtain⟨j,rfl⟩:∃j,k=j+1:=⟨k-1,W⟩;exact zbu hp hn h0 h1 ⟨bj q j,LN q j⟩
def P6{p:K}(hp:2<=p)(hn:jx p)(a:J):(a+1)^p%p=(a^p+1)%p:=by
 obtain⟨q,rfl⟩:∃q,p=q+1:=⟨p-1,W⟩;rw[zkv];show(yi (q+1) _+((bj (q+1) (q+1):K):J)*a^(q+1))%_=_;rw[DB,uI];have hd:((q+1:K):J)∣yi q (λk=>(bj (q+1) (k+1):J)*a^(k+1)):=dE λk b=>
  xbp (xcF.2<|zaN hp hn) (xcc _ _)
 have⟨c,hc⟩:=hd;rw[Vb];have e:1*1+((q+1:K):J)*c+1*a^(q+1)=a^(q+1)+1+((q+1:K):J)*c:=W
 simp_all
def Tw{p:K}(hp:2<=p)(hn:jx p):∀a:K,(a:J)^p%p=a%p
 |0=>by rw[show((0:K):J)=0 from O,Int.zero_pow W]
 |a+1=>by rw[xeD,show((1:K):J)=1 from O,P6 hp hn,xec,Tw hp hn a,<-xec]
def Sx{p:J}(hp:vF p=wF){a:J}(h0:0<a)(h1:a<p):(a^(p-2).toNat*a)%p=1:=by
 have⟨f,g⟩:=zz hp;have hn:=XW hp;obtain⟨P,rfl⟩:=xaA (W:0<=p);obtain⟨A,rfl⟩:=xaA (W:0<=a);have b:2<=P:=W
 have h:=Tw b hn A;obtain⟨Q,rfl⟩:∃Q,P=Q+2:=⟨P-2,W⟩;rw[(W:(((Q+2:K):J)-2).toNat=Q)];have e:(A:J)^(Q+2)-A=A*((A:J)^Q*A-1):=by grind
 have hd:((Q+2:K):J)∣(A:J)*((A:J)^Q*A-1):=by
  rw[<-e];exact xaB<|xaI.1 h
 have c:Int.gcd ((Q+2:K):J) (A:J)=1:=Uf b hn;have d:=Ov c hd;have i:=xaI.2<|xaw d;assumption
def zk7{n:K}{f:Pz}{x:J}(h:x=f n):zl n f++[x]=zl (n+1) f:=by rw[h];exact ziT
structure zgJ(p:J)(a m:N J):Prop where
 fm:Fp p m
 ln:m.length=a.length
 top:ci m (m.length-1)=1
 cg:∃x y:J,Cg p (ci m) (pc x*ci a)/\Cg p (ci a) (pc y*ci m)
def PY{p x:J}{a:N J}(hp:2<=p)(e:Fp p a)(f:0<X a)(b:(x*ci a (X a-1))%p=1):zgJ p a (xD p a [x]):=by
 have hc:∀k,ci (xD p a [x]) k=(x*ci a k)%p:=λk=>by rw[UH,qV,zk,zP]
 have hd:X (xD p a [x])=X a:=by
  refine xcR ((qH W _ _).nl.le λk d=> ?_)<|xbu λg=> ?_
  ·rw[hc,yh d,xaz,xas]
  ·have c:=hc<|X a-1;rw[b,yh W]at c;cases c
 have h1:Cg p (ci<|xD p a [x]) (pc x*ci a):=λk=>by rw[hc,zP,xaT]
 refine⟨qH W _ _,hd,by rw[hd,hc,b],x,ci a<|X a-1,h1,?_⟩;refine Cg.symm<|(Cg.rfl.mul h1).trans ?_;rw[<-zd];refine Cg.trans (Cg.mul (λk=> ?_) Cg.rfl)<|Cg.of<|zw _;rw[qf,xbw];unfold pc;split
 ·rw[b];exact(xaL gS W).symm
 ·rfl
def XN{fu:K}{a:N J}{p:J}(hp:vF p=wF)(b:Fp p a)(i:0<X a)(hc:X a<=90000)(c:3000000<=fu):∃x,0<x/\x<p/\(x*ci a (X a-1))%p=1/\qW fu a p=Z (xD p a [x],0):=by
 have⟨j,d⟩:=zz hp;have hd:ci a (X a-1)≠0:=by
  obtain h|h:=b.nl
  ·lia
  ·exact h
 have t1:=b.nn<|X a-1;have⟨x,x0,f,g,_,e⟩:=J3 (fu:=fu) hp b (W:0<ci a (X a-1)) (b.lt _) hc c;refine⟨x,x0,f,g,?_⟩;unfold qW;rw[U<|ui hp,iq O,U<|zN W d (b.rl d) W c,b.pm,zB,(W:(X a:J)-1=((X a-1:K):J)),zb,zY,zf,Vp,U e]
def QO{fu:K}{p:J}{g h:N J}(hp:vF p=wF)(a:Fp p g)(b:Fp p h)(c:X g<=290)(hc:X h<=290)(e:3000000<=fu):
 ∃d s t,jO fu g h p=Z (d,0)/\BzR p g h d s t (2+max (X g) (X h)*(max (X g) (X h)+1))/\(X d=0\/ci d (X d-1)=1):=by grind [jO,kY,U]
def zba{p:J}{g h d s t:N J}{S:K}(hp:2<=p)(a:BzR p g h d s t S)(hd:X d=0\/ci d (X d-1)=1):X d=1↔jF p (ci g) (ci h):=by
 refine⟨λh1=>Mx a h1 (hd.resolve_left W),λhc=> ?_⟩;have⟨A,C,c,z2,d1,d2⟩:=a.dv;have⟨u,v,z3,z4,hc⟩:=hc;have b:Cg p ((u*A+v*C)*ci d) (pc 1):=by
  refine Cg.trans (Cg.of ?_)<|(((Cg.rfl).mul d1.symm).add<|(Cg.rfl).mul d2.symm).trans hc;rw[yF,zd,zd]
 have f:0<X d:=by
  refine xco λe=> ?_;have h1:=b 0;rw[wM,yT λi hi=>by rw[yh W,xaz]]at h1;unfold pc at h1;rw[xas,xaL gS W]at h1;cases h1
 exact Oz hp ((z3.mul c).add<|z4.mul z2) f (hd.resolve_left W) b
section
variable{a:xS wl}{p:wl}
def dvp(f:Pz):Pz:=λk=>((k+1:K):J)*f (k+1)
theorem VZ(f g:Pz):dvp (f*g)=dvp f*g+f*dvp g:=by
 funext k;show((k+1:K):J)*(f*g) (k+1)=(dvp f*g) k+(f*dvp g) k;rw[wM,wM,wM,<-uy];have e:yi (k+1+1) (λi=>((k+1:K):J)*(f i*g (k+1-i)))=yi (k+1+1) (λi=>(i:J)*(f i*g (k+1-i)))+yi (k+1+1) (λi=>((k+1-i:K):J)*(f i*g (k+1-i))):=by
  rw[<-YB];exact yq λi hi=>by grind
 rw[e];congr 1
 ·rw[uI];show((0:K):J)*_+_=_;rw[show((0:K):J)=0 from O,xba,xcE];exact yq λi hi=>by
   show((i+1:K):J)*(f (i+1)*g (k+1-(i+1)))=((i+1:K):J)*f (i+1)*g (k-i);grind
 ·show yi (k+1) _+((k+1-(k+1):K):J)*_=_;rw[xcQ,show((0:K):J)=0 from O,xba,xbZ];exact yq λi hi=>by
   show((k+1-i:K):J)*(f i*g (k+1-i))=f i*(((k-i+1:K):J)*g (k-i+1));grind
def zd2{m:J}{f g:Pz}(h:Cg m f g):Cg m (dvp f) (dvp g):=λk=>by
 show(((k+1:K):J)*f (k+1))%m=(((k+1:K):J)*g (k+1))%m;rw[xck,h,<-xck]
def zlq(c:J):dvp (pc c)=pc 0:=qR λk=>by
 rw[zJ];rfl
def drv(p:J)(a:N J):N J:=nl (X a)<|λk=>dvp (ci a) k%p
def zhN{k:K}(h:X a<=k+1):dvp (ci a) k=0:=by
 show((k+1:K):J)*ci a (k+1)=0;rw[yh h,xaz]
def L4(p:J)(a:N J)(k:K):ci (drv p a) k=dvp (ci a) k%p:=Dn (λk b=>by rw[zhN W,xas]) k
def zgj(p:J)(a:N J):Cg p (ci<|drv p a) (dvp<|ci a):=λk=>by rw[L4,xaT]
def zeZ(hp:0<p)(a:N J):Fp p (drv p a):=⟨λk=>by rw[L4];exact(xe hp).1,λk=>by rw[L4];exact(xe hp).2,sZ _ _⟩
def zlo(p:J)(a:N J):X (drv p a)<=X a:=Hg _ _
def ra{fu:K}(hp:vF p=wF)(b:Fp p a)(hc:X a<=90000)(e:3000000<=fu):Wq fu a p=Z (drv p a,0):=by
 have⟨n,c⟩:=zz hp;unfold Wq;have g:∀k:K,0<=((k:J)%p)*ci a k/\((k:J)%p)*ci a k<=4293001441:=λk=>by
  have d:=xe (a:=(k:J)) (p:=p);exact cD c d.1 d.2 (b.nn k)<|b.lt k
 rw[U<|ui hp,iq O,U<|zN W c (b.rl c) W e,b.pm,U (v:=zl (X a-1)<|λk=>(((k+1:K):J)%p)*ci a (k+1))]
 ·have l:∀k,X a-1<=k->(((k+1:K):J)%p)*ci a (k+1)=0:=λk o=>by rw[yh W,xaz]
  have d:Rl (zl (X a-1)<|λk=>(((k+1:K):J)%p)*ci a (k+1)):=λk=>by
   rw[Xc l];have:=g<|k+1;exact⟨W,W⟩
  rw[U<|zN W c d (by rw[z6];lia) e];congr 2;refine(Cj W _).ext (zeZ W _) λk=> ?_;rw[GK,Xc l,L4,xaT,xaT];show _=(((k+1:K):J)*ci a (k+1))%p;rw[xck,xaT,<-xck]
 ·refine zA (λs:N J×J×N J=>∃i:K,i<=X a/\s=(zl (i-1)<|λk=>(((k+1:K):J)%p)*ci a (k+1),(i:J),a)) (λs=>X a-s.2.1.toNat) _ ?_ _ _ ⟨0,xai _,O⟩ (by show X a-0<fu;lia);rintro s L ⟨i,hi,rfl⟩ m;unfold aK;simp only;by_cases h:i<X a
  ·rw[zT,U O];simp only[uL];rw[zo h,zf,Vp];by_cases h0:0<i
   ·have hd:=g i;obtain⟨j,rfl⟩:∃j,i=j+1:=⟨i-1,W⟩;rw[zT,yV,zf,fc,zb,xB (by rw[z6];simp;lia),zf,(W:j+1-1=j),zk7 (f:=λk=>(((k+1:K):J)%p)*ci a (k+1)) O,zb];exact m _ ⟨j+1+1,W,O⟩ (by show X a-(((j+1:K):J)+1).toNat<X a-((j+1:K):J).toNat;lia)
   ·obtain rfl:i=0:=W
    rw[zB,zb];exact m _ ⟨1,W,O⟩ (by show X a-(((0:K):J)+1).toNat<X a-((0:K):J).toNat;lia)
  ·rw[zB,U O];simp only[xak,ut];obtain rfl:i=X a:=W
   rfl
end
section
variable{p:wl}{m g d:xS wl}{A:Pz}
structure vd(p:J)(m:N J):Prop where
 fm:Fp p m
 ln:0<m.length
 top:ci m (m.length-1)=1
def vd.mn(h:vd p m):Mn (ci m) (X m-1):=⟨h.top,λk a=>yh W⟩
def vd.one(h:vd p m)(hl:X m=1):m=[1]:=by
 match m,hl with
 |[x],_=>have:=h.top;exact kW (λy=>[y]) this
def Gz{q r:N J}(hp:2<=p)(a:vd p m)(f:vd p g)(w:Fs A)(hd:Cg p (ci m) (A*ci g))(o:Fp p q)(C:Fp p r)(t:Cg p (ci m) (ci q*ci g+ci r))(D:X r<X g):
 vd p q/\Cg p (ci m) (ci q*ci g)/\X m+1=X q+X g:=by
 have hl:=f.ln;have h1:Cg p ((A-ci q)*ci g) (ci r):=by
  rw[qp];refine((hd.symm.trans t).sub Cg.rfl).trans<|Cg.of ?_;funext k;rw[yx,zK];lia
 have y:=f.mn.zero hp (w.subt<|Fs.ci q) λk u=>by rw[h1 k,yh W,xas]
 have E:Cg p (ci r) (pc 0):=h1.symm.trans<|y.mul_zero_r _;have b:Cg p (ci m) (ci q*ci g):=by
  refine t.trans<|Cg.iff_sub.2 ?_;have e:ci q*ci g+ci r-ci q*ci g=ci r:=by
   funext k;rw[yx,zK];lia
  simp_all
 have hn:=a.ln;have q0:0<X q:=by
  refine xco λe=> ?_;have v:=b<|X m-1;rw[a.top,wM,yT λi hi=>by rw[yh (l:=q) W,xba],xas,xaL gS W]at v;cases v
 have z:=f.mn.top (x:=ci q) (n:=X q-1) λk u=>yh W;have c:=b<|X q-1+(X g-1);rw[z,a.fm.mod,o.mod]at c;have B:ci q (X q-1)≠0:=by
  obtain h|h:=o.nl
  ·lia
  ·exact h
 have hc:X m+1=X q+X g:=by
  have F:X q-1+(X g-1)<X m:=xdf λh=>by
   rw[yh h]at c;exact B c.symm
  have G:X m<=X q-1+(X g-1)+1:=a.fm.nl.le λk u=>by rw[<-a.fm.mod,b,kL (n:=X q) (m:=X g) (λj s=>yh s)<|λj s=>yh s,xas]
  lia
 refine⟨⟨o,q0,?_⟩,b,hc⟩;rw[<-c,(W:X q-1+(X g-1)=X m-1),a.top]
def zio{h s t:N J}{S:K}(hp:2<=p)(b:vd p g)(a:BzR p g h d s t S)(hd:X d=0\/ci d (X d-1)=1):vd p d:=by
 have⟨A,C,c,z2,d1,d2⟩:=a.dv;have hl:0<X d:=by
  refine xco λe=> ?_;have h1:=d1<|X g-1;rw[b.top,wM,yT λi hi=>by rw[yh W,xaz],xaL gS W]at h1;cases h1
 exact⟨a.df,hl,hd.resolve_left W⟩
def eH{a:N J}(hp:2<=p)(c:vd p a)(hd:vd p d)(e:Fs A)(h:Cg p (ci a) (A*ci d)):X d<=X a:=by
 refine xbu λhc=> ?_;have f:∀k,X d-1<=k->(A*ci d) k%p=0:=λk i=>by rw[<-h k,yh W,xas]
 have h0:=hd.mn.zero hp e f;have b:=(h.trans<|h0.mul_zero_r _)<|X a-1;rw[c.top,zJ,xaL gS W]at b;cases b
end
def zfv{p:J}{m:N J}(hp:0<p)(a:Fp p m):xD p m [1]=m:=by grind [Fp.ext,qH,Ze,qV,ye]
section
variable{m u d g:xS wl}{P:wr}{f v w:Pz}{y p a:wl}{b:wr->Pz}{l us:xS (xS wl)}
def pp(f:Pz):K->Pz
 |0=>pc 1
 |n+1=>pp f n*f
def Ed(f:Pz)(m:K):∀n,pp f (m+n)=pp f m*pp f n
 |0=>(ye _).symm
 |n+1=>by rw[<-xcU];show pp f (m+n)*f=_;rw[Ed f m n,zd];rfl
def ze7(f g:Pz):∀n,pp (f*g) n=pp f n*pp g n
 |0=>(ye _).symm
 |n+1=>by
  show pp (f*g) n*(f*g)=pp f n*f*(pp g n*g);rw[ze7 f g n,zd,zd,zC<|pp g n]
def zhh(f:Pz)(m:K):∀n,pp (pp f m) n=pp f (m*n)
 |0=>rfl
 |n+1=>by rw[Nat.mul_succ,Ed f,<-zhh f m n];rfl
def zdE(c:J):∀n,pp (pc c) n=pc (c^n)
 |0=>by rw[xcl];rfl
 |n+1=>by show pp (pc c) n*pc c=_;rw[zdE c n,qf,xbY]
def Fs.pp{f:Pz}(h:Fs f):∀n,Fs (pp f n)
 |0=>⟨1,λk c=>zB⟩
 |n+1=>(Fs.pp h n).mul h
def smP:K->(K->Pz)->Pz
 |0,_=>pc 0
 |n+1,F=>smP n F+F n
def XC{F G:K->Pz}:∀n,(∀i,i<n->F i=G i)->smP n F=smP n G
 |0,_=>rfl
 |n+1,h=>by show smP n F+F n=smP n G+G n;rw[XC n λi hi=>h i W,h n W]
def RR{m:J}{F G:K->Pz}:∀n,(∀i,i<n->Cg m (F i) (G i))->Cg m (smP n F) (smP n G)
 |0,_=>Cg.rfl
 |n+1,h=>(RR n λi hi=>h i W).add<|h n W
theorem Q2(f g:Pz):f+g=g+f:=by grind [zK,xfc]
def WI(f g h:Pz):f+g+h=f+(g+h):=qR λk=>by simp only[zK];lia
def X6(f:Pz):f+pc 0=f:=qR λk=>by rw[zK,zJ,xbZ]
def Cc(f:Pz):pc 0+f=f:=qR λk=>by rw[zK,zJ,xcE]
def nC(g:Pz)(F:K->Pz):∀n,smP n F*g=smP n λi=>F i*g
 |0=>yf g
 |n+1=>by show(smP n F+F n)*g=smP n (λi=>F i*g)+F n*g;rw[yF,nC g F n]
def Lu(F G:K->Pz):∀n,smP n (λi=>F i+G i)=smP n F+smP n G
 |0=>(X6 _).symm
 |n+1=>by
  show smP n (λi=>F i+G i)+(F n+G n)=smP n F+F n+(smP n G+G n);rw[Lu F G n];funext k;simp only[zK];lia
def Yv(F:K->Pz):∀n,smP (n+1) F=F 0+smP n λi=>F (i+1)
 |0=>by show pc 0+F 0=F 0+pc 0;rw[Q2]
 |n+1=>by show smP (n+1) F+F (n+1)=F 0+(smP n (λi=>F<|i+1)+F (n+1));rw[Yv F n,WI]
def zhq{m:J}{F:K->Pz}(n:K)(h:∀i,i<n->Cg m (F i) (pc 0)):Cg m (smP n F) (pc 0):=by
 induction n with
 |zero=>exact Cg.rfl
 |succ n c=>
  have:=(c λi hi=>h i W).add (h n W);rw[X6]at this;exact this
theorem R4(a b:J):pc (a+b)=pc a+pc b:=by grind [pc,zK]
def zgY(f g:Pz):∀n,pp (f+g) n=smP (n+1) λi=>pc (bj n i)*(pp f i*pp g (n-i))
 |0=>by
  show pc 1=pc 0+pc ((bj 0 0:K):J)*(pc 1*pc 1);rw[Cc,zw,show((bj 0 0:K):J)=1 from O,zw]
 |n+1=>by
  show pp (f+g) n*(f+g)=_;rw[zgY f g n,xH,nC,nC];have e1:(smP (n+1) λi=>pc (bj n i)*(pp f i*pp g (n-i))*g)=smP (n+2) λi=>pc (bj n i)*(pp f i*pp g (n+1-i)):=by
   have c:pc ((bj n (n+1):K):J)*(pp f (n+1)*pp g (n+1-(n+1)))=pc 0:=by rw[oy n (n+1) W];exact yf _
   show _=smP (n+1) _+pc ((bj n (n+1):K):J)*(pp f (n+1)*pp g (n+1-(n+1)));rw[c,X6];refine XC _ λi hi=> ?_;rw[(W:n+1-i=n-i+1),zd,zd];rfl
  have e:(smP (n+1) λi=>pc (bj n i)*(pp f i*pp g (n-i))*f)=smP (n+1) λi=>pc (bj n i)*(pp f (i+1)*pp g (n+1-(i+1))):=
   XC _ λi hi=>by rw[(W:n+1-(i+1)=n-i),zd,zk (pp f i*_) f,<-zd f,zk f<|pp f i];rfl
  rw[e1,e,Yv _<|n+1,Yv (λi=>pc ((bj (n+1) i:K):J)*(pp f i*pp g (n+1-i)))<|n+1,Vb,Vb,<-WI,Q2<|smP _ _,WI,<-Lu];congr 1;refine XC _ λi hi=> ?_;rw[Jh,xeD,R4,yF,Q2]
def znz(hp:2<=P)(hn:jx P)(f g:Pz):Cg (P:J) (pp (f+g) P) (pp f P+pp g P):=by
 obtain⟨q,rfl⟩:∃q,P=q+1:=⟨P-1,W⟩;rw[zgY];show Cg _ (smP (q+1) _+pc ((bj (q+1) (q+1):K):J)*(pp f (q+1)*pp g (q+1-(q+1)))) _;rw[Yv,DB,Vb,xcQ,show((1:K):J)=1 from O,zw,zw];have e:=zhq (m:=((q+1:K):J)) (F:=λi=>pc ((bj (q+1) (i+1):K):J)*(pp f (i+1)*pp g (q+1-(i+1)))) q λi hi=>Cg.of_dvd λk=>by
  rw[zP];exact xbp (xcF.2<|zaN hp hn)<|xcc _ _
 have h1:pp f 0*pp g (q+1-0)=pp g (q+1):=zw _;have h:pp f (q+1)*pp g 0=pp f (q+1):=ye _;rw[h1,h];have c:=((Cg.rfl (m:=((q+1:K):J)) (f:=pp g<|q+1)).add e).add<|Cg.rfl (f:=pp f<|q+1);rw[X6,Q2 (pp g _)<|pp f _]at c;exact c
def GW{P:K}(hp:2<=P)(hn:jx P)(F:K->Pz):∀n,Cg (P:J) (pp (smP n F) P) (smP n λi=>pp (F i) P)
 |0=>by
  show Cg _ (pp (pc 0) P) (pc 0);rw[zdE,Int.zero_pow W];exact Cg.rfl
 |n+1=>(znz hp hn (smP n F)<|F n).trans<|(GW hp hn F n).add Cg.rfl
def vx:Pz:=mono 1 1
def za5(c:J):∀i,(mono i c:Pz)=pc c*pp vx i
 |0=>by
  show _=pc c*pc 1;rw[ye];funext k;unfold mono pc;rfl
 |i+1=>by
  show _=pc c*(pp vx i*vx);rw[<-zd,<-za5 c i];funext k;rw[zk];show mono (i+1) c k=((mono 1 1:Pz)*mono i c) k;rw[jj];unfold sh mono;by_cases h:1<=k
  ·rw[iq h];by_cases e:k=i+1
   ·rw[iq e,zT,xcY]
   ·rw[ir e,zB,xaz]
  ·rw[ir h,zB];rfl
def zg3{n:K}(h:∀k,n<=k->f k=0):f=smP n λi=>mono i (f i):=by
 have e:∀m k,smP m (λi=>(mono i (f i):Pz)) k=if k<m then f k else 0:=λm=>by
  induction m with
  |zero=>intro k;rw[zB];exact zJ k
  |succ m j=>
   intro k;show(smP m (λi=>(mono i (f i):Pz))+mono m (f m)) k=_;rw[zK,j];unfold mono;by_cases h1:k=m
   ·rw[iq h1,zB,zT,h1,xcE]
   ·rw[ir h1,xbZ];by_cases c:k<m
    ·rw[iq c,zT]
    ·rw[ir c,zB]
 funext k;rw[e];split
 ·rfl
 ·exact h k W
def Cv(hp:2<=P)(hn:jx P)(a:J):a^P%P=a%P:=by
 have h1:a%P=((a%P).toNat:J)%P:=by
  have:=xcT a (W:(P:J)≠0);rw[xdj this,xaT]
 have c:=Tw hp hn (a%P).toNat;have e:=xcT a (W:(P:J)≠0);rw[xdj e,xaT]at c;rw[<-c,<-xcL (a^P)<|xed _];have:∀n,(a%P)^n%P=a^n%P:=λn=>by
  induction n with
  |zero=>rw[xcl,xcl]
  |succ n h=>rw[xbY,xbY,xck,h,xaT,<-xck]
 rw[this,xaT]
def znu(hp:2<=P)(hn:jx P){n:K}(h:∀k,n<=k->f k=0):Cg (P:J) (pp f P) (smP n λi=>pc (f i)*pp (pp vx P) i):=by
 have h1:pp f P=pp (smP n λi=>mono i<|f i) P:=by rw[<-zg3 h]
 rw[h1];refine(GW hp hn _ n).trans<|RR n λi hi=> ?_;rw[za5,ze7,zdE,zhh,zhh,xaO];refine Cg.mul (λk=> ?_) Cg.rfl;unfold pc;split
 ·exact Cv hp hn _
 ·rfl
def es(d:K->J):K->J->J
 |0,_=>0
 |n+1,a=>d 0+a*es (λk=>d<|k+1) n a
theorem zfd(a:J):∀(n:K) (d:K->J),∃q:K->J,(∀b,es d (n+1) b=(b-a)*es q n b+es d (n+1) a)/\(∀k,k<n->d (k+1)=q k-a*(if k+1<n then q (k+1)else 0))/\d 0=es d (n+1) a-a*(if 0<n then q 0 else 0)
 |0,d=>⟨λ_=>0,λb=>by show d 0+b*0=(b-a)*0+(d 0+a*0);grind,λk i=>by lia,by show d 0=d 0+a*0-a*(if 0<0 then 0 else 0);rw[zB];grind⟩
 |n+1,d=>by
  have⟨q,h1,j,h⟩:=zfd a n λk=>d<|k+1;have⟨e,c⟩:∃e,e=es (λk=>d<|k+1) (n+1) a:=⟨_,O⟩;rw[<-c]at h1 h
  refine⟨λk=>match k with
   |0=>e
   |k+1=>q k,λb=> ?_,λk i=> ?_,?_⟩
  ·show d 0+b*es (λk=>d<|k+1) (n+1) b=(b-a)*(e+b*es q n b)+(d 0+a*es (λk=>d<|k+1) (n+1) a);rw[h1 b,<-c];generalize es q n b=x;grind
  ·cases k with
   |zero=>
    show d (0+1)=e-a*(if 0+1<n+1 then q 0 else 0);have o:d (0+1)=e-a*(if 0<n then q 0 else 0):=h;rw[o];by_cases hn:0<n
    ·rw[iq hn,zT]
    ·rw[ir hn,zB]
   |succ k=>
    show d (k+1+1)=q k-a*(if k+1+1<n+1 then q (k+1)else 0);rw[j k W];by_cases hn:k+1<n
    ·rw[iq hn,zT]
    ·rw[ir hn,zB]
  ·show d 0=d 0+a*es (λk=>d<|k+1) (n+1) a-a*(if 0<n+1 then e else 0);rw[zT,c];grind
theorem HG(hp:2<=P)(hn:jx P){x:J}(h:(P:J)∣x*y):(P:J)∣x\/(P:J)∣y:=by
 by_cases c:(P:J)∣x
 ·exact .inl c
 ·right;have h0:0<(x%P).toNat:=by
   have h1:=xcT x (W:(P:J)≠0);have i:x%P≠0:=λe=>c<|xaB e;lia
  have h1:(x%P).toNat<P:=by
   have:=xdI x (W:(0:J)<P);lia
  have i:(P:J)∣(x%P)*y:=by
   have:(x%P)*y=x*y-P*(x/P*y):=by
    have:=Int.emod_add_mul_ediv x P;grind
   rw[this];exact xdw h<|xcc _ _
  have k:P∣(x%P).toNat*y.natAbs:=by
   have j:=xcq.2 i;rw[xcC]at j;have n:(x%P).natAbs=(x%P).toNat:=W
   rwa[xbh,n]at j
  exact xcq.1<|by rw[xbh];exact zbu hp hn h0 h1 k
def zbU{P:K}(hp:2<=P)(hn:jx P):∀(n:K) (d:K->J),n<=P->(∀a:K,a<n->(P:J)∣es d n a)->∀k,k<n->(P:J)∣d k
 |0,_,_,_,k,i=>by lia
 |n+1,d,t,h,k,i=>by
  have⟨q,h1,j,o⟩:=zfd (n:J) n d;have e:=zbU hp hn n q W λa x=>by
   have e1:=h1 a;have r:(P:J)∣((a:J)-n)*es q n a:=by
    have:((a:J)-n)*es q n a=es d (n+1) a-es d (n+1) n:=W
    rw[this];exact xdw (h a W)<|h n W
   obtain e3|e3:=HG hp hn r
   ·exfalso;have⟨c,hc⟩:=e3;have z:c<0:=by
     apply Int.not_le.1;intro hd;have:=xcJ (W:(0:J)<=P) hd;lia
    have A:(P:J)*c<=(P:J)*(-1):=xaV W W;lia
   ·exact e3
  have s:=h n W
  cases k with
  |zero=>
   rw[o];refine xdw s ?_;split
   ·exact xbp (e 0 W)<|xcx _ _
   ·rw[xaz];exact xdE _
  |succ k=>
   rw[j k W];refine xdw (e k W) ?_;split
   ·exact xbp (e (k+1) W)<|xcx _ _
   ·rw[xaz];exact xdE _
def sc:K->K->J
 |0,k=>if k=0 then 1 else 0
 |n+1,0=> -(n:J)*sc n 0
 |n+1,k+1=>sc n k-(n:J)*sc n (k+1)
theorem r9:∀n k,n<k->sc n k=0
 |0,k,h=>zB
 |n+1,0,h=>by lia
 |n+1,k+1,h=>by show sc n k-(n:J)*sc n (k+1)=0;rw[r9 n k W,r9 n (k+1) W];grind
theorem zaa:∀n,sc n n=1
 |0=>rfl
 |n+1=>by show sc n n-(n:J)*sc n (n+1)=1;rw[zaa n,r9 n (n+1) W];grind
def prv(v:Pz):K->Pz
 |0=>pc 1
 |n+1=>prv v n*(v-pc n)
theorem za7(a:J)(f:Pz):pc (-a)*f= -(pc a*f):=by grind [zbb,zP,Int.neg_mul]
theorem zbG(v:Pz):∀n,prv v n=smP (n+1) λk=>pc (sc n k)*pp v k
 |0=>by
  show pc 1=pc 0+pc (sc 0 0)*pc 1;rw[Cc,show sc 0 0=1 from O,ye]
 |n+1=>by
  show prv v n*(v-pc n)=_;have e:∀F G:Pz,F*(G-pc n)=F*G+ -(pc n*F):=λF G=>by rw[wm,zk F<|pc n,O5]
  rw[e,zbG v n,nC];have c: -(pc (n:J)*smP (n+1) λk=>pc (sc n k)*pp v k)=smP (n+2) λk=>pc (-(n:J)*sc n k)*pp v k:=by
   rw[<-za7,zk,nC];show _=smP (n+1) _+pc (-(n:J)*sc n (n+1))*pp v (n+1);rw[r9 n (n+1) W,xaz,yf,X6];exact XC _ λi _=>by rw[zk,<-zd,qf]
  rw[c,Yv _<|n+1,Yv (λk=>pc (sc (n+1) k)*pp v k)<|n+1,<-WI,Q2<|smP _ _,WI,<-Lu];congr 1;refine XC _ λi _=> ?_;show pc (sc n i)*pp v i*v+pc (-(n:J)*sc n (i+1))*pp v (i+1)=pc (sc n i-(n:J)*sc n (i+1))*pp v (i+1);rw[zd];show pc (sc n i)*pp v (i+1)+_=_;rw[<-yF,<-R4];congr 2;grind
theorem cB(d:K->J)(a:J):∀n,es d (n+1) a=es d n a+d n*a^n:=by
 intro n
 induction n generalizing d with
 |zero=>show d 0+a*0=0+d 0*a^0;rw[xcl];grind
 |succ n c=>
  show d 0+a*es (λk=>d<|k+1) (n+1) a=d 0+a*es (λk=>d<|k+1) n a+d (n+1)*a^(n+1);rw[c,xbY];grind
theorem TT(c d:K->J)(a:J):∀n,es (λk=>c k+d k) n a=es c n a+es d n a
 |0=>rfl
 |n+1=>by rw[cB,cB,cB,TT c d a n];grind
def prn(a:J):K->J
 |0=>1
 |n+1=>prn a n*(a-n)
theorem zgW(a:J):∀n,prn a n=es (sc n) (n+1) a
 |0=>by show(1:J)=1+a*0;grind
 |n+1=>by
  show prn a n*(a-n)=_;have h1:es (sc<|n+1) (n+2) a= -(n:J)*sc n 0+a*es (λk=>sc n k-(n:J)*sc n (k+1)) (n+1) a:=O;have e:es (λk=>sc n k-(n:J)*sc n (k+1)) (n+1) a=es (sc n) (n+1) a+es (λk=> -(n:J)*sc n (k+1)) (n+1) a:=by rw[<-TT];congr 1;funext k;grind
  have h:∀m (d:K->J) (c:J),es (λk=>c*d k) m a=c*es d m a:=λm=>by
   induction m with
   |zero=>intro d c;show(0:J)=c*0;grind
   |succ m i=>intro d c;rw[cB,cB,i];grind
  have j:es (sc n) (n+2) a=es (sc n) (n+1) a:=by rw[cB,r9 n (n+1) W,xba,xbZ]
  have o:es (sc n) (n+2) a=sc n 0+a*es (λk=>sc n<|k+1) (n+1) a:=O;rw[h1,e,h,zgW a n];grind
def zaZ{a:K}:∀n,a<n->prn a n=0
 |0,h=>by lia
 |n+1,h=>by
  show prn a n*((a:J)-n)=0;by_cases e:a=n
  ·rw[e,xee,xaz]
  ·rw[zaZ n W,xba]
theorem zmn(hp:2<=P)(hn:jx P)(k:K):sc P k%P=(if k=P then(1:J)else if k=1 then-1 else 0)%P:=by
 by_cases h:k<P
 ·have e:=zbU hp hn P (λk=>sc P k+(if k=1 then 1 else 0)) (Nm _) (λa i=>by
   rw[TT];have e1:es (λk=>if k=1 then(1:J)else 0) P (a:J)=a:=by
    obtain⟨q,rfl⟩:∃q,P=q+2:=⟨P-2,W⟩;show(0:J)+a*((1:J)+a*es (λk=>if k+1+1=1 then(1:J)else 0) q a)=a;have:∀m,es (λk=>if k+1+1=1 then(1:J)else 0) m (a:J)=0:=λm=>by
     induction m with
     |zero=>rfl
     |succ m j=>rw[cB,j,zB];grind
    rw[this];grind
   have n:=zgW (a:J) P;rw[zaZ P i,cB,zaa]at n;have o:=Cv hp hn (a:J);rw[e1];have r:es (sc P) P (a:J)+a=a-a^P:=by grind
   rw[r];exact xaB<|xaI.1 o.symm) k h
  rw[zB];have hc:=xaw e;by_cases h1:k=1
  ·rw[iq h1]at hc⊢;refine xaI.2 ?_;rw[(W:sc P k- -1=sc P k+1)];exact hc
  ·rw[ir h1]at hc⊢;rw[xbZ]at hc;rw[hc,xas]
 ·by_cases c:k=P
  ·rw[iq c,c,zaa]
  ·rw[ir c,zB,r9 P k W]
def zdI:∀n,(smP n λ_=>pc 0)=pc 0
 |0=>rfl
 |n+1=>by show(smP n λ_=>pc 0)+pc 0=pc 0;rw[zdI n,X6]
def zhZ(hp:2<=P)(hn:jx P)(v:Pz):Cg (P:J) (prv v P) (pp v P-v):=by
 rw[zbG]
 have h1:Cg (P:J) (smP (P+1) λk=>pc (sc P k)*pp v k) (smP (P+1) λk=>pc (if k=P then(1:J)else if k=1 then-1 else 0)*pp v k):=
  RR _ λk _=>Cg.mul (λj=>by unfold pc;split;exact zmn hp hn k;rfl) Cg.rfl
 refine h1.trans<|Cg.of ?_;obtain⟨q,rfl⟩:∃q,P=q+2:=⟨P-2,W⟩;show smP (q+2) _+pc (if q+2=q+2 then(1:J)else _)*pp v (q+2)=_;rw[iq O,zw,Yv _<|q+1,Yv _ q,zB,zB,zB,iq O];have c:(smP q λk=>pc (if k+1+1=q+2 then(1:J)else if k+1+1=1 then-1 else 0)*pp v (k+1+1))=pc 0:=by
  rw[XC (G:=λ_=>pc 0) q λi hi=>by rw[zB,zB,yf]];exact zdI q
 rw[c];have e:pc (-1)*pp v (0+1)= -v:=by
  rw[za7,zw];show-(pc 1*v)= -v;rw[zw]
 rw[e,yf];funext k;simp only[zK,yx,zbb,zJ];lia
def Di(p:J)(u v:Pz):Prop:=∃q:Pz,Fs q/\Cg p v (q*u)
def Di.refl(p:J)(u:Pz):Di p u u:=⟨pc 1,Fs.pc 1,Cg.of (zw u).symm⟩
def Di.trans{p:J}{u v w:Pz}(h:Di p u v)(g:Di p v w):Di p u w:=by
 have⟨q,f1,h1⟩:=h;have⟨r,f2,c⟩:=g;exact⟨r*q,f2.mul f1,c.trans<|((Cg.rfl (f:=r)).mul h1).trans<|Cg.of (zd r q u).symm⟩
def Di.add{p:J}{u v w:Pz}(h:Di p u v)(g:Di p u w):Di p u (v+w):=by
 have⟨q,f1,h1⟩:=h;have⟨r,f2,c⟩:=g;exact⟨q+r,f1.add f2,(h1.add c).trans<|Cg.of (yF q r u).symm⟩
def Di.sub{p:J}{u v w:Pz}(h:Di p u v)(g:Di p u w):Di p u (v-w):=by
 have⟨q,f1,h1⟩:=h;have⟨r,f2,c⟩:=g;exact⟨q-r,f1.subt f2,(h1.sub c).trans<|Cg.of (qp q r u).symm⟩
def Di.mul{p:J}{u v:Pz}(w:Pz)(c:Fs w)(h:Di p u v):Di p u (w*v):=by
 have⟨q,f1,h1⟩:=h;exact⟨w*q,c.mul f1,((Cg.rfl (f:=w)).mul h1).trans<|Cg.of (zd w q u).symm⟩
def Di.cg{u:Pz}(h:Di p u v)(g:Cg p v w):Di p u w:=by
 have⟨q,f1,h1⟩:=h;exact⟨q,f1,g.symm.trans h1⟩
def Di.zero(p:J)(u:Pz):Di p u (pc 0):=⟨pc 0,Fs.pc 0,Cg.of (yf u).symm⟩
def Di.euclid{u:Pz}(c:Fs w)(h:jF p u v)(g:Di p u (v*w)):Di p u w:=by
 have⟨s,t,fs,e,h1⟩:=h;have i:Cg p (w*s*u+t*(v*w)) w:=by
  refine Cg.trans (Cg.of ?_)<|(h1.mul<|Cg.rfl (f:=w)).trans<|Cg.of<|zw w;rw[yF,zd t,zk (s*u) w,zd w]
 refine Di.cg (Di.add ?_<|g.mul t e) i;exact⟨w*s,c.mul fs,Cg.rfl⟩
def Di.both{u:Pz}(j:Fs w)(h:jF p u v)(g1:Di p u w)(c:Di p v w):Di p (u*v) w:=by
 have⟨q,fq,h1⟩:=c;have e:Di p u q:=Di.euclid fq h<|g1.cg<|h1.trans<|Cg.of<|zk q v;have⟨r,fr,i⟩:=e;refine⟨r,fr,h1.trans<|(i.mul<|Cg.rfl (f:=v)).trans<|Cg.of<|zd r u v⟩
def Di.prz{p:J}{w:Pz}(e:Fs w):∀{us:N Pz},(∀u∈us,Fs u)->us.Pairwise (jF p)->(∀u∈us,Di p u w)->Di p (prZ us) w
 |[],_,_,_=>⟨w,e,Cg.of (ye w).symm⟩
 |u::us,i,hp,h=>by
  have⟨h1,j⟩:=xbQ.1 hp;refine Di.both e ?_ (h u<|FS)<|Di.prz e (λg c=>i g<|UV _ c) j λg c=>h g<|UV _ c;exact(jF.prZ (i u<|FS) (λg c=>i g<|UV _ c) λg c=>(h1 g c).symm).symm
structure VT(p:J)(u:N J):Prop where
 mn:vd p u
 l1:1<u.length
 ir:∀d,vd p d->Di p (ci d) (ci u)->d.length=1\/d=u
def Lh{a b:N J}(hp:2<=p)(c:vd p a)(i:vd p b)(h:Di p (ci a) (ci b))(hl:X b<=X a):a=b:=by
 have⟨q,fq,h1⟩:=h;have⟨n,hn⟩:=fq;have hd:=c.ln;have x:=i.ln;have z:=eH hp i c ⟨n,hn⟩ h1;have e:X a=X b:=W
 have j:Cg p ((q-pc 1)*ci a) (ci b-ci a):=by
  rw[qp,zw];exact h1.symm.sub Cg.rfl
 have o:=c.mn.zero hp (Fs.subt ⟨n,hn⟩<|Fs.pc 1) λk A=>by
  rw[j k,yx];by_cases hc:k=X a-1
  ·have r:=c.top;have s:=i.top;rw[hc,r,e,s,xee,xas]
  ·rw[yh W,yh W];exact xas _
 refine c.fm.ext i.fm ?_;have t:=j.symm.trans<|o.mul_zero_r<|ci a;exact(Cg.iff_sub.2 t).symm
theorem VT.or(hp:vF p=wF){l:N J}(c:VT p u)(i:X u<=290)(hl:Fp p l)(hc:X l<=290):Di p (ci u) (ci l)\/jF p (ci u) (ci l):=by
 have⟨j,q⟩:=zz hp;have⟨d,s,t,_,e,hd⟩:=kY (fu:=3000000) hp c.mn.fm hl i hc<|Nm _;have h:=zio j c.mn e hd;have⟨A,C,k,n,h1,o⟩:=e.dv;rcases c.ir d h ⟨A,k,h1⟩with h3|h3
 ·exact .inr<|Mx e h3 h.top
 ·left;rw[<-h3];exact⟨C,n,o⟩
def VT.ne(hp:2<=p)(e:VT p u):¬Di p (ci u) (pc 1):=λ⟨q,fq,h⟩=>by
 have hl:=e.l1;have h1:=e.mn.mn.zero hp fq λk i=>by rw[<-h k,show pc 1 k=0 from zB,xas]
 have c:=(h.trans<|h1.mul_zero_r _) 0;rw[zJ,xas]at c;unfold pc at c;rw[iq O,xaL gS W]at c;cases c
theorem VT.cop(hp:vF p=wF){w:N J}(c:VT p u)(e:VT p w)(i:X u<=290)(hc:X w<=290)(h:u≠w):jF p (ci u) (ci w):=by grind [VT.or,vd.fm,VT.mn,VT.ir,VT.l1]
def quo(hp:vF p=wF)(e:vd p m)(hd:vd p d)(k:X m<=90000)(h:Di p (ci d) (ci m)):∃q,vd p q/\Cg p (ci m) (ci q*ci d)/\X m+1=X q+X d:=by
 have⟨i,x⟩:=zz hp;have⟨A,j,h1⟩:=h;have hc:=eH i e hd j h1;have⟨q,r,_,n,o,s,t,z⟩:=xA (fu:=3000000) hp e.fm hd.fm hd.ln k W<|Nm _;have⟨a,b,c⟩:=Gz i e hd j h1 n o s t;exact⟨q,a,b,c⟩
def zn3(hp:vF p=wF):∀(n:K) {m:N J},X m=n->n<=290->vd p m->∃us:N (N J),(∀u∈us,VT p u/\X u<=n)/\Cg p (ci m) (prZ<|us.map ci):=by
 intro n
 induction n using xdz with
 |ind n j=>
  intro m F hn c;have⟨s,G⟩:=zz hp;have H:=c.ln;by_cases h1:X m=1
  ·refine⟨[],(λu e=>by cases e),?_⟩;have:=c.one h1;rw[this];refine Cg.of<|funext λk=> ?_;show ci [1] k=pc 1 k
   cases k with
   |zero=>rfl
   |succ k=>rw[yh gT];exact(zB).symm
  by_cases hi:VT p m
  ·refine⟨[m],λu e=> ?_,?_⟩
   ·rw[xad.1 e];exact⟨hi,W⟩
   ·exact Cg.of (ye<|ci m).symm
  ·have⟨d,i,hc,L,t⟩:∃d,vd p d/\Di p (ci d) (ci m)/\X d≠1/\d≠m:=by
    apply xae;intro x;refine hi ⟨c,W,λd z A=> ?_⟩;by_cases o:X d=1
    ·exact .inl o
    ·right;apply xae;intro B;exact x ⟨d,z,A,o,B⟩
   have⟨q,C,D,hv⟩:=quo hp c i W hc;have M:=i.ln;have Q:X d<X m:=by
    apply xdf;intro h;exact t<|Lh s i c hc h
   have⟨us,hd,hl⟩:=j (X d) W O W i;have⟨vs,r,E⟩:=j (X q) W O W C;refine⟨vs++us,λu e=> ?_,?_⟩
   ·obtain h|h:=So.1 e
    ·exact⟨(r u h).1,by have:=(r u h).2;lia⟩
    ·exact⟨(hd u h).1,by have:=(hd u h).2;lia⟩
   ·rw[xaW,wi];exact D.trans<|E.mul hl
def UK{p:J}{u:Pz}:∀{us:N Pz},(∀w∈us,Fs w)->u∈us->Di p u (prZ us)
 |[],_,h=>by cases h
 |w::us,c,h=>by
  have i:=Fs.prZ λg e=>c g<|UV _ e;obtain rfl|h:=xaa.1 h
  ·exact⟨prZ us,i,Cg.of<|zk _ _⟩
  ·exact(UK (λg e=>c g<|UV _ e) h).mul w<|c w<|FS
def VT.mem{p:J}(hp:vF p=wF){u:N J}(c:VT p u)(k:X u<=290):∀{us:N (N J)},(∀w∈us,VT p w/\X w<=290)->Di p (ci u) (prZ<|us.map ci)->u∈us
 |[],_,h=>wR h<|c.ne (zz hp).1
 |w::us,i,h=>by
  by_cases e:u=w
  ·rw[e];exact FS
  ·have h1:=c.cop hp (i w<|FS).1 k (i w<|FS).2 e;refine UV _<|VT.mem hp c k (λg j=>i g<|UV _ j)<|Di.euclid (Fs.prZ λg j=> ?_) h1 h;obtain⟨l,_,rfl⟩:=xat.1 j;exact Fs.ci l
def Fs.to{n:K}(h:∀k,n<=k->f k=0):Fs f:=⟨n,h⟩
def Fs.vx:Fs vx:=⟨2,λk c=>zB⟩
def lst(hp:0<p){n:K}(h:∀k,n<=k->f k=0):∃l:N J,Fp p l/\X l<=n/\Cg p (ci l) f:=by
 refine⟨pm p<|zl n f,Cj hp _,xal (zbx _ _) (by rw[z6];exact Nm _),?_⟩;exact(MO p _).trans<|Cg.of<|funext λk=>Xc h k
def VT.or'(hp:vF p=wF)(e:VT p u)(i:X u<=290){n:K}(h:∀k,n<=k->f k=0)(hn:n<=290):Di p (ci u) f\/jF p (ci u) f:=by
 have⟨j,o⟩:=zz hp;have⟨l,h1,q,c⟩:=lst (p:=p) W h;obtain h4|h4:=e.or hp i h1 W
 ·exact .inl<|h4.cg c
 ·exact .inr<|h4.congr Cg.rfl c
def VT.const(hp:2<=p)(e:VT p u){c:J}(h:Di p (ci u) (pc c)):p∣c:=by
 have⟨q,fq,h⟩:=h;have hl:=e.l1;have h1:=e.mn.mn.zero hp fq λk j=>by rw[<-h k,show pc c k=0 from zB,xas]
 have i:=(h.trans<|h1.mul_zero_r _) 0;rw[zJ,xas]at i;exact xaB i
def Di.const{c:J}{u:Pz}(h:p∣c):Di p u (pc c):=(Di.zero p u).cg λk=>by
 rw[zJ];unfold pc;split
 ·rw[xas,xaw h]
 ·rfl
def Vl(p:J)(u:N J)(v:Pz)(c:J):Prop:=Di p (ci u)<|v-pc c
theorem S4(a b:J):pc (a-b)=pc a-pc b:=by grind [pc,yx]
def Vl.uniq(hp:2<=p)(c:VT p u){b:J}(h:Vl p u v a)(g:Vl p u v b):p∣a-b:=by
 refine c.const hp<|(Di.sub g h).cg<|Cg.of ?_;rw[S4];funext k;simp only[yx];lia
def Vl.add{p:J}{u:N J}{v w:Pz}{a b:J}(h:Vl p u v a)(g:Vl p u w b):Vl p u (v+w) (a+b):=by
 refine(Di.add h g).cg<|Cg.of ?_;rw[R4];funext k;simp only[zK,yx];lia
def Vl.sub{p:J}{u:N J}{v w:Pz}{a b:J}(h:Vl p u v a)(g:Vl p u w b):Vl p u (v-w) (a-b):=by
 refine(Di.sub h g).cg<|Cg.of ?_;rw[S4];funext k;simp only[yx];lia
def Vl.mul{p:J}{u:N J}{v w:Pz}{a b:J}(c:Fs v)(h:Vl p u v a)(g:Vl p u w b):Vl p u (v*w) (a*b):=by
 refine(Di.add (Di.mul v c g)<|Di.mul (pc b) (Fs.pc b) h).cg<|Cg.of ?_;rw[wm,wm,zk v<|pc b,qf,xbw b a];funext k;simp only[zK,yx];lia
def Vl.pc(p:J)(u:N J)(c:J):Vl p u (pc c) c:=(Di.zero p<|ci u).cg<|Cg.of<|funext λk=>by rw[yx,zJ,xee]
def Vl.pp{p:J}{u:N J}{v:Pz}{a:J}(c:Fs v)(h:Vl p u v a):∀n,Vl p u (pp v n) (a^n)
 |0=>by rw[xcl];exact Vl.pc p u 1
 |n+1=>by rw[xbY];exact Vl.mul (c.pp n) (Vl.pp c h n) h
def Vl.cg{p:J}{u:N J}{v w:Pz}{a:J}(h:Vl p u v a)(g:Cg p v w):Vl p u w a:=Di.cg h<|g.sub Cg.rfl
def Vl.md{b:J}(h:Vl p u v a)(g:p∣a-b):Vl p u v b:=by
 refine(Di.add h<|Di.const (u:=ci u) g).cg<|Cg.of ?_;rw[S4];funext k;simp only[zK,yx];lia
def Vl.di(hp:2<=p)(c:VT p u)(h:Vl p u v a):Di p (ci u) v↔p∣a:=by
 constructor
 ·intro g;have h0:Vl p u v 0:=g.cg (Cg.of<|funext λk=>by rw[yx,zJ,xdc]);have:=h.uniq hp c h0;rwa[xdc]at this
 ·intro g;have h0:Vl p u v 0:=h.md (by rwa[xdc]);exact Di.cg h0<|Cg.of<|funext λk=>by rw[yx,zJ,xdc]
def zfo{p:J}(hp:vF p=wF){u:N J}(e:VT p u)(o:X u<=290){v:Pz}{n:K}(hv:∀k,n<=k->v k=0)(hd:1<=n)(hn:n<=290):∀j,Di p (ci u) (prv v j)->∃c:K,c<j/\Vl p u v c
 |0,h=>wR h<|e.ne (zz hp).1
 |j+1,h=>by
  have q:∀k,n<=k->(v-pc (j:J)) k=0:=λk r=>by rw[yx,hv k r,show pc (j:J) k=0 from zB];rfl
  obtain h1|h1:=e.or' hp o q hn
  ·exact⟨j,W,h1⟩
  ·have s:∀i,Fs (prv v i):=λi=>by
    induction i with
    |zero=>exact Fs.pc 1
    |succ i t=>exact t.mul<|(Fs.to hv).subt<|Fs.pc _
   have x:Di p (ci u) (prv v j):=Di.euclid (s j) h1<|h.cg<|Cg.of<|zk _ _;have⟨c,hc,z⟩:=zfo hp e o hv hd hn j x;exact⟨c,W,z⟩
def zjb(hp:vF (P:J)=wF)(h:VT (P:J) u)(hc:X u<=290)(hd:Di (P:J) (ci u) (ci m)){n:K}(hv:∀k,n<=k->v k=0)(i:1<=n)(hn:n<=290)(j:Di (P:J) (ci m) (pp v P-v)):∃c:K,c<P/\Vl (P:J) u v c:=by
 have⟨o,q⟩:=zz hp;have e:=XW hp;rw[xbc]at e;exact zfo hp h hc hv i hn P<|(hd.trans j).cg (zhZ W e v).symm
def zoM{p:J}{m:N J}(c:vd p m):∀(n:K) (f:Pz),(∀k,n<=k->f k=0)->∃q r:Pz,Fs q/\(∀k,X m-1<=k->r k=0)/\f=q*ci m+r
 |0,f,h=>⟨pc 0,pc 0,Fs.pc 0,λk _=>zJ k,qR λk=>by rw[zK,yf,zJ,h k W];rfl⟩
 |n+1,f,h=>by
  have hl:=c.ln;by_cases hn:n+1<=X m-1
  ·exact⟨pc 0,f,Fs.pc 0,λk i=>h k W,qR λk=>by rw[zK,yf,zJ,xcE]⟩
  ·have⟨d,hd⟩:∃d,d=X m-1:=⟨_,O⟩;have⟨q,r,fq,j,o⟩:=zoM c n (f-mono (n-d) (f n)*ci m) λk i=>by
    rw[yx,jj];unfold sh;rw[zT];by_cases e:k=n
    ·have s:=c.top;rw[e,(W:n-(n-d)=X m-1),s];lia
    ·rw[h k W,yh W];lia
   refine⟨q+mono (n-d) (f n),r,fq.add ⟨n+1,λk i=>zB⟩,j,?_⟩;rw[yF];funext k;have:=Wf o k;simp only[zK,yx]at this⊢;lia
def zpl(hp:vF (P:J)=wF)(M:vd (P:J) m)(E:∀u∈us,VT (P:J) u/\X u<=290)(Jc:us.Pairwise (λa b=>jF (P:J) (ci a)<|ci b))(hc:Cg (P:J) (ci m) (prZ<|us.map ci))(hd:u∈us):
 ∃e:Pz,(∀k,X m-1<=k->e k=0)/\Vl (P:J) u e 1/\(∀w,w∈us->w≠u->Vl (P:J) w e 0)/\Di (P:J) (ci m) (pp e P-e):=by
 have⟨F,p2⟩:=zz hp;have Q:=XW hp;rw[xbc]at Q;have⟨a,b,G⟩:=xeg hd;have o:∀{l:N (N J)},∀g∈l.map ci,Fs g:=λg x=>by obtain⟨l,_,rfl⟩:=xat.1 x;exact Fs.ci l
 have⟨i,C⟩:∃i,i=prZ ((a++b).map ci):=⟨_,O⟩;have R:Fs i:=by rw[C];exact Fs.prZ o
 have hi:jF (P:J) (ci u) i:=by
  rw[C];refine(jF.prZ (Fs.ci u) o λg x=> ?_).symm;obtain⟨l,hl,rfl⟩:=xat.1 x;rw[G,xdp,xbQ]at Jc;obtain h|h:=So.1 hl
  ·exact Jc.2.2 l h u<|FS
  ·exact(Jc.2.1.1 l h).symm
 have⟨s,t,fs,H,h1⟩:=hi;have⟨n,hn⟩:=H.mul R;have⟨q,e,fq,K,S⟩:=zoM M n (t*i) hn;have T:∀w∈us,Di (P:J) (ci w) (ci m):=λw j=>Di.cg (UK o<|xbI j) hc.symm;have L:∀w∈us,∀{c:J},Vl (P:J) w (t*i) c->Vl (P:J) w e c:=λw j c h=>by
  have z:=Di.sub h<|Di.mul q fq<|T w j;refine z.cg<|Cg.of ?_;rw[S];funext k;simp only[zK,yx];lia
 have v1:Vl (P:J) u e 1:=L u hd (by
  have z:Di (P:J) (ci u) (pc 0-s*ci u):=(Di.zero _ _).sub ⟨s,fs,Cg.rfl⟩;refine z.cg<|Cg.trans (Cg.of ?_)<|(Cg.rfl (f:=t*i)).sub h1;funext k;simp only[zK,yx,zJ];lia)
 have v0:∀w,w∈us->w≠u->Vl (P:J) w e 0:=λw j U=>L w j (by
  have V:w∈a++b:=by
   rw[G]at j;obtain h|h:=So.1 j
   ·exact xcM _ h
   ·obtain h|h:=xaa.1 h
    ·exact wR h U
    ·exact xeh _ h
  have z:Di (P:J) (ci w) i:=by rw[C];exact UK o<|xbI V
  exact(z.mul t H).cg<|Cg.of<|funext λk=>by rw[yx,zJ,xdc])
 refine⟨e,K,v1,v0,?_⟩;have B:=Fs.to K;have Y:Di (P:J) (prZ<|us.map ci) (pp e P-e):=by
  refine Di.prz ((B.pp P).subt B) o ?_ λg x=> ?_
  ·exact xeq.2 Jc
  ·obtain⟨w,j,rfl⟩:=xat.1 x;by_cases D:w=u
   ·subst D;have A:=Vl.sub (Vl.pp B v1 P) v1;rw[Int.one_pow,xee]at A;exact(A.di F (E w j).1).2<|xdE _
   ·have A:=Vl.sub (Vl.pp B (v0 w j D) P)<|v0 w j D;rw[Int.zero_pow W,xee]at A;exact(A.di F (E w j).1).2<|xdE _
 have⟨r,fr,h5⟩:=Y;exact⟨r,fr,h5.trans<|Cg.rfl.mul hc.symm⟩
def nA{p:J}{u:N J}{a c:K->J}{b:K->Pz}:∀n,(∀i,i<n->Vl p u (b i) (c i))->Vl p u (smP n λi=>pc (a i)*b i) (yi n λi=>a i*c i)
 |0,_=>Vl.pc p u 0
 |n+1,h=>Vl.add (nA n λi hi=>h i W)<|Vl.mul (Fs.pc _) (Vl.pc p u<|a n)<|h n W
def sep(hp:vF (P:J)=wF)(s:vd (P:J) m)(j:∀u∈us,VT (P:J) u/\X u<=290)(Jc:us.Pairwise (λa b=>jF (P:J) (ci a)<|ci b))(hc:Cg (P:J) (ci m) (prZ<|us.map ci)){n:K}(t:∀e:Pz,(∀k,X m-1<=k->e k=0)->Di (P:J) (ci m) (pp e P-e)->∃a:K->J,Cg (P:J) e<|smP n λi=>pc (a i)*b i){w:N J}(hd:u∈us)(o:w∈us){c:K->J}(h1:∀i,i<n->Vl (P:J) u (b i) (c i))(x:∀i,i<n->Vl (P:J) w (b i) (c i)):u=w:=by
 have⟨q,G⟩:=zz hp;apply xae;intro z;have⟨e,e1,A,B,C⟩:=zpl hp s j Jc hc hd;have⟨a,r⟩:=t e e1 C;have f1:=(nA (a:=a) n h1).cg r.symm;have f2:=(nA (a:=a) n x).cg r.symm;have g1:=A.uniq q (j u hd).1 f1;have D:=(B w o λh=>z h.symm).uniq q (j w o).1 f2;have E:=xdw g1 D;have⟨k,H⟩:=E;have F:(P:J)*k=1:=W
 have h6:k=1\/k<=0\/2<=k:=W
 obtain h6|h6|h6:=h6
 ·rw[h6]at F;lia
 ·have:=xaV h6 (W:(0:J)<=P);lia
 ·have:=xaV h6 (W:(0:J)<=P);lia
theorem zaS{P:J}{a b:J}(h:P∣a-b):∀n:K,P∣a^n-b^n
 |0=>by rw[xcl,xcl,xee];exact xdE _
 |n+1=>by
  have⟨x,c⟩:=h;have⟨y,e⟩:=zaS ⟨x,c⟩ n;refine⟨y*a+b^n*x,?_⟩;rw[xbY,xbY];grind
def rJ(P:K)(y:J):Prop:=if 2<P then(P:J)∣y^((P-1)/2)-1 else(P:J)∣y
def rJ.md{z:J}(h:(P:J)∣y-z)(g:rJ P y):rJ P z:=by
 unfold rJ at g⊢;split
 ·rw[UT ‹_›]at g;have:=zaS h<|(P-1)/2;have e:=xdw g this;have c:y^((P-1)/2)-1-(y^((P-1)/2)-z^((P-1)/2))=z^((P-1)/2)-1:=W
  rwa[c]at e
 ·rw[if_neg ‹_›]at g;have e:=xdw g h;have c:y-(y-z)=z:=W
  rwa[c]at e
def rJ.iff{z:J}(h:(P:J)∣y-z):rJ P y↔rJ P z:=by
 refine⟨rJ.md h,rJ.md ?_⟩;have⟨k,c⟩:=h;exact⟨-k,by rw[Int.mul_neg];lia⟩
def L9(hp:vF (P:J)=wF){d:J}(hd:¬(P:J)∣d):∃k:K,(P:J)∣(k:J)*d-1:=by
 have⟨n,o⟩:=zz hp;have h0:=xcT d (W:(P:J)≠0);have h1:=xdI d (W:(0:J)<P);have q:d%P≠0:=λe=>hd<|xaB e;have c:=Sx hp (W:0<d%P) h1;have⟨x,h⟩:∃x,x=(d%P)^((P:J)-2).toNat:=⟨_,O⟩;rw[<-h]at c;have i:0<=x:=by rw[h];exact xfA h0
 refine⟨x.toNat,?_⟩;rw[xdj i];have j:(x*d)%P=1%P:=by rw[xck,<-xcL d<|xed _,<-xck,c,xaL gS W]
 exact xaB<|xaI.1 j
def zjs(hp:vF (P:J)=wF)(A:P=2\/P%2=1){b:J}(h:∀c:K,c<P->(rJ P (a+c)↔rJ P (b+c))):(P:J)∣a-b:=by
 have⟨B,C⟩:=zz hp;apply xae;intro hd;have hc:∀y:J,rJ P (a+y)↔rJ P (b+y):=λy=>by
  have e1:=xcT y (W:(P:J)≠0);have D:=xdI y (W:(0:J)<P);have j:=h (y%P).toNat W;rw[xdj e1]at j;have E:(P:J)∣y-y%P:=⟨y/P,by have:=Int.emod_add_mul_ediv y P;lia⟩;have o:(P:J)∣a+y-(a+y%P):=by rwa[(W:a+y-(a+y%P)=y-y%P)]
  have r:(P:J)∣b+y-(b+y%P):=by rwa[(W:b+y-(b+y%P)=y-y%P)]
  exact(rJ.iff o).trans<|j.trans (rJ.iff r).symm
 have s:∀y:J,rJ P y↔rJ P (y+(a-b)):=λy=>by
  have:=hc<|y-b;rw[(W:b+(y-b)=y),(W:a+(y-b)=y+(a-b))]at this;exact this.symm
 have t:∀k:K,rJ P 0↔rJ P ((k:J)*(a-b)):=λk=>by
  induction k with
  |zero=>rw[show((0:K):J)=0 from O,xba]
  |succ k x=>
   refine x.trans<|(s _).trans ?_;rw[xeD,Int.add_mul,show((1:K):J)=1 from O,xcY]
 have⟨k,h1⟩:=L9 hp hd;have e:=(t k).trans<|rJ.iff h1;have n:¬(P:J)∣1:=λ⟨q,z⟩=>by
  have h6:q<=0\/1<=q:=W
  obtain h6|h6:=h6
  ·have:=xaV h6 (W:(0:J)<=P);lia
  ·have:=xaV h6 (W:(0:J)<=P);lia
 unfold rJ at e;by_cases i:2<P
 ·rw[iq i,iq i,Int.one_pow,xee,Int.zero_pow W]at e;have:=e.2<|xdE _;refine n ?_;have⟨q,z⟩:=this;exact⟨-q,by rw[Int.mul_neg];lia⟩
 ·rw[ir i,ir i]at e;exact n<|e.1<|xdE _
theorem zfa(A B D:K->J)(x z:J):∀n,yi n (λi=>A i*(B i-x*D i*z))=yi n (λi=>A i*B i)-x*z*yi n (λi=>A i*D i)
 |0=>by show(0:J)=0-x*z*0;lia
 |n+1=>by
  show yi n _+A n*(B n-x*D n*z)=yi n _+A n*B n-x*z*(yi n _+A n*D n);rw[zfa A B D x z n];grind
theorem Dk{P:K}(hp:vF (P:J)=wF):∀(n:K) (c:N K) (A C:K->K->J),c.Nodup->(∀j∈c,∀k∈c,(P:J)∣yi n (λi=>A j i*C i k)-(if j=k then 1 else 0))->X c<=n
 |0,[],_,_,_,_=>Nm _
 |0,j::c,A,C,_,h=>by
  exfalso;have⟨Y,p2⟩:=zz hp;have:=h j (FS) j<|FS;rw[iq O]at this;have⟨q,H⟩:=this;have hi:(0:J)-1=P*q:=H;have h6:q<= -1\/0<=q:=W
  obtain h6|h6:=h6
  ·have:=xaV h6 (W:(0:J)<=P);lia
  ·have:=xcJ (W:(0:J)<=P) h6;lia
 |n+1,c,A,C,t,h=>by
  by_cases D:∀j∈c,(P:J)∣C n j
  ·refine Nat.le_succ_of_le<|Dk hp n c A C t λj r k z=> ?_;have h1:=h j r k z;have B:(P:J)∣A j n*C n k:=xbp (D k z)<|xcx _ _;have L:=xdw h1 B;have e:yi (n+1) (λi=>A j i*C i k)-(if j=k then 1 else 0)-A j n*C n k=yi n (λi=>A j i*C i k)-(if j=k then 1 else 0):=by
    show yi n _+A j n*C n k-_-A j n*C n k=_;lia
   rwa[e]at L
  ·have⟨o,hd,hc⟩:∃o,o∈c/\¬(P:J)∣C n o:=by
    apply xae;intro M;refine D λj r=> ?_;apply xae;intro h1;exact M ⟨j,r,h1⟩
   have⟨x,Q⟩:=L9 hp hc;have R:=List.length_erase_of_mem hd;have S:=xfr hd;have:=Dk hp n (c.erase o) A (λi k=>C i k-(x:J)*C i o*C n k) (t.erase o) λj r k z=>by
    have⟨n1,F⟩:=t.mem_erase_iff.1 r;have⟨n2,T⟩:=t.mem_erase_iff.1 z;have h1:=h j F k T;have B:=h j F o hd;rw[ir n1,xdc]at B;rw[zfa];have⟨k1,e1⟩:=h1;have⟨k2,G⟩:=B;have⟨U,e3⟩:=Q;have s:yi n (λi=>A j i*C i k)+A j n*C n k-(if j=k then 1 else 0)=P*k1:=e1;have E:yi n (λi=>A j i*C i o)+A j n*C n o=P*k2:=G;have V:(if j=k then(1:J)else 0)=if j=k then 1 else 0:=O;generalize(if j=k then(1:J)else 0)=dl at s⊢;generalize yi n (λi=>A j i*C i k)=s1 at s⊢;generalize yi n (λi=>A j i*C i o)=s0 at E⊢;refine⟨k1-((x:J)*C n k*k2-A j n*C n k*U),?_⟩;clear e1 G V D hc h R S;grind
   lia
structure Sf(p:J)(m:N J)(us:N (N J)):Prop where
 hp:vF p=wF
 mn:vd p m
 ml:m.length<=290
 ir:∀u∈us,VT p u/\u.length<=290
 pw:us.Pairwise (λa b=>jF p (ci a)<|ci b)
 cg:Cg p (ci m) (prZ<|us.map ci)
theorem UQ:∀g∈l.map ci,Fs g:=by grind [ci,Fs.ci]
theorem VT.self(hp:2<=p)(c:VT p u):¬jF p (ci u) (ci u):=λ⟨s,t,fs,e,h⟩=>by
 refine c.ne hp ⟨s+t,fs.add e,h.symm.trans<|Cg.of ?_⟩;rw[yF]
def Sf.dv(h:Sf p m us)(c:u∈us):Di p (ci u) (ci m):=(UK UQ<|xbI c).cg h.cg.symm
def Sf.mem{p:J}{m:N J}{us:N (N J)}(h:Sf p m us){u:N J}(c:VT p u)(e:X u<=290)(hd:Di p (ci u) (ci m)):u∈us:=c.mem h.hp e h.ir<|hd.cg h.cg
def Sf.sq(h:Sf p m us)(e:u∈us):¬Di p (ci u*ci u) (ci m):=λhd=>by
 have⟨c,A⟩:=zz h.hp;obtain⟨a,b,rfl⟩:=xeg e;have⟨hi,j⟩:=h.ir u e;have Jc:=h.pw;rw[xdp,xbQ]at Jc;have⟨q,fq,h1⟩:=hd;have i:=h.cg;rw[xaW,xcb,wi]at i;have n:Cg p (prZ (a.map ci)*(ci u*prZ (b.map ci))) (q*(ci u*ci u)):=i.symm.trans h1;have o:Fs (prZ<|(a++b).map ci):=Fs.prZ UQ;have r:Cg p ((prZ ((a++b).map ci)-q*ci u)*ci u) (pc 0):=by
  rw[qp,xaW,wi];refine Cg.trans (Cg.sub (Cg.of ?_)<|Cg.of<|zd q (ci u)<|ci u)<|Cg.iff_sub.1 n;rw[zd,zk<|prZ<|b.map ci]
 have s:=hi.mn.mn.zero c (o.subt<|fq.mul<|Fs.ci u) λk B=>by rw[r k,zJ,xas]
 have t:Di p (ci u) (prZ<|(a++b).map ci):=⟨q,fq,Cg.iff_sub.2 s⟩;have x:=hi.mem h.hp j (us:=a++b) (λw z=>by
  obtain h|h:=So.1 z
  ·exact(by assumption:Sf p m (a++u::b)).ir w<|xcM _ h
  ·exact(by assumption:Sf p m (a++u::b)).ir w<|xeh _<|UV _ h) t
 obtain h8|h8:=So.1 x
 ·exact hi.self c<|Jc.2.2 u h8 u<|FS
 ·exact hi.self c<|Jc.2.1.1 u h8
def Sf.len(h:Sf p m us)(c:vd p g)(hd:Di p (ci g) (ci m)):X g<=290:=by
 have⟨q,fq,h1⟩:=hd;exact xal (eH (zz h.hp).1 h.mn c fq h1) h.ml
def Sf.some{p:J}{m:N J}{us:N (N J)}(h:Sf p m us){g:N J}(e:vd p g)(hd:Di p (ci g) (ci m))(hl:1<X g):∃u,u∈us/\Di p (ci u) (ci g):=by
 have j:=h.len e hd;have⟨vs,h1,i⟩:=zn3 h.hp (X g) O j e
 cases vs with
 |nil=>
  exfalso;have c:=i<|X g-1;have k:=e.top;have hp:=(zz h.hp).1;rw[k,show prZ (List.map ci [])=pc 1 from O,show pc 1 (X g-1)=0 from zB,xas,xaL gS W]at c;cases c
 |cons v vs=>
  have c:Di p (ci v) (ci g):=(UK UQ<|xbI<|FS).cg i.symm;have⟨n,o⟩:=h1 v<|FS;exact⟨v,h.mem n W<|c.trans hd,c⟩
def Sf.one{p:J}{m:N J}{us:N (N J)}(h:Sf p m us){g:N J}(c:vd p g)(hd:Di p (ci g) (ci m))(hl:1<X g)(o:∀u∈us,∀w∈us,Di p (ci u) (ci g)->Di p (ci w) (ci g)->u=w):VT p g:=by
 have⟨s,A⟩:=zz h.hp;have B:=h.len c hd;have⟨u,i,h1⟩:=h.some c hd hl;have⟨hi,C⟩:=h.ir u i;have⟨q,j,hc,hn⟩:=quo h.hp c hi.mn W h1;by_cases t:1<X q
 ·exfalso;have k:Di p (ci q) (ci g):=⟨ci u,Fs.ci u,hc.trans<|Cg.of<|zk _ _⟩;have⟨w,x,n⟩:=h.some j (k.trans hd) t;have e:=o w x u i (n.trans k) h1;subst e;have⟨r,fr,z⟩:=n;refine h.sq i<|Di.trans ⟨r,fr,hc.trans<|(z.mul Cg.rfl).trans<|Cg.of<|zd _ _ _⟩ hd
 ·have hp:=j.ln;have D:=j.one W;have:g=u:=by
   refine(Lh s hi.mn c h1 ?_).symm;lia
  rw[this];exact hi
def Sf.apart(h:Sf p m us){a b:Pz}(k:Fs a)(n:Fs b)(c:Di p (a*b) (ci m))(e:u∈us)(h1:Di p (ci u) a)(i:Di p (ci u) b):V6:=by
 have⟨q,fq,e1⟩:=h1;have⟨r,fr,j⟩:=i;refine h.sq e<|Di.trans ⟨q*r,fq.mul fr,(e1.mul j).trans<|Cg.of ?_⟩ c;rw[zd,zd,zC (ci u) r]
def zmA{t e i:N J}{S:K}(c:BzR p g t d e i S)(u:N J):Di p (ci u) (ci d)↔Di p (ci u) (ci g)/\Di p (ci u) (ci t):=by
 have⟨A,C,j,k,h1,n⟩:=c.dv;refine⟨λh=>⟨h.trans ⟨A,j,h1⟩,h.trans ⟨C,k,n⟩⟩,λ⟨a,b⟩=> ?_⟩;exact(Di.add (a.mul _<|Fs.ci _)<|b.mul _<|Fs.ci _).cg c.cg.symm
def bE{α:Type}[DecidableEq α]:∀{vs us:N α},vs.Nodup->(∀v∈vs,v∈us)->X vs<=X us
 |[],_,_,_=>xai _
 |v::vs,us,hn,h=>by
  have⟨h1,i⟩:=xfk.1 hn;have hv:=h v<|FS;have j:=bE (us:=us.erase v) i λw c=>by
   refine(List.mem_erase_of_ne λe=> ?_).2<|h w<|UV _ c;rw[e]at c;exact h1 c
  have k:=List.length_erase_of_mem hv;have n:=xfr hv;simp only[xau];lia
def Sf.nodup(h:Sf p m us):us.Nodup:=by
 have hp:=(zz h.hp).1;have:∀us:N (N J),(∀u∈us,VT p u/\X u<=290)->us.Pairwise (λa b=>jF p (ci a)<|ci b)->us.Nodup:=λus=>by
  induction us with
  |nil=>intro _ _;exact List.nodup_nil
  |cons u us c=>
   intro hi e;have⟨w1,i⟩:=xbQ.1 e;refine xfk.2 ⟨λj=> ?_,c (λg k=>hi g<|UV _ k) i⟩;exact(hi u<|FS).1.self hp<|w1 u j
 exact this us h.ir h.pw
structure Pl(p:J)(m:N J)(l:N (N J)):Prop where
 mn:∀g∈l,vd p g/\1<g.length
 pr:Cg p (ci m) (prZ<|l.map ci)
def Pl.dv(h:Pl p m l)(c:g∈l):Di p (ci g) (ci m):=(UK UQ<|xbI c).cg h.pr.symm
theorem zbl(a b:N (N J))(g:N J):prZ ((a++g::b).map ci)=ci g*prZ ((a++b).map ci):=by grind [prZ,ci,wi,zC]
def Sf.pick{p:J}{m:N J}{us:N (N J)}(h:Sf p m us):∀{l:N (N J)},(∀g∈l,vd p g/\1<X g)->Di p (prZ<|l.map ci) (ci m)->∃vs:N (N J),X vs=X l/\vs.Nodup/\∀v∈vs,v∈us/\Di p (ci v) (prZ<|l.map ci)
 |[],_,_=>⟨[],O,List.nodup_nil,λv hv=>by cases hv⟩
 |g::l,c,hd=>by
  have fl:Fs (prZ<|l.map ci):=Fs.prZ UQ;have d1:Di p (ci g) (prZ<|(g::l).map ci):=⟨prZ<|l.map ci,fl,Cg.of<|zk _ _⟩;have d2:Di p (prZ<|l.map ci) (prZ<|(g::l).map ci):=⟨ci g,Fs.ci g,Cg.rfl⟩;have⟨j,k⟩:=c g<|FS;have⟨u,e,i⟩:=h.some j (d1.trans hd) k;have⟨vs,v1,n,v3⟩:=h.pick (λg o=>c g<|UV _ o)<|d2.trans hd;refine⟨u::vs,by simp[v1],xfk.2 ⟨λhc=> ?_,n⟩,λv hv=> ?_⟩
  ·exact h.apart (Fs.ci g) fl hd e i (v3 u hc).2
  ·obtain rfl|hv:=xaa.1 hv
   ·exact⟨e,i.trans d1⟩
   ·exact⟨(v3 v hv).1,(v3 v hv).2.trans d2⟩
def Sf.more(h:Sf p m us)(hl:Pl p m l){w:N J}(j:g∈l)(c:u∈us)(e:w∈us)(h1:Di p (ci u) (ci g))(k:Di p (ci w) (ci g))(n:u≠w):X l<X us:=by
 obtain⟨a,b,rfl⟩:=xeg j;have i:=hl.pr;rw[zbl]at i;have fl:Fs (prZ<|(a++b).map ci):=Fs.prZ UQ;have hd:Di p (ci g*prZ ((a++b).map ci)) (ci m):=⟨pc 1,Fs.pc 1,i.trans<|Cg.of (zw _).symm⟩;have⟨vs,v1,o,v3⟩:=h.pick (l:=a++b) (λx q=>by
  obtain h|h:=So.1 q
  ·exact hl.mn x<|xcM _ h
  ·exact hl.mn x<|xeh _<|UV _ h) (Di.trans ⟨ci g,Fs.ci g,Cg.rfl⟩ hd)
 have hn:(u::w::vs).Nodup:=by
  refine xfk.2 ⟨λhc=> ?_,xfk.2 ⟨λhc=> ?_,o⟩⟩
  ·obtain hc|hc:=xaa.1 hc
   ·exact n hc
   ·exact h.apart (Fs.ci g) fl hd c h1 (v3 u hc).2
  ·exact h.apart (Fs.ci g) fl hd e k (v3 w hc).2
 have:=bE (us:=us) hn λv hv=>by
  obtain rfl|hv:=xaa.1 hv
  ·exact c
  ·obtain rfl|hv:=xaa.1 hv
   ·exact e
   ·exact(v3 v hv).1
 simp only[xau,xap]at this v1⊢;lia
def Pl.split{a b:N (N J)}{q:N J}(h:Pl p m (a++g::b))(hd:vd p d)(c:vd p q)(e:1<X d)(i:1<X q)(hc:Cg p (ci g) (ci q*ci d)):Pl p m (a++d::(b++[q])):=by
 refine⟨λx hx=> ?_,?_⟩
 ·obtain hx|hx:=So.1 hx
  ·exact h.mn x<|xcM _ hx
  ·obtain rfl|hx:=xaa.1 hx
   ·exact⟨hd,e⟩
   ·obtain hx|hx:=So.1 hx
    ·exact h.mn x<|xeh _<|UV _ hx
    ·rw[xad.1 hx];exact⟨c,i⟩
 ·have h1:=h.pr;rw[zbl]at h1⊢;rw[<-xaf,xaW,wi];refine h1.trans<|(hc.mul Cg.rfl).trans<|Cg.of ?_;show ci q*ci d*prZ ((a++b).map ci)=ci d*(prZ ((a++b).map ci)*(ci q*pc 1));rw[ye,zk (prZ _)<|ci q,zC<|ci d,zd]
structure Bs(P:K)(m:N J)(b:K->Pz)(n:K):Prop where
 od:P=2\/P%2=1
 ml:1<m.length
 sp:∀e:Pz,(∀k,m.length-1<=k->e k=0)->Di (P:J) (ci m) (pp e P-e)->∃a:K->J,Cg (P:J) e<|smP n λi=>pc (a i)*b i
 sm:∀i,i<n->∀k,m.length-1<=k->b i k=0
 fx:∀i,i<n->Di (P:J) (ci m) (pp (b i) P-b i)
def Bs.val(h:Sf (P:J) m us){n:K}(e:Bs P m b n)(j:u∈us){i:K}(hi:i<n):∃c:K,c<P/\Vl (P:J) u (b i) c:=by
 have hl:=h.ml;have k:=e.ml;exact zjb h.hp (h.ir u j).1 (h.ir u j).2 (h.dv j) (n:=X m-1) (e.sm i hi) W W<|e.fx i hi
def Bs.le(h:Sf (P:J) m us){n:K}(D:Bs P m b n):X us<=n:=by
 have⟨E,U⟩:=zz h.hp;have hl:=h.nodup;have hd:∀j,j<X us->us.getD j []∈us:=λj k=>by rw[H1,xah k];exact xbE k
 have F:∀i j,∃c:J,i<n->j<X us->Vl (P:J) (us.getD j []) (b i) c:=λi j=>by
  by_cases hi:i<n
  ·by_cases k:j<X us
   ·have⟨c,_,hc⟩:=D.val h (hd j k) hi;exact⟨c,λ_ _=>hc⟩
   ·exact⟨0,λ_ h=>wR h k⟩
  ·exact⟨0,λh=>wR h hi⟩
 have G:∀j,∃a:K->J,j<X us->∃e:Pz,Cg (P:J) e (smP n λi=>pc (a i)*b i)/\Vl (P:J) (us.getD j []) e 1/\∀w,w∈us->w≠us.getD j []->Vl (P:J) w e 0:=λj=>by
  by_cases k:j<X us
  ·have⟨e,e1,t,x,s⟩:=zpl h.hp h.mn h.ir h.pw h.cg<|hd j k;have⟨a,R⟩:=D.sp e e1 s;exact⟨a,λ_=>⟨e,R,t,x⟩⟩
  ·exact⟨λ_=>0,λh=>wR h k⟩
 have z:∃A:K->K->J,∀j,j<X us->∃e:Pz,Cg (P:J) e (smP n λi=>pc (A j i)*b i)/\Vl (P:J) (us.getD j []) e 1/\∀w,w∈us->w≠us.getD j []->Vl (P:J) w e 0:=⟨λj=>Classical.choose<|G j,λj=>xfH<|G j⟩;have B:∃C:K->K->J,∀i j,i<n->j<X us->Vl (P:J) (us.getD j []) (b i) (C i j):=⟨λi j=>Classical.choose<|F i j,λi j=>xfH<|F i j⟩;have⟨A,z⟩:=z;have⟨C,B⟩:=B;have:=Dk h.hp n (xaH (X us)) A C List.nodup_range λj k o S=>by
  have l1:=xbe.1 k;have r:=xbe.1 S;have⟨e,e1,t,x⟩:=z j l1;have s:=(nA (a:=A j) n λi hi=>B i o hi r).cg e1.symm;have H:=(h.ir _<|hd o r).1;by_cases q:j=o
  ·subst q;rw[iq O];exact s.uniq E H t
  ·rw[ir q];refine s.uniq E H<|x _ (hd o r) λT=>q ?_;have g1:=H1 (l:=us) (i:=j) (a:=[]);have L:=H1 (l:=us) (i:=o) (a:=[]);rw[xah l1]at g1;rw[xah r]at L;have M:us[j]=us[o]:=by
    have:us.getD j []=us.getD o []:=T.symm;rw[g1,L]at this;exact this
   apply xae;intro V;have Q:=xdd.1 hl;obtain hlt|hlt:=Nat.lt_or_gt_of_ne q
   ·exact Q j o l1 r hlt M
   ·exact Q o j r l1 hlt M.symm
 rwa[xep]at this
def Ct(P:K)(us:N (N J))(v:Pz)(c:J)(g:N J):Prop:=
 (∀u∈us,Di (P:J) (ci u) (ci g)->∀a,Vl (P:J) u v a->rJ P (a+c))\/(∀u∈us,Di (P:J) (ci u) (ci g)->∀a,Vl (P:J) u v a->¬rJ P (a+c))
def Ct.sub{c:J}(h:Ct P us v c g)(hd:Di (P:J) (ci d) (ci g)):Ct P us v c d:=by
 obtain h|h:=h
 ·exact .inl λu e i=>h u e<|i.trans hd
 ·exact .inr λu e i=>h u e<|i.trans hd
def Pl.done(h:Sf (P:J) m us){n:K}(e:Bs P m b n)(hl:Pl (P:J) m l)(h0:∃c:J,Cg (P:J) (b 0)<|pc c)(B:X l=n\/∀i,1<=i->i<n->∀c:K,c<P->∀g∈l,Ct P us (b i) c g):∀g∈l,VT (P:J) g:=λg o=>by
 have⟨G,H⟩:=zz h.hp;have⟨g1,D⟩:=hl.mn g o;refine h.one g1 (hl.dv o) D λu j w k h1 r=> ?_;apply xae;intro A;have hn:=e.le h;have L:=h.more hl o j k h1 r A;obtain he|he:=B
 ·lia
 ·refine A ?_;have hc:∀i,∃c:J,i<n->Vl (P:J) u (b i) c/\Vl (P:J) w (b i) c:=λi=>by
   by_cases hi:i<n
   ·by_cases E:i=0
    ·have⟨c,hc⟩:=h0;subst E;exact⟨c,λ_=>⟨(Vl.pc _ u c).cg hc.symm,(Vl.pc _ w c).cg hc.symm⟩⟩
    ·have⟨x,_,s⟩:=e.val h j hi;have⟨y,_,t⟩:=e.val h k hi;have hd:(P:J)∣(x:J)-y:=zjs h.hp e.od λc F=>by
      obtain ht|ht:=he i W hi c F g o
      ·exact⟨λ_=>ht w k r _ t,λ_=>ht u j h1 _ s⟩
      ·exact⟨λz=>wR z<|ht u j h1 _ s,λz=>wR z<|ht w k r _ t⟩
     exact⟨y,λ_=>⟨s.md hd,t⟩⟩
   ·exact⟨0,λh=>wR h hi⟩
  have q:∃C:K->J,∀i,i<n->Vl (P:J) u (b i) (C i)/\Vl (P:J) w (b i) (C i):=⟨λi=>Classical.choose<|hc i,λi=>xfH<|hc i⟩;have⟨C,q⟩:=q;exact sep h.hp h.mn h.ir h.pw h.cg e.sp j k (λi hi=>(q i hi).1) λi hi=>(q i hi).2
end
section
variable{p:wl}{a g d t v ds m:xS wl}{x y:Pz}{E fu P k i nb:wr}{us l bs:xS (xS wl)}
def Em(p:J)(a:N J)(x y:Pz):Prop:=Di p (ci a)<|x-y
def Em.rfl:Em p a x x:=(Di.zero p<|ci a).cg<|Cg.of<|funext λk=>by rw[yx,zJ,xee]
def Em.cg{p:J}{a:N J}{x y:Pz}(h:Cg p x y):Em p a x y:=(Di.zero p<|ci a).cg (Cg.iff_sub.1 h).symm
def Em.symm(h:Em p a x y):Em p a y x:=(Di.sub (Di.zero p<|ci a) h).cg<|Cg.of<|funext λk=>by simp only[yx,zJ];lia
def Em.trans{z:Pz}(h:Em p a x y)(g:Em p a y z):Em p a x z:=(Di.add h g).cg<|Cg.of<|funext λk=>by simp only[zK,yx];lia
def Em.mul{p:J}{a:N J}{x y z w:Pz}(fx:Fs x)(b:Fs w)(h:Em p a x y)(g:Em p a z w):Em p a (x*z) (y*w):=by
 refine(Di.add (Di.mul x fx g)<|Di.mul w b h).cg<|Cg.of ?_;rw[wm,wm,zk w x,zk w y];funext k;simp only[zK,yx];lia
def Em.dv{b:N J}(h:Em p a x y)(g:Di p (ci b) (ci a)):Em p b x y:=g.trans h
def Em.vl{u:N J}{c:J}(h:Em p u x y)(g:Vl p u y c):Vl p u x c:=by
 refine(Di.add h g).cg<|Cg.of ?_;funext k;simp only[zK,yx];lia
def Em.rest{x q r:N J}(h:Cg p (ci x) (ci q*ci a+ci r)):Em p a (ci x) (ci r):=by
 refine⟨ci q,Fs.ci q,(h.sub Cg.rfl).trans<|Cg.of ?_⟩;funext k;simp only[zK,yx];lia
theorem zjh(h0:0<E)(h:E<18446744073709551616):yp (E:J)=(I,[E]):=by grind [yp,FM]
def zoW(n:K):n<2^bl n:=by
 induction n using xdz with
 |ind n b=>
  obtain rfl|h:=xcB n
  ·skip;decide
  ·have h1:=b (n/2) W;rw[de h];lia
structure PwI(p:J)(a w:N J)(E i:K)(t:N J):Prop where
 fp:Fp p t
 ln:t.length<a.length
 em:Em p a (pp (ci w)<|E/2^i) (ci t)
def J7{w:N J}(hp:vF p=wF)(o:Fp p w)(e:vd p a)(hm:X w<=40000)(hn:X a<=40000)(h0:0<E)(hE:E<1048576)(c:3000000<=fu):
 ∃r,u7 fu w (yp E) a p=Z (r,0)/\Fp p r/\X r<X a/\Em p a (pp (ci w) E) (ci r):=by
 have⟨p1,h⟩:=zz hp;have hc:=e.ln;have u:=zjh h0 (W:E<18446744073709551616);have z:zm [E]:=λx D=>by rw[xad.1 D];lia
 have F:nv [E]=E:=by simp[nv]
 have G:U7 (yp (E:J)):=by rw[u];exact⟨z,gT⟩
 have⟨q1,r1,d1,d2,d3,d4,d5,d6⟩:=xA (fu:=fu) hp (VN (x:=1)) e.fm hc gT W c;have⟨q2,r2,f1,f2,f3,f4,f5,f6⟩:=xA (fu:=fu) hp o e.fm hc W W c;have H:bl E<=20:=JD (W:E<2^20);have hl:jt (E:J) 0=1:=by unfold jt;rw[zB,zT]
 unfold u7;rw[U<|ui hp,iq O,U<|xn G c,zn,hl,ir gS,U<|zN W h (e.fm.rl h) W c,e.fm.pm,zB,U d1];simp only;rw[U<|zN W h (o.rl h) W c,o.pm,U f1];simp only;rw[u];show∃r,Y (uR fu [E]) _=_/\_;rw[U (WC z gT<|by simp;lia),F,zb];have hd:=ya (f:=XZ fu (I,[E]) p a) (λs:N J×N J×J=>∃(i:K) (t:N J),s=(t,r2,(i:J)-1)/\i<=20/\PwI p a w E i t) (λs=>(s.2.2+1).toNat) (λr=>PwI p a w E 0 r) (by
  rintro s L ⟨i,t,rfl,hi,b⟩ A;unfold XZ;simp only
  cases i with
  |zero=>rw[zB];exact⟨t,O,b⟩
  |succ i=>
   have ho:=b.ln;have ml:=jc p t t;have⟨q3,j,g1,g2,B,M,Q,g6⟩:=xA (fu:=fu) hp (qH (p:=p) W t t) e.fm hc W W c;have n:Em p a (pp (ci w)<|E/2^(i+1)+E/2^(i+1)) (ci j):=by
    rw[Ed];refine(Em.mul ((Fs.ci w).pp _) (Fs.ci t) b.em b.em).trans<|(Em.cg (Ze p t t).symm).trans<|Em.rest M
   have R:((i+1:K):J)-1=(i:J):=W
   have e1:xct (i:J) 64=0:=by rw[xeM W];lia
   have S:xca (i:J) 64=(i:J):=by rw[Int.tmod_eq_emod_of_nonneg W];lia
   have e3:E/2^i/2=E/2^(i+1):=by rw[xaE,xbf]
   rw[R,zT,U<|w4 W h b.fp b.fp W W c,U g1];simp only;rw[xB gS,e1,lu ⟨gS,gS⟩,show(0:J)=((0:K):J)from O,zo gT,zf,xB gS,S,zf,yV,zf,zf];have T:(([E]:N K).getD 0 0/2^(min (i:J).toNat 64)) &&& 1=E/2^i%2:=by rw[Nat.and_one_is_mod,xbc,xce W];rfl
   rw[T];by_cases hb:E/2^i%2=1
   ·rw[zT];have V:=jc p j r2;have⟨q4,C,k1,k2,k3,k4,k5,k6⟩:=xA (fu:=fu) hp (qH (p:=p) W j r2) e.fm hc W W c;rw[U<|w4 W h B f3 W W c,U k1];simp only;rw[zb];refine A _ ⟨i,C,O,W,⟨k3,k5,?_⟩⟩ (by show((i:J)-1+1).toNat<(((i+1:K):J)-1+1).toNat;lia);have q:E/2^i=E/2^(i+1)+E/2^(i+1)+1:=W
    rw[q];show Em p a (pp (ci w) (E/2^(i+1)+E/2^(i+1))*ci w) (ci C);exact(Em.mul ((Fs.ci w).pp _) (Fs.ci r2) n<|Em.rest f4).trans<|(Em.cg (Ze p j r2).symm).trans<|Em.rest k4
   ·rw[zB,zb];refine A _ ⟨i,j,O,W,⟨B,Q,?_⟩⟩ (by show((i:J)-1+1).toNat<(((i+1:K):J)-1+1).toNat;lia);have q:E/2^i=E/2^(i+1)+E/2^(i+1):=W
    rw[q];exact n)
 have⟨r,hr,b⟩:=hd fu (r1,r2,((bl E:K):J)-1) ⟨bl E,r1,O,H,⟨d3,d5,by
  have hz:E/2^bl E=0:=xbg<|zoW E;rw[hz];show Em p a (pc 1) (ci r1);have h1:Em p a (ci [1]) (ci r1):=Em.rest d4;rwa[qV]at h1⟩⟩ (by show(((bl E:K):J)-1+1).toNat<fu;lia)
 refine⟨r,?_,b.fp,b.ln,?_⟩
 ·rw[U hr]
 ·have:=b.em;rwa[xeH,xdK]at this
def zfH{h s:N J}{S:K}(hp:2<=p)(c:vd p h)(b:BzR p g h d s t S)(hd:X d=0\/ci d (X d-1)=1):vd p d:=by
 have⟨A,C,f,z2,d1,d2⟩:=b.dv;have hl:0<X d:=by
  refine xco λe=> ?_;have h1:=d2<|X h-1;rw[c.top,wM,yT λi hi=>by rw[yh W,xaz],xaL gS W]at h1;cases h1
 exact⟨b.df,hl,hd.resolve_left W⟩
def EO(hp:vF p=wF)(e:Fp p t)(c:vd p g)(f:X t<=290)(hc:X g<=290)(h:3000000<=fu):
 ∃d,ax fu t g p=Z d/\vd p d/\Di p (ci d) (ci g)/\∀u:N J,Di p (ci u) (ci d)↔Di p (ci u) (ci t)/\Di p (ci u) (ci g):=by
 have⟨j,o⟩:=zz hp;have⟨d,q,r,e1,b,n⟩:=QO hp e c.fm f hc h;have⟨A,C,s,z2,d1,d2⟩:=b.dv;refine⟨d,?_,zfH j c b n,⟨C,z2,d2⟩,λu=>zmA b u⟩;unfold ax;rw[U e1]
def LZ(hp:vF p=wF)(e:vd p g)(hd:vd p d)(B:X g<=290)(h:Di p (ci d) (ci g))(j:3000000<=fu):
 ∃q,fi fu g d p=Z q/\vd p q/\Cg p (ci g) (ci q*ci d)/\X g+1=X q+X d:=by
 have⟨n,f⟩:=zz hp;have⟨A,o,h1⟩:=h;have hc:=eH n e hd o h1;have⟨q,r,e1,s,u,w,z,C⟩:=xA hp e.fm hd.fm hd.ln W W j;have⟨a,b,c⟩:=Gz n e hd o h1 s u w z;refine⟨q,?_,a,b,c⟩;unfold fi jN;rw[U (v:=(q,r,0))];rw[U<|ui hp,iq O,U<|zN W f (hd.fm.rl f) W j,hd.fm.pm,zB,U<|zN W f (e.fm.rl f) W j,e.fm.pm,U e1]
def Ag{c:J}(hp:vF (P:J)=wF)(hv:Rl v)(L:X v<=290)(o:vd (P:J) g)(M:X g<=290)(hl:0<=c)(Q:c<P)(b:3000000<=fu):
 ∃t,Qb fu v c g P=Z t/\Fp (P:J) t/\X t<=290/\∀u:N J,VT (P:J) u->Di (P:J) (ci u) (ci g)->∀x,Vl (P:J) u (ci v) x->(Di (P:J) (ci u) (ci t)↔rJ P (x+c)):=by
 have⟨q,j⟩:=zz hp;have hi:=o.ln;have B:Rl [c]:=λk=>by
  rw[qV];unfold pc;split
  ·lia
  ·lia
 have⟨w,f⟩:∃w,w=Xr (P:J) (pm P v) (pm P [c]) 1:=⟨_,O⟩;have l1:=zbx (P:J) v;have s:=zbx (P:J) [c];have C:X w<=290:=by
  have:=Bj (P:J) (pm P v) (pm P [c]) 1;rw[<-f]at this;simp only[xau,xbH]at s;lia
 have z:Fp (P:J) w:=by rw[f];exact U5 W _ _ _
 have D:Cg (P:J) (ci w) (ci v+pc c):=by
  rw[f];refine(IB _ _ _ _).trans<|(MO _ v).add ?_;rw[zw];exact(MO _ [c]).trans<|Cg.of<|qV c
 have F:JS fu v [c] P=Z (w,0):=by
  unfold JS;rw[U<|ui hp,iq O,U<|zN W j hv W b,U<|zN W j B gT b,U<|Jb W j (Cj W v) (Cj W [c]) gS W W (by simp only[xau,xbH]at s;lia) b,f]
 have vw:∀u:N J,∀x,Vl (P:J) u (ci v) x->Vl (P:J) u (ci w) (x+c):=λu x e=>(Vl.add e<|Vl.pc _ u c).cg D.symm;unfold Qb;rw[U F];simp only;by_cases A:2<P
 ·have⟨r,e1,G,R,H⟩:=J7 (fu:=fu) (E:=(P-1)/2) hp z o W W W W b;have hd:xct ((P:J)-1) 2=(((P-1)/2:K):J):=by rw[xeM W];lia
  have⟨t,h⟩:∃t,t=Xr (P:J) r [1] ((P:J)-1):=⟨_,O⟩;have f1:Fp (P:J) [1]:=VN;have lt:=Bj (P:J) r [1]<|(P:J)-1;rw[<-h]at lt;have ct:Cg (P:J) (ci t) (ci r-pc 1):=by
   rw[h];refine(IB _ _ _ _).trans ?_;rw[qV,qf,xcZ];intro k;rw[zK,yx];unfold pc;split
   ·rw[(W:ci r k+((P:J)-1)=ci r k-1+P*1),Int.add_mul_emod_self_left]
   ·rw[xbZ,xdc]
  rw[zT,zb,xB gS,hd,zb,U<|ym ⟨W,W⟩ b,U e1];simp only;rw[U<|dF hp G f1 W gT b];refine⟨t,by rw[h],by rw[h];exact U5 W _ _ _,by simp only[xau,xbH]at lt;lia,λu n hc x e=> ?_⟩
  have v1:Vl (P:J) u (ci t) ((x+c)^((P-1)/2)-1):=
   (Vl.sub ((Em.dv H hc).symm.vl<|Vl.pp (Fs.ci w) (vw u x e)<|(P-1)/2)<|Vl.pc _ u 1).cg ct.symm
  refine(v1.di q n).trans ?_;unfold rJ;rw[iq A]
 ·rw[zB];refine⟨w,O,z,C,λu n hc x e=> ?_⟩;refine((vw u x e).di q n).trans ?_;unfold rJ;rw[ir A]
def nxt(P:K)(ds:N J)(k:K):J:=if k<X ds then ds.getD k 0%P else((k-X ds:K):J)
theorem ig(b:2<=P)(c:P<=65521)(hd:Rl ds)(e:k<P+X ds)(hc:X ds<=1000):ZW fu (k:J) ds P=Z (nxt P ds k)/\0<=nxt P ds k/\nxt P ds k<P:=by
 unfold ZW nxt;by_cases h:k<X ds
 ·rw[zo h,zf,U (show u6 fu (ds.getD k 0) P=Z (ds.getD k 0%P)from Yr W W<|hd k)];have:=xe (a:=ds.getD k 0) (p:=P);simp_all
 ·rw[zb];grind
abbrev Ts:=Pz->J->Prop
structure Pd(P:K)(m:N J)(us:N (N J))(S:Ts)(l:N (N J)):Prop where
 pl:Pl (P:J) m l
 ts:∀v c,S v c->∀g∈l,Ct P us v c g
def zd5{α:Type}{a b:N α}{g q d:α}:((a++g::b)++[q]).set (X a) d=a++d::(b++[q]):=by
 simp_all
def zhx{α:Type}{l:N α}(h:i<X l)(z:α):∃a b,l=a++l.getD i z::b/\X a=i:=by
 refine⟨l.take i,l.drop<|i+1,?_,by rw[xax];lia⟩;simp_all
theorem Yq{α:Type}{l:N α}(h:i<X l)(z:α):l.getD i z∈l:=by grind
def Sf.pl_len(h:Sf p m us)(hl:Pl p m l):X l<=X us:=by
 have⟨vs,v1,b,v3⟩:=h.pick hl.mn ⟨pc 1,Fs.pc 1,hl.pr.trans<|Cg.of (zw _).symm⟩;have:=bE b λv hv=>(v3 v hv).1;lia
def zeu{t7:N (N J)}{i2 i4:J}{S:Ts}(h:Sf (P:J) m us)(hJ:X us<=290)(hK:X bs=nb)(hG:nb<=290)(hd:Rl ds)(hA:X ds<=1000)(hv:Rl v)(hB:X v<=290)(hk:k<P+X ds)(F:3000000<=fu)(hl:Pd P m us S l):
 ∃r,zg (VH fu P ds bs P ds i2 (k:J) t7 i4 v) fu (l,0)=Z r/\
  ((∃A,r=.inl A/\Pl (P:J) m A/\X A=nb)\/∃A,r=.inr A/\Pd P m us (λw c=>S w c\/w=ci v/\c=nxt P ds k) A):=by
 have⟨G,p2⟩:=zz h.hp;have⟨n1,n2,n3⟩:=ig (fu:=fu) (P:=P) (k:=k) (ds:=ds) W W hd hk hA;refine ya (λs:N (N J)×J=>∃(i:K) (l:N (N J)),s=(l,(i:J))/\Pd P m us S l/\i<=X l/\∀j,j<i->Ct P us (ci v) (nxt P ds k) (l.getD j [])) (λs=>300-s.2.toNat) _ ?_ _ _ ⟨0,l,O,hl,xai _,λj D=>by lia⟩ (by show 300-0<fu;lia);rintro s L ⟨i,l,rfl,hl,hi,H⟩ T;have hL:=h.pl_len hl.pl;unfold VH;simp only;by_cases h1:i<X l
 ·rw[zT];by_cases h2:X l=nb
  ·rw[zT];exact⟨_,O,.inl ⟨l,O,hl.pl,h2⟩⟩
  rw[zB,U n1,zo h1,zf];have⟨a,b,hc,hp⟩:=zhx h1 [];have C:=Yq h1 [];have⟨g,f⟩:∃g,g=l.getD i []:=⟨_,O⟩;rw[<-f]at hc C⊢;have⟨g1,g2⟩:=hl.pl.mn g C;have hC:=hl.pl.dv C;have M:=h.len g1 hC;have⟨t,t1,t2,t3,t4⟩:=Ag (fu:=fu) h.hp hv hB g1 M n2 n3 F;have⟨d,d1,d2,d3,d4⟩:=EO (fu:=fu) h.hp t2 g1 t3 M F;have hM:=d2.ln;have hH:X d<=X g:=by
   have⟨q,fq,hq⟩:=d3;exact eH G g1 d2 fq hq
  rw[U t1,zo h1,zf,<-f,U d1];have hn:∀u∈us,Di (P:J) (ci u) (ci g)->∀x,Vl (P:J) u (ci v) x->(Di (P:J) (ci u) (ci d)↔rJ P (x+nxt P ds k)):=λu n o x hx=>
   ⟨λQ=>(t4 u (h.ir u n).1 o x hx).1 ((d4 u).1 Q).1,λQ=>(d4 u).2 ⟨(t4 u (h.ir u n).1 o x hx).2 Q,o⟩⟩
  by_cases h3:1<X d/\X d<X g
  ·have⟨q,q1,q2,Y,q4⟩:=LZ (fu:=fu) h.hp g1 d2 M d3 F;rw[zT,zo h1,zf,<-f,zT,U O];simp only[uL];rw[zo h1,zf,<-f,U q1,xB (by simp;lia),zf,zo (by simp;lia),zf,zb];have hr:(l++[q]).set i d=a++d::(b++[q]):=by rw[hc,<-hp,zd5]
   have hD:Di (P:J) (ci q) (ci g):=⟨ci d,Fs.ci d,Y.trans<|Cg.of<|zk _ _⟩;have hw:∀x∈a++d::(b++[q]),x=d\/x=q\/x∈l:=λx hx=>by
    obtain hx|hx:=So.1 hx
    ·right;right;rw[hc];exact xcM _ hx
    ·obtain hx|hx:=xaa.1 hx
     ·exact .inl hx
     ·obtain hx|hx:=So.1 hx
      ·right;right;rw[hc];exact xeh _<|UV _ hx
      ·exact .inr (.inl<|xad.1 hx)
   have hy:Pl (P:J) m (a++d::(b++[q])):=by
    have:=hl.pl;rw[hc]at this;exact this.split d2 q2 W W Y
   refine T _ ⟨i+1,_,O,?_,?_,?_⟩ ?_
   ·rw[hr];refine⟨hy,λw c z x hx=> ?_⟩;obtain rfl|rfl|hx:=hw x hx
    ·exact(hl.ts w c z g C).sub d3
    ·exact(hl.ts w c z g C).sub hD
    ·exact hl.ts w c z x hx
   ·rw[xbC,xap];lia
   ·intro j D;rw[hr];by_cases R:j=i
    ·left;have e:(a++d::(b++[q])).getD j []=d:=by rw[R,<-hp,H1,xbj<|Nm _,xcQ];rfl
     rw[e];intro u n hz x hx;exact(hn u n (hz.trans d3) x hx).1 hz
    ·have e:(a++d::(b++[q])).getD j []=l.getD j []:=by rw[hc,H1,H1,xaR W,xaR W]
     rw[e];exact H j W
   ·have:=h.pl_len hy;have hI:X l=X a+1+X b:=by rw[hc];simp;lia
    simp only[xap,xau]at this;show 300-((i:J)+1).toNat<300-(i:J).toNat;lia
  ·have hE:Ct P us (ci v) (nxt P ds k) g:=by
    by_cases h4:1<X d
    ·left;have e:d=g:=Lh G d2 g1 d3 W;intro u n o x hx;exact(hn u n o x hx).1<|by rw[e];exact o
    ·right;intro u n o x hx hT;have h5:=(hn u n o x hx).2 hT;have h6:d=[1]:=d2.one W;rw[h6,qV]at h5;exact(h.ir u n).1.ne G h5
   have hF:(if(1:J)<(X d:J)then
    zD (i:J) (X l) λj5=>
    B (l.getD j5 []) λt13=>
    if(X d:J)<(X t13:J)then
    Z (bs,(P:J),ds,(k:J),v,t7,i4,i2,wF)
    else
    Z (bs,(P:J),ds,(k:J),v,t7,i4,i2,I)
    else
    Z (bs,(P:J),ds,(k:J),v,t7,i4,i2,I):V (N (N J)×J×N J×J×N J×N (N J)×J×J×wW))=Z (bs,(P:J),ds,(k:J),v,t7,i4,i2,I):=by
    by_cases h4:1<X d
    ·rw[zT,zo h1,zf,<-f,zB]
    ·rw[zB]
   rw[U hF];simp only[xak,ut];rw[zb];refine T _ ⟨i+1,l,O,hl,W,λj D=> ?_⟩ (by show 300-((i:J)+1).toNat<300-(i:J).toNat;lia);by_cases R:j=i
   ·rw[R,<-f];exact hE
   ·exact H j W
 ·rw[zB];refine⟨_,O,.inr ⟨l,O,hl.pl,λw c z g f=> ?_⟩⟩;obtain z|⟨rfl,rfl⟩:=z
  ·exact hl.ts w c z g f
  ·have⟨j,D,e⟩:=xcr f;have:=H j W;rw[H1,xah D]at this;rw[<-e];exact this
def Pd.mono{S T:Ts}(h:Pd P m us S l)(b:∀v c,T v c->S v c):Pd P m us T l:=⟨h.pl,λv c e=>h.ts v c<|b v c e⟩
def zeT{S:Ts}(h:Sf (P:J) m us)(hn:X us<=290)(hc:X bs=nb)(R:1<=nb)(z:nb<=290)(hd:Rl ds)(A:X ds<=1000)(hv:∀v∈bs,Rl v/\X v<=290)(B:k<P+X ds)(C:3000000<=fu)(hl:Pd P m us S l):
 ∃r,zg (VB fu P ds (k:J)<|bs.drop 1) fu (bs,(P:J),ds,l,0)=Z r/\
  ((∃f,r=.inl f/\Pl (P:J) m f/\X f=nb)\/∃f,r=.inr (bs,(P:J),ds,f)/\Pd P m us (λw c=>S w c\/∃i,1<=i/\i<nb/\w=ci (bs.getD i [])/\c=nxt P ds k) f):=by
 refine ya (λs:N (N J)×J×N J×N (N J)×J=>∃(i:K) (l:N (N J)),s=(bs,(P:J),ds,l,(i:J))/\i+1<=nb/\Pd P m us (λw c=>S w c\/∃j,1<=j/\j<i+1/\w=ci (bs.getD j [])/\c=nxt P ds k) l) (λs=>300-s.2.2.2.2.toNat) _ ?_ _ _ ⟨0,l,O,W,hl.mono λw c n=>n.elim id λ⟨j,a,b,_⟩=>by lia⟩ (by show 300-0<fu;lia);rintro s L ⟨i,l,rfl,hi,q⟩ D;unfold VB;simp only;have o:X (bs.drop 1)=nb-1:=by rw[xbR,hc]
 have u:∀{β:Type} (x:β) (k:β->V ((N<|N J)⊕(N (N J)×J×N J×N (N J)))),Y (Z x) k=k x:=λ_ _=>O;by_cases h1:i+1<nb
 ·rw[iq (by rw[o];lia),u];simp only[uL];rw[zo (by rw[o];lia),zf];have e:(bs.drop 1).getD i []=bs.getD (i+1) []:=by rw[H1,H1,xfe,xdA]
  have⟨hp,F⟩:=hv _<|Yq (l:=bs) (i:=i+1) W [];rw[e];have⟨r,G,H⟩:=zeu (fu:=fu) (i2:=(i:J)) (i4:=((X (bs.drop 1):K):J)) (t7:=bs.drop 1) (ds:=ds) h hn hc z hd A hp F B C q;rw[U G];rcases H with⟨f,rfl,g1,M⟩|⟨f,rfl,g1⟩
  ·exact⟨_,O,.inl ⟨f,O,g1,M⟩⟩
  ·simp only;rw[zb];refine D _ ⟨i+1,f,O,W,g1.mono λw c n=> ?_⟩ (by show 300-((i:J)+1).toNat<300-(i:J).toNat;lia);obtain n|⟨j,a,b,c1,c2⟩:=n
   ·exact .inl (.inl n)
   ·by_cases Q:j=i+1
    ·subst Q;exact .inr ⟨c1,c2⟩
    ·exact .inl (.inr ⟨j,a,W,c1,c2⟩)
 ·rw[ir (by rw[o];lia),u];simp only[xak,ut];refine⟨_,O,.inr ⟨l,O,q.mono λw c n=> ?_⟩⟩;obtain n|⟨j,a,b,c1,c2⟩:=n
  ·exact .inl n
  ·exact .inr ⟨j,a,W,c1,c2⟩
def rQ(h:Sf (P:J) m us)(hn:1<X m)(z:X us<=290)(hp:X bs=nb)(A:1<=nb)(hi:nb<=290)(hd:Rl ds)(B:X ds<=1000)(hv:∀v∈bs,Rl v/\X v<=290)(C:3000000<=fu):
 ∃l,X9 fu m bs P ds=Z l/\Pl (P:J) m l/\(X l=nb\/∀i,1<=i->i<nb->∀c:K,c<P->∀g∈l,Ct P us (ci<|bs.getD i []) c g):=by
 have⟨T,V⟩:=zz h.hp;unfold X9
 have D:=ya (f:=VK fu bs P ds) (λs:N (N J)×J=>∃(k:K) (l:N (N J)),s=(l,(k:J))/\k<=P+X ds/\Pd P m us (λw c=>∃j i,j<k/\1<=i/\i<nb/\w=ci (bs.getD i [])/\c=nxt P ds j) l) (λs=>P+X ds-s.2.toNat)
  (λl=>Pl (P:J) m l/\(X l=nb\/∀i,1<=i->i<nb->∀c:K,c<P->∀g∈l,Ct P us (ci<|bs.getD i []) c g)) (by
  rintro s L ⟨k,l,rfl,Y,b⟩ F
  unfold VK
  simp only
  rw[zb]
  by_cases h1:k<P+X ds
  ·rw[zT,show(1:J)=((1:K):J)from O,yR,yV,zf]
   have⟨r,G,H⟩:=zeT (fu:=fu) (ds:=ds) h z hp A hi hd B hv h1 C b
   rw[U G]
   rcases H with⟨o,rfl,g1,M⟩|⟨o,rfl,g1⟩
   ·exact⟨_,O,g1,.inl M⟩
   ·simp only
    rw[zb]
    refine F _ ⟨k+1,o,O,W,g1.mono λw c e=> ?_⟩ (by show P+X ds-((k:J)+1).toNat<P+X ds-(k:J).toNat;lia)
    have⟨j,i,a1,q,a3,a4,a5⟩:=e
    by_cases u:j=k
    ·subst u;exact .inr ⟨i,q,a3,a4,a5⟩
    ·exact .inl ⟨j,i,W,q,a3,a4,a5⟩
  ·rw[zB]
   refine⟨_,O,b.pl,.inr λi Q R c hc g n=> ?_⟩
   refine b.ts _ _ ⟨X ds+c,i,W,Q,R,O,?_⟩ g n
   unfold nxt
   rw[zB,(W:X ds+c-X ds=c)])
 have⟨l,hl,S⟩:=D fu ([m],0) ⟨0,[m],O,xai _,⟨⟨λg n=>by rw[xad.1 n];exact⟨h.mn,hn⟩,Cg.of (ye<|ci m).symm⟩,λv c e=>by have⟨j,i,u,_⟩:=e;lia⟩⟩ (by show P+X ds-0<fu;lia);exact⟨l,by rw[U hl],S⟩
end
end Go.Proofs.YtoegnnjcmlghhaaGreat
