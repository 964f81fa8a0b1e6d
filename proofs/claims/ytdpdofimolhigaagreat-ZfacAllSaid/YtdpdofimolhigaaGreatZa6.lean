/- What a proof needs: rules of walking, mirrors of functions and their plain laws. No condition. -/
import Derived.Test.YtdpdofimolhigaaGreatZa5
set_option linter.all false
namespace Go.Proofs.YtdpdofimolhigaaGreat
open Bool renaming true->I,false->yL
open Go.Proofs.YtdpdofimolhigaaGreat renaming cf->M,Zr->G,bd->Y,za->U,nm->B,cC->D,ze->Q,zf->E,iq->S
open List renaming length->X,length->Wl
open Option renaming some->Z
open _root_ renaming rfl->O,List->N,Int->J,Nat->K,Option->V,List->zC,Int->zI,Nat->zV,Option->z7,trivial->xS,absurd->wl,funext->wu,congrArg->wF,if_true->wN,if_false->wP,decide_eq_false->wS,decide_eq_true->wU,True->vF,congrFun->vN,of_decide_eq_true->vR,Decidable->vU,False->jN
open Bool renaming false_eq_true->xaj
open Classical renaming byContradiction->xac
open Int renaming add_comm->xfG,add_emod->xdq,add_zero->xby,dvd_mul_left->xcB,dvd_mul_right->xck,dvd_of_emod_eq_zero->xaA,dvd_refl->xej,dvd_sub->xdm,dvd_trans->xbu,dvd_zero->xdr,emod_add_mul_ediv->xfq,emod_emod->xay,emod_emod_of_dvd->xcE,emod_eq_emod_iff_emod_sub_eq_zero->xaC,emod_eq_of_lt->xax,emod_eq_zero_of_dvd->xaq,emod_lt_of_pos->xdw,emod_nonneg->xcJ,eq_ofNat_of_zero_le->xat,le_of_lt->xds,le_refl->xfh,mul_add->xfg,mul_assoc->xcv,mul_comm->xaX,mul_dvd_mul->xfE,mul_emod->xaY,mul_eq_zero->xeB,mul_le_mul_of_nonneg_right->xbg,mul_nonneg->xcD,mul_one->xci,mul_zero->xaw,natAbs_dvd_natAbs->xcp,natAbs_mul->xcK,natAbs_natCast->xaW,natCast_add->xeT,natCast_dvd_natCast->xde,natCast_nonneg->xdd,one_mul->xcr,pow_succ->xbo,pow_zero->xbD,sub_emod->xfp,sub_self->xdL,sub_zero->xcy,tdiv->xbQ,tdiv_eq_ediv_of_nonneg->xcN,tmod->xbn,toNat_natCast->xaJ,toNat_of_nonneg->xcV,zero_add->xco,zero_ediv->xdX,zero_emod->xae,zero_mul->xaK
open List renaming drop_eq_getElem_cons->xbK,drop_eq_nil_of_le->xbS,ext_getElem->xeG,ext_getElem?->xcC,getD_eq_getElem?_getD->Yh,getElem?_eq_getElem->xaa,getElem?_take->xcx,length_append->xak,length_cons->xar,length_drop->xca,length_eq_zero_iff->xbs,length_nil->xbA,length_range->xeg,length_replicate->xaR,length_take->xap,map_append->xaU,map_congr_left->xce,mem_cons_of_mem->kE,mem_cons_self->Qh,mem_iff_getElem->xdF,mem_map->xan,mem_of_mem_drop->xfw,mem_of_mem_take->xec,mem_range->xaZ,mem_singleton->xab,nil_append->xbF,pairwise_append->xdg,pairwise_iff_getElem->xcR,range->xaE,range_succ->xdb,replicate->sR,take_add_one->xeE,take_append_drop->xbw,take_length->xcA,take_of_length_le->xaQ
open Nat renaming add_comm->xdI,add_mul->xaT,add_sub_cancel->xdv,div_add_mod->xbj,div_le_self->xcd,div_lt_iff_lt_mul->xaM,div_one->xdz,gcd->xdR,gcd_comm->xdW,le_add_right->xbt,le_antisymm->xcH,le_div_iff_mul_le->xcn,le_max_left->xdP,le_max_right->xdB,le_of_not_lt->xbl,le_refl->eZ,le_succ->xbG,le_trans->PX,lt_of_le_of_lt->xaG,lt_of_lt_of_le->xah,lt_of_not_le->xcT,min_eq_left->xcg,mod_eq_of_lt->xag,mod_lt->xaI,mul_add->xbV,mul_assoc->xbe,mul_comm->xaH,mul_div_cancel->xeu,mul_le_mul->xbp,mul_le_mul_left->xas,mul_le_mul_right->xaf,mul_one->xdl,mul_zero->xcG,not_lt_zero->xbf,one_mul->xbL,pos_of_ne_zero->xcm,pow_le_pow_right->xam,pow_mul->xbT,pow_succ'->xdH,pow_zero->xeA,strongRecOn->xcY,sub_self->xcX,zero_add->xaF,zero_le->sB,zero_mul->xcs
section
variable{a b p:zC Zr}{k fu j l:zV}{h g:zV->Zr}
theorem JT(h:max (X a) (X b)<=k:=by lia):M a k+M b k=0:=by grind [zY]
theorem zil(c:yQ k a)(d:yQ k b)(e:k<=100000)(f:3000000<=fu)(hc:X b<=1000000)(j:K)(i:j<X b):
 Zo fu (j:J) (b.getD j (yL,[])) a=Z (if j<X a then yf (M a j+M b j)else b.getD j (yL,[])):=by grind [Zo,zo,Q,U,ku,yQ.okZ,YV]
def H9(a b:N G):N G:=(xaE (X b)).map λj=>if j<X a then yf (M a j+M b j)else b.getD j (yL,[])
theorem zoe{n:K}(c:j<n):((xaE n).map h).getD j (yL,[])=h j:=by grind
theorem map_set{n i:K}:((xaE n).map h).set i (g i)=(xaE n).map (λk=>if k=i then g k else h k):=by
 refine xcC λm=> ?_;by_cases e:i=m
 ·grind
 ·grind
def zmR{c:J->G->V G}(hl:X p<=1000000)(n:2000000<fu)(h:∀j:K,j<X p->c (j:J) (p.getD j (yL,[]))=Z (g j)):
 zM fu p c=Z ((xaE (X p)).map g):=by
 unfold zM;have e0:sR (X p) ((yL,[]):G)=(xaE (X p)).map (λk=>if k<0 then g k else(yL,[])):=by
  rw[gY];rfl
 rw[yU,yM,Q,e0,U];refine zt (λs:J×N G=>∃i:K,i<=X p/\s=((i:J),(xaE (X p)).map (λk=>if k<i then g k else(yL,[])))) (λs=>X p-s.1.toNat) _ ?_ _ _ ⟨0,sB _,O⟩ (by show X p-0<fu;lia);rintro s L ⟨i,hi,rfl⟩ m;unfold vJ;simp only;by_cases h1:i<X p
 ·rw[zS,U O];simp only[wN];rw[zo h1,Q,U<|h i h1,zo (by simp;exact h1),Q,map_set,zb];refine m _ ⟨i+1,W,?_⟩ (by show X p-((i:J)+1).toNat<X p-(i:J).toNat;lia);congr 1;refine xce λk d=> ?_;by_cases e:k=i
  ·rw[S e,zS,e]
  ·rw[ir e];by_cases f:k<i
   ·rw[S f,zS]
   ·rw[ir f,zA]
 ·rw[zA,U O];simp only[xaj,wP];congr 1;refine xce λk d=> ?_;have:=xaZ.1 d;rw[zS]
theorem zpK(i:yQ k a)(d:yQ k b)(o:k+1<=100000)(hd:X b<=1000000)(m:3000000<=fu)(hl:X a<=X b):
 Y (zM fu b<|λe f=>Zo fu e f a) (λt1=>Y (ya fu t1) λt2=>Z t2)=Z (xW (max (X a) (X b))<|λj=>M a j+M b j):=by
 have q:X (H9 a b)=X b:=by unfold H9;simp
 have r:∀j,j<X b->(H9 a b).getD j (yL,[])=if j<X a then yf (M a j+M b j)else b.getD j (yL,[]):=λj c=>by unfold H9;rw[zoe c]
 have hc:∀j,M (H9 a b) j=M a j+M b j:=λj=>by
  by_cases c:j<X b
  ·conv=>lhs;unfold M
   rw[r j c];by_cases h:j<X a
   ·rw[S h,zm]
   ·rw[ir h,zY (p:=a) W,xco];rfl
  ·rw[zY W,zY W,zY W];rfl
 have s:yQ (k+1) (H9 a b):=λz n=>by
  unfold H9 at n;obtain⟨j,c,rfl⟩:=xan.1 n;split
  ·exact⟨yx _,((i.bz j).add<|d.bz j).len⟩
  ·exact(d.mono<|xbG k).get j
 rw[U<|zmR (g:=λj=>if j<X a then yf (M a j+M b j)else b.getD j (yL,[])) hd W λj c=>zil i d W m hd j c];show Y (ya fu<|H9 a b) _=_;rw[U<|zP s o W m,q];congr 1;refine VM (λj c=>zY W) (λj c=>JT c) hc
theorem ru(c:yQ k a)(d:yQ k b)(e:k+1<=100000)(hc:X a<=1000000)(hd:X b<=1000000)(f:3000000<=fu):
 q6 fu a b=Z (xW (max (X a) (X b))<|λj=>M a j+M b j):=by grind [q6,zpK]
theorem Bw:U4 fu p (j:J)=Z (p.getD j (yL,[])):=by grind [U4,zo,Q]
def ZS(c:yQ k a)(d:yQ k b)(m:k+1<=100000)(hc:X a<=1000000)(hd:X b<=1000000)(e:3000000<=fu):
 Yi fu a b=Z (xW (max (X a) (X b))<|λj=>M a j+M b j):=by
 unfold Yi;have⟨n,hn⟩:∃n,n=max (X a) (X b):=⟨_,O⟩;have r:n<=1000000:=W
 have o:yQ (k+1) (zi n<|λj=>M a j+M b j):=Y6 λj=>(c.bz j).add<|d.bz j;rw[U (v:=zi n<|λj=>M a j+M b j)]
 ·rw[U<|yw o m (by rw[yh];lia) e,yh,<-hn];congr 1;exact VM (λj f=>zY<|by rw[yh];lia) (λj f=>JT)<|λj=>cn (λj f=>JT) j
 ·refine zt (λs:N G×J=>∃i:K,i<=n/\s=(zi i<|λj=>M a j+M b j,(i:J))) (λs=>n-s.2.toNat) _ ?_ _ _ ⟨0,sB _,O⟩ (by show n-0<fu;lia);rintro s L ⟨i,hi,rfl⟩ q;unfold AX;simp only;rw[Q];by_cases h1:i<n
  ·rw[zS,U Bw,U Bw,U<|qp (c.okZ W i) (d.okZ W i) e,YV,YV,xi (by rw[yh];simp;lia),Q,zb];exact q _ ⟨i+1,W,by rw[<-te];rfl⟩ (by show n-((i:J)+1).toNat<n-(i:J).toNat;lia)
  ·rw[zA];obtain rfl:i=n:=W
   rfl
def QN{c:J}(h:X a<=k):M a k*c=0:=by rw[zY h,xaK]
def iw.of{z:G}(h:zn z.2/\X z.2<=k)(c:k<=100000):iw z:=⟨h.1,PX h.2 c⟩
def ux{c:G}(e:yQ k a)(hc:zn c.2/\X c.2<=l)(i:k+l<=100000)(m:X a<=1000000)(f:3000000<=fu):
 qQ fu a c=Z (xW (X a)<|λj=>M a j*zv c):=by
 unfold qQ;have n:yQ (k+l) (zi (X a)<|λj=>M a j*zv c):=Y6 λj=>(e.bz j).mul<|(Bz.of hc.1).mono hc.2;rw[U<|MY m W ?_]
 ·rw[U<|zP n i (by rw[yh];lia) f,yh];congr 1;exact VM (λj d=>zY<|by rw[yh];lia) (λj d=>QN d)<|λj=>cn (λj d=>QN d) j
 ·intro j d;unfold Ka;rw[U<|yK (e.okZ W j) (iw.of hc W) f,YV]
theorem jh{c:G}(e:yQ k a)(hc:zn c.2/\X c.2<=l)(f:k+l<=100000)(q:X a<=1000000)(m:3000000<=fu):
 v8 fu a c=Z (xW (X a)<|λj=>M a j*zv c):=by
 unfold v8;have n:yQ (k+l) (zi (X a)<|λj=>M a j*zv c):=Y6 λj=>(e.bz j).mul<|(Bz.of hc.1).mono hc.2;rw[U (v:=zi (X a)<|λj=>M a j*zv c)]
 ·rw[U<|yw n f (by rw[yh];lia) m,yh];congr 1;exact VM (λj d=>zY<|by rw[yh];lia) (λj d=>QN d)<|λj=>cn (λj d=>QN d) j
 ·refine zt (λs:N G×J=>∃i:K,i<=X a/\s=(zi i<|λj=>M a j*zv c,(i:J))) (λs=>X a-s.2.toNat) _ ?_ _ _ ⟨0,sB _,O⟩ (by show X a-0<fu;lia);rintro s L ⟨i,hi,rfl⟩ o;unfold mQ;simp only;by_cases h1:i<X a
  ·rw[zS,zo h1,Q,U (xV (e.okZ W i)<|iw.of hc W),YV,xi (by rw[yh];simp;lia),Q,zb];exact o _ ⟨i+1,W,by rw[<-te];rfl⟩ (by show X a-((i:J)+1).toNat<X a-(i:J).toNat;lia)
  ·grind
def U1(a b:N G):N G:=xW (max (X a) (X b))<|λj=>M a j-M b j
def yF{n:K}{f:K->J}(h:∀j,Bz k<|f j):yQ k (xW n f):=Y6 h
theorem zgc{m:K}(d:m=dg (λj=>M b j* -1) (X b)):xW (max (X a) (X (xW (X b)<|λj=>M b j* -1))) (λj=>M a j+M (xW (X b)<|λj=>M b j* -1) j)=U1 a b:=by
 have e:∀j,M (xW (X b)<|λj=>M b j* -1) j=M b j* -1:=kz λj c=>QN c;refine VM (λj c=>JT c) (λj c=> ?_)<|λj=> ?_
 ·rw[zY W,zY W];rfl
 ·grind
theorem Bz.one:∀{k:K},1<=k->Bz k (-1):=by grind [Bz]
def Yw(e:yQ k a)(d:yQ k b)(i:k+2<=100000)(hc:X a<=1000000)(f:X b<=1000000)(c:3000000<=fu):
 uF fu a b=Z (U1 a b):=by
 unfold uF;have hd:=qH (λj=>M b j* -1) (X b);rw[U<|yE YL c,U<|ux d ⟨yx _,(Bz.one<|eZ _).len⟩ W f c,zm,U<|ru (e.mono W) (yF λj=>(d.bz j).mul<|Bz.one<|eZ _) W hc (by rw[xJ];lia) c,zgc O]
def a6(e:yQ k a)(c:yQ k b)(i:k+2<=100000)(hc:X a<=1000000)(f:X b<=1000000)(d:3000000<=fu):
 Jv fu a b=Z (U1 a b):=by
 unfold Jv;have hd:=qH (λj=>M b j* -1) (X b);rw[U (xX YL),U<|jh c ⟨yx _,(Bz.one<|eZ _).len⟩ W f d,zm,U<|ZS (e.mono W) (yF λj=>(c.bz j).mul<|Bz.one<|eZ _) W hc (by rw[xJ];lia) d,zgc O]
end
section
variable{kb ka fu:zV}{b a:zC Zr}
def shP(b:N G)(i k:K):J:=if i<=k then M b (k-i)else 0
def Wz(a b:N G):K->K->J
 |0,_=>0
 |n+1,k=>Wz a b n k+M a n*shP b n k
def Xw(a b:N G)(i j k:K):J:=Wz a b i k+if i<=k/\k<i+j then M a i*M b (k-i)else 0
def xe(a b:N G):N G:=xW (X a+X b)<|Wz a b (X a)
theorem zpO(c:yQ kb b)(i k:K):Bz kb (shP b i k):=by grind [shP,Bz.zero,yQ.bz]
def De{ka kb:K}{a b:N G}(c:yQ ka a)(d:yQ kb b):∀n k,Bz (ka+kb+n) (Wz a b n k)
 |0,k=>Bz.zero _
 |n+1,k=>by
  have h:=((c.bz n).mul<|zpO d n k).mono (W:ka+kb<=ka+kb+n);exact Bz.add (De c d n k) h
def S4(c:yQ ka a)(d:yQ kb b)(i j k:K):Bz (ka+kb+i+1) (Xw a b i j k):=by
 refine Bz.add (De c d i k) ?_;split
 ·exact((c.bz i).mul<|d.bz _).mono W
 ·exact Bz.zero _
def zgk{a b:N G}{k:K}:∀{n},n+X b<=k+1->Wz a b n k=0
 |0,_=>rfl
 |n+1,h=>by
  unfold Wz shP;rw[zgk W,zS,zY (p:=b) W,xaw];rfl
def gR{k:K}(h:X a+X b<=k:=by lia):Wz a b (X a) k=0:=zgk W
def EK(a b:N G)(i k:K):Xw a b i 0 k=Wz a b i k:=by
 unfold Xw;lia
theorem EE(a b:N G)(i k:K):Xw a b i (X b) k=Wz a b (i+1) k:=by
 rw[show Wz a b (i+1) k=Wz a b i k+M a i*shP b i k from O];unfold Xw shP;by_cases h:i<=k
 ·rw[S h];by_cases c:k<i+X b
  ·lia
  ·rw[ir<|λe=>c e.2,zY (p:=b) W,xaw]
 ·grind
def FB(a b:N G)(i j k:K):Xg (Xw a b i j) (i+j) (Xw a b i j (i+j)+M a i*M b j) k=Xw a b i (j+1) k:=by
 unfold Xg;by_cases h:k=i+j
 ·subst h;unfold Xw;simp_all
 ·skip;unfold Xw;by_cases c:i<=k/\k<i+j
  ·lia
  ·lia
def wz(c:yQ ka a)(d:yQ kb b)(o:ka+kb+X a+1<=100000)(hc:X b<=100000)(g:3000000<=fu):w5 fu a b=Z (xe a b):=by
 unfold w5;rw[zb,(W:(X a:J)+(X b:J)=((X a+X b:K):J)),yU,yM,Q,gY];have⟨n,hn⟩:∃n,n=X a+X b:=⟨_,O⟩;rw[<-hn,U (v:=zi n<|Wz a b (X a))]
 ·rw[U<|zP (Y6<|De c d (X a)) W (by rw[yh];lia) g,yh];congr 1;unfold xe;exact VM (λj f=>zY<|by rw[yh];lia) (λj f=>gR f)<|λj=>cn (λj f=>gR) j
 ·refine zt (λs:J×N G=>∃i:K,i<=X a/\s=((i:J),zi n<|Wz a b i)) (λs=>X a-s.1.toNat) _ ?_ _ _ ⟨0,sB _,O⟩ (by show X a-0<fu;lia);rintro s L ⟨i,hi,rfl⟩ l;unfold BE;simp only;by_cases h1:i<X a
  ·rw[zS,U O];simp only[wN];rw[zo h1,Q,U (v:=zi n<|Wz a b<|i+1),zb]
   ·exact l _ ⟨i+1,W,O⟩ (by show X a-((i:J)+1).toNat<X a-(i:J).toNat;lia)
   ·refine zt (λs:J×N G×G=>∃j:K,j<=X b/\s=((j:J),zi n<|Xw a b i j,a.getD i (yL,[]))) (λs=>X b-s.1.toNat) _ ?_ _ _ ⟨0,sB _,by rw[xp λk _=>(EK a b i k).symm];rfl⟩ (by show X b-0<fu;lia);rintro s p ⟨j,f,rfl⟩ h;unfold AD;simp only;by_cases m:j<X b
    ·rw[zS,U O];simp only[wN];have e:(i:J)+(j:J)=((i+j:K):J):=W
     have hp:=S4 c d i j<|i+j;rw[zo m,Q,e,zb,zb,zo (by rw[yh];lia),Q,XC W,U<|yK (c.okZ W i) (d.okZ W j) g,YV,YV,U<|ku (hp.ok W) (((c.bz i).mul<|d.bz j).ok W) g,zm,zm,zo (by rw[yh];lia),Q,iC,zb];exact h _ ⟨j+1,W,by rw[xp λk _=>FB a b i j k];rfl⟩ (by show X b-((j:J)+1).toNat<X b-(j:J).toNat;lia)
    ·rw[zA,U O];simp only[xaj,wP];obtain rfl:j=X b:=W
     rw[xp λk _=>EE a b i k]
  ·rw[zA,U O];simp only[xaj,wP];obtain rfl:i=X a:=W
   rfl
def Vt(c:yQ ka a)(d:yQ kb b)(o:ka+kb+X a+1<=100000)(hc:X b<=100000)(h:3000000<=fu):X3 fu a b=Z (xe a b):=by
 unfold X3;rw[zb,(W:(X a:J)+(X b:J)=((X a+X b:K):J)),yU,yM,Q,gY];have⟨n,hn⟩:∃n,n=X a+X b:=⟨_,O⟩;rw[<-hn,U (v:=zi n<|Wz a b (X a))]
 ·rw[U<|yw (Y6<|De c d (X a)) W (by rw[yh];lia) h,yh];congr 1;unfold xe;exact VM (λj f=>zY<|by rw[yh];lia) (λj f=>gR f)<|λj=>cn (λj f=>gR) j
 ·refine zt (λs:J×N G=>∃i:K,i<=X a/\s=((i:J),zi n<|Wz a b i)) (λs=>X a-s.1.toNat) _ ?_ _ _ ⟨0,sB _,O⟩ (by show X a-0<fu;lia);rintro s L ⟨i,hi,rfl⟩ l;unfold A1;simp only;by_cases h1:i<X a
  ·rw[zS,U (v:=(a,b,zi n<|Wz a b<|i+1))]
   ·simp only;rw[zb];exact l _ ⟨i+1,W,O⟩ (by show X a-((i:J)+1).toNat<X a-(i:J).toNat;lia)
   ·refine zt (λs:N G×N G×J×N G=>∃j:K,j<=X b/\s=(a,b,(j:J),zi n<|Xw a b i j)) (λs=>X b-s.2.2.1.toNat) _ ?_ _ _ ⟨0,sB _,by rw[xp λk _=>(EK a b i k).symm];rfl⟩ (by show X b-0<fu;lia);rintro s p ⟨j,f,rfl⟩ g;unfold BF;simp only;by_cases m:j<X b
    ·rw[zS];have e:(i:J)+(j:J)=((i+j:K):J):=W
     have hp:=S4 c d i j<|i+j;rw[e,zb,zb,zo (by rw[yh];lia),Q,XC W,zo h1,Q,zo m,Q,U<|xV (c.okZ W i)<|d.okZ W j,YV,YV,U<|qp (hp.ok W) (((c.bz i).mul<|d.bz j).ok W) h,zm,zm,zo (by rw[yh];lia),Q,iC,zb];exact g _ ⟨j+1,W,by rw[xp λk _=>FB a b i j k];rfl⟩ (by show X b-((j:J)+1).toNat<X b-(j:J).toNat;lia)
    ·rw[zA];obtain rfl:j=X b:=W
     rw[xp λk _=>EE a b i k]
  ·rw[zA];obtain rfl:i=X a:=W
   rfl
def Xt(c:yQ ka a)(d:yQ kb b):yQ (ka+kb+X a) (xe a b):=yF<|De c d (X a)
theorem zdO(a b:N G)(k:K):M (xe a b) k=Wz a b (X a) k:=kz (λj c=>gR c) k
def jC(a b:N G):X (xe a b)<=X a+X b:=by unfold xe;rw[xJ];exact qH _ _
end
section
variable{f g:zV->zI}{fu k:zV}{a:zC Zr}{m:Zr}{a2:Zr->Zr->z7 (Zr×zI)}
theorem Rq{f g:K->J}:∀{n},(∀k,k<n->f k=g k)->dg f n=dg g n
 |0,_=>rfl
 |n+1,h=>by
  unfold dg;rw[h n W,Rq λk b=>h k W]
theorem QI{n:K}(h:∀k,k<n->f k=g k):xW n f=xW n g:=by grind [xW,Rq,qH,xp]
def Cm{n:K}:xW n (M<|zi n f)=xW n f:=QI λk b=>zeY b
def zfa{l:K}{c:J}(n:mI m)(h0:0<zv m)(r:X a<=1000000)(hl:l<=100000)(o:∀j,Bz l<|g j)(b:3000000<=fu)(h:∀j,j<X a->a2 (a.getD j (yL,[])) m=Z (yf<|g j,c)):
 jv fu a m a2=Z (xW (X a) g,0):=by
 unfold jv;rw[U<|xM n.ok b,ir (λe=>by have:=Nk.1 e;lia),yU,yM,Q,gY,U (v:=zi (X a) g)]
 ·rw[U<|zP (Y6 o) hl (by rw[yh];lia) b,yh,Cm]
 ·refine zt (λs:J×N G=>∃i:K,i<=X a/\s=((i:J),zi (X a) (λk=>if k<i then g k else 0))) (λs=>X a-s.1.toNat) _ ?_ _ _ ⟨0,sB _,by rw[xp (g:=λk=>if k<0 then g k else 0)<|λk _=>by rw[zA]];rfl⟩ (by show X a-0<fu;lia);rintro s L ⟨i,hi,rfl⟩ p;unfold fY;simp only;by_cases h1:i<X a
  ·rw[zS,U O];simp only[wN];rw[zo h1,Q,U<|h i h1];simp only;rw[zo (by rw[yh];exact h1),Q,iC,zb];refine p _ ⟨i+1,W,?_⟩ (by show X a-((i:J)+1).toNat<X a-(i:J).toNat;lia);congr 1;refine xp λk q=> ?_;unfold Xg;by_cases e:k=i
   ·rw[S e,zS,e]
   ·rw[ir e];show(if k<i then g k else 0)=_;by_cases d:k<i
    ·rw[S d,zS]
    ·rw[ir d,zA]
  ·rw[zA,U O];simp only[xaj,wP];congr 1;exact xp λk q=>by rw[zS]
theorem zbf(b:mI m)(h0:zv m<=0)(c:3000000<=fu):jv fu a m a2=Z ([],1):=by grind [jv,U,xM,mI.ok,Nk]
def qm(a:N G)(m:J):N G:=xW (X a)<|λj=>M a j%m
def Eo(a:N G)(m:J):N G:=xW (X a)<|λj=>near (M a j) m
def zlb(a:N G)(m:J):N G×J:=if m<=0 then([],1)else(qm a m,0)
def zg4(a:N G)(m:J):N G×J:=if m<=0 then([],1)else(Eo a m,0)
def mI.bz{z:G}(h:mI z):Bz 40000 (zv z):=(Bz.of h.1).mono h.2
theorem mZ(e:yQ k a)(h:k<=40000)(b:mI m)(hc:X a<=1000000)(d:3000000<=fu):VK fu a m=Z (zlb a<|zv m):=by
 unfold VK zlb;by_cases h0:zv m<=0
 ·rw[U<|zbf b h0 d,S h0]
 ·have⟨K,i⟩:∃K,K=40000:=⟨_,O⟩;have l:Bz K (zv m):=by rw[i];exact b.bz
  rw[ir h0,U<|zfa (c:=0) b W hc (W:K<=100000) (λj=>l.emod W) d λj n=> ?_]
  ·rfl
  ·show jX fu _ _=_;rw[XG (e.okS h j) b d];unfold Ee;rw[ir h0];rfl
def GA(e:yQ k a)(h:k<=40000)(b:mI m)(hc:X a<=1000000)(d:3000000<=fu):Q5 fu a m=Z (zg4 a<|zv m):=by
 unfold Q5 zg4;by_cases h0:zv m<=0
 ·rw[U<|zbf b h0 d,S h0]
 ·have⟨K,i⟩:∃K,K=40000:=⟨_,O⟩;have l:Bz K (zv m):=by rw[i];exact b.bz
  rw[ir h0,U<|zfa (c:=0) b W hc (W:K<=100000) (λj=>l.near W) d λj n=> ?_]
  ·rfl
  ·show Vz fu _ _=_;rw[L4 (e.okS h j) b d];unfold zp4;rw[ir h0];rfl
def Lh{c d:K}{b:N G}(e:yQ c a)(h:yQ d b)(l:c+d+X a+1<=40000)(hc:X b<=40000)(j:mI m)(i:3000000<=fu):Ue fu a b m=Z (zlb (xe a b)<|zv m):=by
 unfold Ue;have:=jC a b;rw[U<|wz e h W W i,U<|mZ (Xt e h) W j W i]
end
section
def zgh(n:K)(f:K->J):xW (X (xW n f)) (M<|xW n f)=xW n f:=by
 have e:∀k,k<dg f n->M (xW n f) k=f k:=λk a=>zeY a;have h:dg (M<|xW n f) (X (xW n f))=dg f n:=by
  rw[xJ];refine dw (eZ _) (λk h1 b=>by lia) ?_;by_cases h0:dg f n=0
  ·lia
  ·right;rw[e _ W];exact Kh f n h0
 show zi (dg (M<|xW n f) (X (xW n f))) (M<|xW n f)=xW n f;rw[h];exact xp e
theorem zl7{p:N G}(h:p=xW (X p) (M p)):p=zi (X p) (M p):=by grind [xW,xJ]
def XB{p:N G}(h:p=xW (X p) (M p))(h0:X p≠0):M p (X p-1)≠0:=by grind [xJ,Kh]
def gA{p:N G}(h:p=xW (X p) (M p)){j:K}(a:j<X p:=by lia):p.getD j (yL,[])=yf (M p j):=by grind [zl7,XC]
def vZ(n:K)(f:K->J):xW n f=xW (X (xW n f)) (M<|xW n f):=(zgh n f).symm
def rM{p:N G}(h:p=xW (X p) (M p)){l:K}(a:∀k,l<=k->M p k=0):X p<=l:=by
 refine xbl λb=> ?_;exact XB h W<|a _ W
def dvF(r d:N G)(m:J)(qn:K):K->K->J
 |0=>M r
 |s+1=>λk=>dvF r d m qn s k-(dvF r d m qn s (qn-(s+1)+(X d-1))%m)*shP d (qn-(s+1)) k
def Tm(r d:N G)(m:J)(qn i:K):K->J:=dvF r d m qn<|qn-i
def dvC(r d:N G)(m:J)(qn i:K):J:=Tm r d m qn (i+1) (i+(X d-1))%m
section
variable{r d:zC Zr}{m:zI}{qn:zV}
def My:Tm r d m qn qn=M r:=by unfold Tm;rw[xcX];rfl
theorem NT{i:K}(h:i<qn)(k:K):Tm r d m qn i k=Tm r d m qn (i+1) k-dvC r d m qn i*shP d i k:=by
 unfold dvC Tm;have⟨s,a⟩:∃s,s=qn-(i+1):=⟨_,O⟩;rw[(W:qn-i=s+1)];show dvF r d m qn s k-(dvF r d m qn s (qn-(s+1)+(X d-1))%m)*shP d (qn-(s+1)) k=_;grind
def zc1{K:zV}(a:yQ K r)(hd:yQ K d)(b:Bz K m)(h0:0<m):∀s k,Bz (2*K+s) (dvF r d m qn s k)
 |0,k=>(a.bz k).mono W
 |s+1,k=>by
  have h:=((Bz.emod (x:=dvF r d m qn s<|qn-(s+1)+(X d-1)) b h0).mul<|zpO hd (qn-(s+1)) k).mono (W:K+K<=2*K+s);exact Bz.sub (zc1 a hd b h0 s k) h
def zhS{K:zV}(a:Bz K m)(h0:0<m)(i:zV):Bz K (dvC r d m qn i):=Bz.emod a h0
end
def W9{fu k:K}{a:N G}{m:G}(b:yQ k a)(c:k<=40000)(d:mI m)(h0:0<zv m)(e:X a<=1000000:=by lia)(f:3000000<=fu:=by lia):xB fu a m=Z (qm a<|zv m):=by grind [xB,zlb,U,mZ]
def ie{K:zV}{a:N G}{m:J}(b:Bz K m)(h0:0<m):yQ K (qm a m):=yF λj=>Bz.emod b h0
theorem W8(a:N G)(m:J):X (qm a m)<=X a:=by unfold qm;rw[xJ];exact qH _ _
def ZD(a:N G)(m:J)(k:K):M (qm a m) k=M a k%m:=kz (λj b=>by rw[zY b,xae]) k
def gJ(a:N G)(m:J):qm a m=xW (X (qm a m)) (M<|qm a m):=vZ _ _
def dvQ(r d:N G)(m:J)(qn:K):K->J:=λk=>if k<qn then dvC r d m qn k else 0
def zaj(r d:N G)(m:J):N G:=xW (X r+1-X d)<|λk=>dvQ r d m (X r+1-X d) k%m
def Q0(r d:N G)(m:J):N G:=xW (X r)<|λk=>Tm r d m (X r+1-X d) 0 k%m
def LA(r d:N G)(m:J)(qn i j:K):K->J:=λk=>Tm r d m qn (i+1) k-if i<=k/\k<i+j then dvC r d m qn i*M d (k-i)else 0
def zkw{r d:N G}{m:J}{qn i k:K}:LA r d m qn i 0 k=Tm r d m qn (i+1) k:=by
 unfold LA;lia
def zlg{r d:N G}{m:J}{qn i:K}(h:i<qn)(k:K):LA r d m qn i (X d) k=Tm r d m qn i k:=by
 rw[NT h];unfold LA shP;by_cases h:i<=k
 ·rw[S h];by_cases a:k<i+X d
  ·lia
  ·rw[ir<|λe=>a e.2,zY W,xaw]
 ·grind
def zkW(r d:N G)(m:J)(qn i j k:K):Xg (LA r d m qn i j) (i+j) (LA r d m qn i j (i+j)-dvC r d m qn i*M d j) k=LA r d m qn i (j+1) k:=by
 unfold Xg;by_cases h:k=i+j
 ·subst h;unfold LA;simp_all
 ·skip;unfold LA;by_cases a:i<=k/\k<i+j
  ·lia
  ·lia
def zr2{K:zV}{r d:N G}{m:J}{qn i j:zV}(b:yQ K r)(hd:yQ K d)(a:Bz K m)(h0:0<m)(h:i<qn)(k:zV):Bz (2*K+qn+1) (LA r d m qn i j k):=by
 refine Bz.sub ((zc1 b hd a h0 _ k).mono W) ?_;split
 ·exact((zhS a h0 i).mul<|hd.bz _).mono W
 ·exact Bz.zero _
def zlP{fu K n i qn:zV}{r d:N G}{m:G}{q:zV->J}(c:yQ K r)(hd:yQ K d)(a:Bz K (zv m))(h0:0<zv m)(hn:X r=n)(o:qn=n+1-X d)(p:0<X d)(hi:i<qn)(t:2*K+n+5<=40000)(g:q i=dvC r d (zv m) qn i)(b:3000000<=fu):
 zg (XM fu d (i:J)) fu (d,m,0,zi n<|Tm r d (zv m) qn<|i+1,zi qn q)=Z (d,m,zi n<|Tm r d (zv m) qn i,zi qn q):=by
 refine zt (λs:N G×G×J×N G×N G=>∃j:zV,j<=X d/\s=(d,m,(j:J),zi n<|LA r d (zv m) qn i j,zi qn q)) (λs=>X d-s.2.2.1.toNat) _ ?_ _ _ ⟨0,sB _,by rw[xp (f:=LA r d (zv m) qn i 0) λk _=>zkw];rfl⟩ (by show X d-0<fu;lia);rintro s L ⟨j,u,rfl⟩ h;unfold XM;simp only;by_cases l:j<X d
 ·rw[zS,U O];simp only[wN];have e:(i:J)+(j:J)=((i+j:zV):J):=W
  have hp:=zr2 (j:=j) c hd a h0 hi<|i+j;have hc:=zhS (r:=r) (d:=d) (qn:=qn) a h0 i;rw[zo l,Q,e,zb,zb,zo (by rw[yh];lia),Q,XC W,zo (by rw[yh];lia),Q,XC hi,g,U<|yK (hc.ok W) (hd.okZ W j) b,YV,zm,U<|kF (hp.ok W) ((hc.mul<|hd.bz j).ok W) b,zm,zm,zo (by rw[yh];lia),Q,iC,zb];exact h _ ⟨j+1,W,by rw[xp λk _=>zkW r d (zv m) qn i j k];rfl⟩ (by show X d-((j:J)+1).toNat<X d-(j:J).toNat;lia)
 ·rw[zA,U O];simp only[xaj,wP];obtain rfl:j=X d:=W
  rw[xp λk _=>zlg hi k]
def zdr{fu K n qn:zV}{r d:N G}{m:G}(a:yQ K r)(j:r=zi n (M r))(hd:yQ K d)(b:Bz K (zv m))(l:zn m.2)(v:X m.2<=K)(h0:0<zv m)(hn:X r=n)(o:qn=n+1-X d)(hc:0<X d)(p:2*K+n+5<=40000)(w:X d<=1000000)(c:3000000<=fu):
 zg (XU fu d m) fu ((qn:J)-1,r,sR qn (yL,[]))=Z (zi n<|Tm r d (zv m) qn 0,zi qn<|dvQ r d (zv m) qn):=by
 refine zt (λs:J×N G×N G=>∃i:zV,i<=qn/\s=((i:J)-1,zi n<|Tm r d (zv m) qn i,zi qn (λk=>if i<=k then dvC r d (zv m) qn k else 0))) (λs=>(s.1+1).toNat) _ ?_ _ _ ⟨qn,eZ _,?_⟩ (by show((qn:J)-1+1).toNat<fu;lia)
 ·rintro s L ⟨i,hi,rfl⟩ t;unfold XU;simp only
  cases i with
  |zero=>
   have e0:(zi qn λk=>if 0<=k then dvC r d (zv m) qn k else 0)=zi qn (dvQ r d (zv m) qn):=xp λk e=>by
    rw[S<|sB _];unfold dvQ;lia
   rw[zA,e0]
  |succ i=>
   have e1:((i+1:zV):J)-1=(i:J):=W
   have u:(i:J)+(X d:J)-1=((i+(X d-1):zV):J):=W
   have hp:Bz (2*K+qn) (Tm r d (zv m) qn (i+1)<|i+(X d-1)):=(zc1 a hd b h0 _ _).mono W;rw[e1,zS,zb,u,zb,zo (by rw[yh];lia),Q,XC W,U<|XG (hp.okS W) ⟨l,W⟩ c,zm];unfold Ee;rw[zA];simp only;rw[zo (by rw[yh];lia),Q,iC,U<|zlP (q:=Xg (λk=>if i+1<=k then dvC r d (zv m) qn k else 0) i<|Tm r d (zv m) qn (i+1) (i+(X d-1))%zv m) a hd b h0 hn o hc W p ?_ c]
   ·simp only;rw[zb];refine t _ ⟨i,W,?_⟩ (by show((i:J)-1+1).toNat<(((i+1:zV):J)-1+1).toNat;lia);congr 2;refine xp λk e=> ?_;unfold Xg;by_cases h:k=i
    ·rw[S h,zS,h];rfl
    ·rw[ir h];show(if i+1<=k then _ else _)=_;by_cases f:i+1<=k
     ·rw[S f,zS]
     ·rw[ir f,zA]
   ·unfold Xg;rw[S O];rfl
 ·rw[My,<-j,gY,xp (g:=λk=>if qn<=k then dvC r d (zv m) qn k else 0) λk e=>by rw[zA]]
def KO{fu k K:zV}{a d:N G}{m:G}(l:yQ k a)(b:k<=40000)(hd:yQ K d)(e:zn m.2)(g:X m.2<=K)(h0:0<zv m)(hi:0<X d)(t:2*K+X a+5<=40000)(o:X d<=1000000)(p:3000000<=fu):
 uj fu a d m=Z (zaj (qm a<|zv m) d<|zv m,Q0 (qm a<|zv m) d<|zv m):=by
 unfold uj;have c:Bz K (zv m):=(Bz.of e).mono g;have f:mI m:=⟨e,W⟩;have h:=ie (a:=a) c h0;have hl:=W8 a<|zv m;have hc:=zl7<|gJ a<|zv m;rw[U<|W9 l b f h0];generalize qm a (zv m)=r at*
 have⟨qn,i⟩:∃qn,qn=X r+1-X d:=⟨_,O⟩;have e1:max ((X r:J)-(X d:J)+1) 0=(qn:J):=W
 rw[zb,zb,Q,e1,yU,yM,Q,xaR,zb,U<|zdr h hc hd c e g h0 O i hi W o p];simp only;have q:∀j,Bz K (dvQ r d (zv m) qn j):=λj=>by
  unfold dvQ;split
  ·exact zhS c h0 j
  ·exact Bz.zero _
 have s:∀j,Bz (2*K+qn) (Tm r d (zv m) qn 0 j):=λj=>(zc1 h hd c h0 _ _).mono W;rw[U (W9 (Y6 q) W f h0<|by rw[yh];lia),U<|W9 (Y6 s) W f h0<|by rw[yh];lia];unfold zaj Q0 qm;rw[<-i,yh,yh,QI λk b=>by rw[zeY b],QI (n:=X r) λk b=>by rw[zeY b]]
end
section
variable{k:zV}{a b:zC Zr}
def mono(i:K)(c:J):K->J:=λk=>if k=i then c else 0
theorem zjb(i:K)(c:J)(k:K):M (zi (i+1)<|mono i c) k=mono i c k:=by grind [mono,cn]
theorem zbS{d:N G}{i:K}{c:J}(k:K):∀n,n<=i->Wz (zi (i+1)<|mono i c) d n k=0
 |0,_=>rfl
 |n+1,h=>by
  unfold Wz;rw[zbS k n W,zjb];unfold mono;grind
def zkF(d:N G)(i:K)(c:J)(k:K):M (xe (zi (i+1)<|mono i c) d) k=c*shP d i k:=by simp_all [mono,Wz,zdO,yh,zbS,zjb]
def Nu(a b:N G)(k:K):M (U1 a b) k=M a k-M b k:=kz (λj c=>by rw[zY W,zY W];rfl) k
def gM(a b:N G):X (U1 a b)<=max (X a) (X b):=by unfold U1;rw[xJ];exact qH _ _
def MG(c:yQ k a)(d:yQ k b):yQ (k+1) (U1 a b):=yF λj=>(c.bz j).sub<|d.bz j
theorem Bz.one':∀{k:K},1<=k->Bz k 1:=by grind [Bz]
theorem zfi(hl:X a=X b)(h:∀j,j<X a->a.getD j (yL,[])=b.getD j (yL,[])):a=b:=by grind [xeG]
theorem mr{fu:K}(f:yQ k a)(m:k<=1000000)(n:X a<=1000000)(o:3000000<=fu):Vd fu a b=Z (decide<|a=b):=by
 unfold Vd;by_cases hl:X a=X b
 ·rw[zS,U (v:=if a=b then .inl ()else .inr ())]
  ·grind
  ·refine zt (λi:J=>∃j:K,i=(j:J)/\j<=X a/\∀l,l<j->a.getD l (yL,[])=b.getD l (yL,[])) (λi=>X a-i.toNat) _ ?_ _ _ ⟨0,O,sB _,λl h=>wl h<|xbf _⟩ (by show X a-0<fu;lia);rintro i L ⟨j,rfl,p,d⟩ g;unfold oi;by_cases h1:j<X a
   ·have:=(f.get j).2;rw[zS,zo h1,Q,yc,Q,U<|my];by_cases c:a.getD j (yL,[])=b.getD j (yL,[])
    ·rw[wU c,ir YL,zb];refine g _ ⟨j+1,O,W,λl h=> ?_⟩ W;by_cases q:l=j
     ·simp_all
     ·exact d l W
    ·rw[wS c,S YL,ir<|λe=>c<|by rw[e]]
   ·rw[zA,S<|zfi hl λl h=>d l W]
 ·rw[zA,wS<|λe=>hl<|by rw[e]]
theorem zbT{d:N G}(h:X d≠0:=by lia):d.drop (X d-1)=[d.getD (X d-1) (yL,[])]:=by grind [xbK]
end
def zo9{l:N K}(h:(Ty.l .u).ok l):zn l:=λx a=>h.2 x a
def zqK{p:N G}(h:(Ty.l (.p .b (.l .u))).ok p){k:K}(c:∀z∈p,X z.2<=k):yQ k p:=λz a=>⟨zo9 (h.2 z a).2,c z a⟩
def Gn(c k:K)(p:N G):Prop:=X p<=c/\∀z∈p,X z.2<=k
instance smallP_dec(c k:K)(p:N G):vU (Gn c k p):=inferInstanceAs<|vU<|_/\_
def zvw{l:N G}{i:K}(h:i<X l):l.getD i (yL,[])∈l:=by grind
def zmt{l:N G}{q:G->Prop}(h:∀j,j<X l->q (l.getD j (yL,[]))):∀z∈l,q z:=by grind [xdF]
section
def za4{a b:N G}(k:K):∀c,Wz a b (X a+c) k=Wz a b (X a) k
 |0=>rfl
 |c+1=>by
  show Wz a b (X a+c) k+M a (X a+c)*shP b (X a+c) k=_;rw[za4 k c,zY W,xaK,xby]
def zfd{a b:N G}{n:K}(h:X a<=n)(k:K):Wz a b n k=Wz a b (X a) k:=by
 have:=za4 (a:=a) (b:=b) k<|n-X a;simp_all
def Ru{a b:N G}{m:J}(h:∀k,M a k%m=M b k%m):qm a m=qm b m:=by grind [qm,VM,zY,xae]
section
variable{r d:zC Zr}{m:zI}
theorem ziY{qn:K}{q:N G}(a:∀j,j<qn->M q j=dvC r d m qn j)(k:K):∀n,n<=qn->Tm r d m qn n k=Tm r d m qn 0 k+Wz q d n k
 |0,_=>by show _=_+0;lia
 |n+1,h=>by
  have b:=ziY a k n W;rw[NT W]at b;show _=_+(Wz q d n k+M q n*shP d n k);grind
def zji(j:K):M (zaj r d m) j=dvQ r d m (X r+1-X d) j%m:=kz (λk a=>by unfold dvQ;rw[zA,xae]) j
def Oq{qn:K}(hn:X r<=qn+(X d-1))(a:0<X d)(b:M d (X d-1)=1):∀c i k,i+c=qn->i+(X d-1)<=k->Tm r d m qn i k%m=0
 |0,i,k,hi,e=>by
  obtain rfl:i=qn:=W
  rw[My,zY W,xae]
 |c+1,i,k,hi,e=>by
  rw[NT W];by_cases h:k=i+(X d-1)
  ·unfold shP dvC;simp_all
  ·have f:=Oq hn a b c (i+1) k W W;unfold shP;rw[zS,zY W,xaw,xcy];exact f
def CC(h:X r<=X r+1-X d+(X d-1))(a:0<X d)(b:M d (X d-1)=1)(k:K):M (Q0 r d m) k=Tm r d m (X r+1-X d) 0 k%m:=
 kz (λj c=>by
  by_cases e:X d<=X r
  ·exact Oq h a b _ 0 j (xaF _) W
  ·rw[(W:X r+1-X d=0),My,zY c,xae]) k
def zaH(a:0<X d)(b:M d (X d-1)=1):X (Q0 r d m)<X d:=by
 have h:X (Q0 r d m)<=X d-1:=rM (vZ _ _) λk c=>by
  rw[show xW (X r) (λk=>Tm r d m (X r+1-X d) 0 k%m)=Q0 r d m from O,CC W a b];exact Oq W a b _ 0 k (xaF _) W
 lia
end
end
section
variable{m:zI}
def yA:K->(K->J)->J
 |0,_=>0
 |n+1,f=>yA n f+f n
def yH{f g:K->J}:∀{n},(∀k,k<n->f k=g k)->yA n f=yA n g
 |0,_=>rfl
 |n+1,h=>by
  show yA n f+f n=yA n g+g n;rw[yH λk a=>h k W,h n W]
def Vv(f g:K->J):∀n,yA n (λk=>f k+g k)=yA n f+yA n g
 |0=>rfl
 |n+1=>by
  show yA n _+(f n+g n)=yA n f+f n+(yA n g+g n);rw[Vv f g n];lia
theorem Ya(c:J)(f:K->J):∀n,yA n (λk=>c*f k)=c*yA n f
 |0=>by show 0=c*0;lia
 |n+1=>by
  show yA n _+c*f n=c*(yA n f+f n);rw[Ya c f n,xfg]
theorem zkD(c:J)(f:K->J)(n:K):yA n (λk=>f k*c)=yA n f*c:=by grind [Ya,xaX]
def xz:∀{n}{f:K->J},(∀k,k<n->f k=0)->yA n f=0
 |0,_,_=>rfl
 |n+1,f,h=>by
  show yA n f+f n=0;rw[xz λk a=>h k W,h n W];rfl
def ZO(f:K->J):∀n,yA (n+1) f=f 0+yA n (λk=>f<|k+1)
 |0=>by show 0+f 0=f 0+0;lia
 |n+1=>by
  show yA (n+1) f+f (n+1)=f 0+(yA n _+f (n+1));rw[ZO f n];lia
def zgz(f:K->J):∀n,yA (n+1) f=yA (n+1) (λk=>f<|n-k)
 |0=>rfl
 |n+1=>by
  rw[ZO (λk=>f<|n+1-k)<|n+1];show yA (n+1) f+f (n+1)=f (n+1-0)+_;rw[zgz f n,Nat.sub_zero,yH (f:=λk=>f<|n+1-(k+1)) λk _=>by rw[(W:n+1-(k+1)=n-k)]];lia
def zdX{f:K->J}{n:K}(h:∀k,n<=k->f k=0):∀c,yA (n+c) f=yA n f
 |0=>rfl
 |c+1=>by
  show yA (n+c) f+f (n+c)=_;rw[zdX h c,h _ W];lia
theorem zfE(G:K->K->J):∀n,yA n (λi=>yA (i+1)<|λj=>G j<|i-j)=yA n (λj=>yA (n-j)<|λl=>G j l)
 |0=>rfl
 |n+1=>by
  show yA n _+yA (n+1) (λj=>G j<|n-j)=yA n _+yA (n+1-n) (λl=>G n l);rw[zfE G n,yH (f:=λj=>yA (n+1-j)<|λl=>G j l) (g:=λj=>yA (n-j) (λl=>G j l)+G j (n-j)) λj a=>by rw[(W:n+1-j=(n-j)+1)];rfl,Vv,(W:n+1-n=1)];show _+(yA n (λj=>G j<|n-j)+G n (n-n))=_+(0+G n 0);grind
abbrev Pz:=K->J
instance:_root_.Add Pz:=⟨λf g k=>f k+g k⟩
instance:_root_.Sub Pz:=⟨λf g k=>f k-g k⟩
instance:_root_.Neg Pz:=⟨λf k=> -f k⟩
instance:_root_.Mul Pz:=⟨λf g k=>yA (k+1)<|λi=>f i*g (k-i)⟩
def pc(c:J):Pz:=λk=>if k=0 then c else 0
theorem zG(f g:Pz)(k:K):(f+g) k=f k+g k:=O
theorem yT(f g:Pz)(k:K):(f-g) k=f k-g k:=O
theorem ziQ(f:Pz)(k:K):(-f) k= -f k:=O
theorem qt(f g:Pz)(k:K):(f*g) k=yA (k+1) (λi=>f i*g (k-i)):=O
theorem zk(f g:Pz):f*g=g*f:=by
 funext k;rw[qt,zgz];exact yH λi hi=>by rw[(W:k-(k-i)=i),xaX]
theorem xu(f g h:Pz):f*(g+h)=f*g+f*h:=by
 funext k;rw[zG,qt,qt,qt,<-Vv];exact yH λi _=>by rw[zG,xfg]
theorem yu(f g h:Pz):(f+g)*h=f*h+g*h:=by grind [zk,xu]
theorem zlI(f g:Pz):f*(-g)= -(f*g):=by grind [ziQ,yA,qt,Ya]
theorem zgo(f g:Pz):f-g=f+ -g:=by
 rfl
theorem ve(f g h:Pz):f*(g-h)=f*g-f*h:=by grind [zgo,xu,zlI]
theorem ji(f g h:Pz):(f-g)*h=f*h-g*h:=by grind [zk,ve]
theorem zd(f g h:Pz):f*g*h=f*(g*h):=by
 funext k;have e1:(f*g*h) k=yA (k+1) (λi=>yA (i+1)<|λj=>(λj l=>f j*g l*h (k-(j+l))) j<|i-j):=by
  rw[qt];refine yH λi hi=> ?_;rw[qt,<-zkD];exact yH λj a=>by grind
 rw[e1,zfE<|λj l=>f j*g l*h (k-(j+l)),qt];refine yH λj a=> ?_;rw[qt,<-Ya,(W:k+1-j=k-j+1)];exact yH λl hl=>by
  show f j*g l*h (k-(j+l))=f j*(g l*h (k-j-l));rw[(W:k-(j+l)=k-j-l),xcv]
theorem zD(f g h:Pz):f*(g*h)=g*(f*h):=by grind [zd,zk]
theorem zU(c:J)(f:Pz)(k:K):(pc c*f) k=c*f k:=by simp_all [pc,qt,ZO,xz]
def zB(f:Pz):pc 1*f=f:=by funext k;rw[zU,xcr]
def zT(f:Pz):pc 0*f=pc 0:=by
 funext k;rw[zU,xaK];unfold pc;split<;>rfl
def zE(k:K):pc 0 k=0:=by unfold pc;split<;>rfl
def uk(a b:J):pc a*pc b=pc (a*b):=by
 funext k;rw[zU];unfold pc;split
 ·rfl
 ·lia
def Cg(m:J)(f g:Pz):Prop:=∀k,f k%m=g k%m
def Cg.rfl{f:Pz}:Cg m f f:=λ_=>Eq.refl _
def Cg.of{f g:Pz}(h:f=g):Cg m f g:=λ_=>by rw[h]
def Cg.symm{m:J}{f g:Pz}(h:Cg m f g):Cg m g f:=λk=>(h k).symm
def Cg.trans{m:J}{f g h:Pz}(h1:Cg m f g)(a:Cg m g h):Cg m f h:=λk=>(h1 k).trans<|a k
def Cg.add{f f' g a:Pz}(h1:Cg m f f')(b:Cg m g a):Cg m (f+g) (f'+a):=λk=>by
 rw[zG,zG,xdq,h1,b,<-xdq]
def Cg.sub{f f' g a:Pz}(h1:Cg m f f')(b:Cg m g a):Cg m (f-g) (f'-a):=λk=>by
 rw[yT,yT,xfp,h1,b,<-xfp]
def tM{m:J}{f g:K->J}:∀{n},(∀k,k<n->f k%m=g k%m)->yA n f%m=yA n g%m
 |0,_=>Eq.refl _
 |n+1,h=>by
  show(yA n f+f n)%m=(yA n g+g n)%m;rw[xdq,tM λk a=>h k W,h n W,<-xdq]
def Cg.mul{f f' g a:Pz}(h1:Cg m f f')(b:Cg m g a):Cg m (f*g) (f'*a):=λk=>by
 exact tM λi _=>by rw[xaY,h1,b,<-xaY]
def Cg.down{n:J}{f g:Pz}(h:Cg m f g)(hd:n∣m):Cg n f g:=λk=>by
 have:=h k;rw[<-xcE (f k) hd,this,xcE _ hd]
def Cg.dvd{f:Pz}(h:Cg m f (pc 0))(k:K):m∣f k:=xaA<|by rw[h,zE,xae]
def Cg.of_dvd{f:Pz}(h:∀k,m∣f k):Cg m f (pc 0):=λk=>by rw[zE,xae,xaq<|h k]
def ry{m:J}{f:K->J}:∀{n},(∀k,k<n->m∣f k)->m∣yA n f
 |0,_=>xdr _
 |n+1,h=>Int.dvd_add (ry λk a=>h k W)<|h n W
def Cg.mul_zero{n:J}{f g:Pz}(a:Cg m f (pc 0))(b:Cg n g (pc 0)):Cg (m*n) (f*g) (pc 0):=Cg.of_dvd λk=>by
 exact ry λi _=>xfE (a.dvd i)<|b.dvd _
def Cg.mul_zero_l{f:Pz}(g:Pz)(a:Cg m f (pc 0)):Cg m (g*f) (pc 0):=by
 have:=(Cg.rfl (f:=g)).mul a;rw[zk g<|pc 0,zT]at this;lia
def Cg.iff_sub{f g:Pz}:Cg m f g↔Cg m (f-g) (pc 0):=by
 constructor
 ·intro h;refine Cg.of_dvd λk=> ?_;exact xaA<|xaC.1<|h k
 ·intro h k;have:=xaq<|h.dvd k;exact xaC.2 this
end
section
variable{m:zI}{f g h s t:Pz}
theorem yp(f:Pz):f*pc 1=f:=by rw[zk,zB]
def zrG(f g h s t e q:Pz):f-(g+(t*e+q*g))*(h+(s*e-q*h))=(f-g*h-e)+(e*(pc 1-(s*g+t*h))-(t*s)*(e*e)+(t*h-g*s)*(q*e)+(g*h)*(q*q)):=by
 simp only[xu,ve,yp,zD,zk];funext k;simp only[zG,yT];lia
def zoW(g h s t b c:Pz):(s-(s*b-c*h))*g+(t-(t*b+c*g))*h-pc 1=(s*g+t*h-pc 1-b)-(s*g+t*h-pc 1-b)*b-b*b:=by
 simp only[xu,ve,yp,zD,zk];funext k;simp only[zG,yT];lia
def Cg.zero_add(a:Cg m f (pc 0))(b:Cg m g (pc 0)):Cg m (f+g) (pc 0):=Cg.of_dvd λk=>by skip;exact Int.dvd_add (a.dvd k)<|b.dvd k
def Cg.zero_sub(a:Cg m f (pc 0))(b:Cg m g (pc 0)):Cg m (f-g) (pc 0):=Cg.of_dvd λk=>by skip;exact xdm (a.dvd k)<|b.dvd k
def Cg.mul_zero_r(g:Pz)(a:Cg m f (pc 0)):Cg m (f*g) (pc 0):=by rw[zk];exact a.mul_zero_l g
def zp2{n:J}(b:m∣n*n)(hn:n∣m){e q r d i:Pz}(h1:Cg n f (g*h))(p:Cg n (s*g+t*h) (pc 1))(j:Cg m e (f-g*h))(hd:Cg m (s*e) (q*h+r))(c:Cg n q (pc 0))(w:Cg n r (pc 0))(l:Cg m d (g+(t*e+q*g)))(o:Cg m i (h+r)):
 Cg m f (d*i)/\Cg n d g/\Cg n i h:=by
 have a:Cg n e (pc 0):=(j.down hn).trans<|Cg.iff_sub.1 h1;have u:Cg m r (s*e-q*h):=by
  refine Cg.iff_sub.2<|Cg.of_dvd λk=> ?_;have:=(Cg.iff_sub.1 hd).dvd k;simp only[zG,yT]at this⊢;have e1:r k-((s*e) k-(q*h) k)= -((s*e) k-((q*h) k+r k)):=W
  simp_all
 refine⟨?_,?_,?_⟩
 ·refine Cg.trans ?_<|Cg.symm<|l.mul<|o.trans<|Cg.rfl.add u;refine Cg.iff_sub.2 ?_;rw[zrG];have v:Cg m (f-g*h-e) (pc 0):=Cg.iff_sub.1 j.symm;have z2:Cg n (pc 1-(s*g+t*h)) (pc 0):=Cg.iff_sub.1 p.symm;exact v.zero_add ((((a.mul_zero z2).down b).zero_sub<|((a.mul_zero a).down b).mul_zero_l _).zero_add (((c.mul_zero a).down b).mul_zero_l _)|>.zero_add (((c.mul_zero c).down b).mul_zero_l _))
 ·refine(l.down hn).trans<|Cg.iff_sub.2 ?_;have e1:g+(t*e+q*g)-g=t*e+q*g:=by
   funext k;simp only[zG,yT];lia
  rw[e1];exact(a.mul_zero_l t).zero_add<|c.mul_zero_r g
 ·refine(o.down hn).trans<|Cg.iff_sub.2 ?_;have e1:h+r-h=r:=by
   funext k;simp only[zG,yT];lia
  simp_all
def znQ{n:J}(o:m∣n*n)(hn:n∣m){b c d a e:Pz}(p:Cg n (s*g+t*h) (pc 1))(i:Cg m b (s*g+t*h-pc 1))(hd:Cg m (s*b) (c*h+d))(q:Cg m a (s-d))(r:Cg m e (t-(t*b+c*g))):
 Cg m (a*g+e*h) (pc 1):=by
 have j:=(i.down hn).trans<|Cg.iff_sub.1 p;have hc:Cg m d (s*b-c*h):=by
  refine Cg.iff_sub.2<|Cg.of_dvd λk=> ?_;have:=(Cg.iff_sub.1 hd).dvd k;simp only[zG,yT]at this⊢;have e1:d k-((s*b) k-(c*h) k)= -((s*b) k-((c*h) k+d k)):=W
  simp_all
 refine((q.trans<|Cg.rfl.sub hc).mul Cg.rfl|>.add (r.mul Cg.rfl)).trans<|Cg.iff_sub.2 ?_;rw[zoW];have l:=Cg.iff_sub.1 i.symm;exact(l.zero_sub<|l.mul_zero_r b).zero_sub<|(j.mul_zero j).down o
end
section
variable{a p:zI}{fu j m:zV}{f g:Pz}{l:zC zI}
theorem zey(hp:0<p:=by lia):(if xbn a p<0 then xbn a p+p else xbn a p)=a%p:=by
 have h1:=xcJ a (W:p≠0);have b:=xdw a hp;by_cases h:0<=a\/p∣a
 ·grind
 ·grind
theorem kZ(b:0<=a:=by lia):xbn a p=a%p:=by grind
def yz(hp:0<p:=by lia):0<=a%p/\a%p<p:=⟨xcJ a W,xdw a hp⟩
theorem XZ(h1:1<=p)(c:p<=65521)(d:Um a):Ys fu a p=Z (a%p):=by
 unfold Ys;have e:=yz (a:=a) (p:=p);have b:=zey (a:=a) (p:=p);rw[zA,yM,Q];by_cases h:xbn a p<0
 ·rw[S h]at b;rw[S h,zb,b]
 ·grind
def zl(n:K)(f:Pz):N J:=(xaE n).map f
def ci(l:N J):Pz:=λk=>l.getD k 0
def nl(n:K)(f:Pz):N J:=zl (dg f n) f
def YU(l:N J)(k:K):l.getD k 0=ci l k:=O
theorem zF(n:K)(f:Pz):X (zl n f)=n:=by unfold zl;simp
def jE{n:K}(h:j<n:=by lia):(zl n f).getD j 0=f j:=by simp_all [zl]
theorem yR{n:K}(h:∀k,k<n->f k=g k):zl n f=zl n g:=by simp_all [zl]
theorem Zx{n:K}{v:J}:(zl n f).set j v=zl n (Xg f j v):=by
 refine xcC λi=> ?_;unfold zl Xg;by_cases h:j=i
 ·grind
 ·grind
theorem fc(n:K):sR n 0=zl n (λ_=>0):=by grind [zl,List.map_const',xeg]
theorem zrH{n:K}:zl n f++[f n]=zl (n+1) f:=by grind [zl,xdb]
def MZ{n:K}(h:m<=n:=by lia):(zl n f).take m=zl m f:=by
 unfold zl;rw[<-List.map_take,List.take_range,xcg h]
theorem km{n:K}(h:j<n):ci (zl n f) j=f j:=jE h
theorem zW(h:X l<=j):ci l j=0:=by simp_all [ci]
theorem qP{n:K}(h:∀k,n<=k->f k=0)(j:K):ci (zl n f) j=f j:=by grind [km,zW,zF]
theorem zga(l:N J):zl (X l) (ci l)=l:=by grind [zl,ci,zF,xeG]
def zm8(n:K)(f:Pz):X (nl n f)=dg f n:=zF _ _
def zbr(n:K)(f:Pz):X (nl n f)<=n:=by rw[zm8];exact qH _ _
def Ou{n:K}(h:∀k,n<=k->f k=0)(j:K):ci (nl n f) j=f j:=by
 refine qP (λk b=> ?_) j;by_cases hn:k<n
 ·exact Kf f n k b hn
 ·simp_all
theorem ztr{n:K}(c:∀k,n<=k->f k=0)(d:∀k,m<=k->g k=0)(h:∀k,f k=g k):dg f n=dg g m:=by
 refine dw ?_ ?_ ?_
 ·refine xbl λe=> ?_;have:=Kh g m W;grind
 ·intro k h1 i;rw[h];by_cases b:k<m
  ·exact Kf g m k h1 b
  ·simp_all
 ·by_cases h0:dg g m=0
  ·lia
  ·right;rw[h];exact Kh g m h0
theorem zue{n:K}(b:∀k,n<=k->f k=0)(c:∀k,m<=k->g k=0)(h:∀k,f k=g k):nl n f=nl m g:=by grind [nl,ztr,yR]
theorem sj{n:K}(h:∀k,k<n->f k=g k):nl n f=nl n g:=by grind [nl,Rq,qH,yR]
def Nl(l:N J):Prop:=X l=0\/ci l (X l-1)≠0
def Ib(n:K)(f:Pz):Nl (nl n f):=by
 by_cases h:X (nl n f)=0
 ·exact .inl h
 ·right;rw[zm8]at h⊢;unfold nl;rw[km W];exact Kh f n h
def Nl.eq(h:Nl l):l=nl (X l) (ci l):=by
 have e:=dw (eZ _) (λk h1 b=>by lia)<|h.imp id id;unfold nl;rw[e,zga]
def Nl.ext{a b:N J}(d:Nl a)(e:Nl b)(h:∀k,ci a k=ci b k):a=b:=by
 rw[d.eq,e.eq];exact zue (λk c=>zW c) (λk c=>zW c) h
theorem Nl.le(h:Nl l){n:K}(b:∀k,n<=k->ci l k=0):X l<=n:=by
 obtain h|h:=h
 ·lia
 ·grind
def Rl(l:N J):Prop:=∀k,Um<|ci l k
structure Fp(p:J)(l:N J):Prop where
 nn:∀k,0<=ci l k
 lt:∀k,ci l k<p
 nl:Nl l
def pm(p:J)(l:N J):N J:=nl (X l)<|λk=>ci l k%p
def E4(p:J)(l:N J)(k:K):ci (pm p l) k=ci l k%p:=Ou (λk b=>by rw[zW b,xae]) k
def zbp(p:J)(l:N J):X (pm p l)<=X l:=zbr _ _
def mj(hp:0<p)(l:N J):Fp p (pm p l):=⟨λk=>by rw[E4];exact(yz hp).1,λk=>by rw[E4];exact(yz hp).2,Ib _ _⟩
def zaY(p:J)(l:N J):Cg p (ci<|pm p l) (ci l):=λk=>by rw[E4,xay]
def Fp.mod(h:Fp p l)(k:K):ci l k%p=ci l k:=xax (h.nn k)<|h.lt k
def Fp.pm{p:J}{l:N J}(h:Fp p l):pm p l=l:=by
 refine Nl.ext (Ib _ _) h.nl λk=> ?_;exact(E4 p l k).trans<|h.mod k
theorem Fp.ext{p:J}{a b:N J}(c:Fp p a)(d:Fp p b)(h:Cg p (ci a) (ci b)):a=b:=Nl.ext c.nl d.nl λk=>by rw[<-c.mod,h,d.mod]
def Fp.rl(h:Fp p l)(hp:p<=65521):Rl l:=λk=>by
 have h1:=h.nn k;have b:=h.lt k;lia
def zQ(h1:1<=p)(n:p<=65521)(o:Rl l)(hl:X l<=1000000)(r:3000000<=fu):yq fu l p=Z (pm p l):=by
 unfold yq;have hd:=qH (λk=>ci l k%p) (X l);rw[yU,yM,Q,fc,U (v:=zl (X l)<|λk=>ci l k%p)]
 ·rw[U (v:=pm p l)];refine zt (λt:N J=>∃m,m<=X l/\t=zl m (λk=>ci l k%p)/\dg (λk=>ci l k%p) m=dg (λk=>ci l k%p) (X l)) (λt=>X t) _ ?_ _ _ ⟨X l,eZ _,O,O⟩ (by rw[zF];lia);rintro t L ⟨m,u,rfl,b⟩ c;unfold mi;rw[zF]
  cases m with
  |zero=>
   rw[zA];unfold pm nl;rw[<-b];rfl
  |succ m=>
   rw[zS,(W:((m+1:K):J)-1=(m:J)),zb,yc,Q,jE];by_cases h0:ci l m%p=0
   ·rw[S h0,zb,yU,yM,Q,MZ];exact c _ ⟨m,W,O,by rw[<-fZ (f:=λk=>ci l k%p) h0,b]⟩<|by rw[zF,zF];lia
   ·rw[ir h0];unfold pm nl;rw[<-b,a8 (f:=λk=>ci l k%p) h0]
 ·refine zt (λs:J×N J=>∃i:K,i<=X l/\s=((i:J),zl (X l) (λk=>if k<i then ci l k%p else 0))) (λs=>X l-s.1.toNat) _ ?_ _ _ ⟨0,sB _,by rw[yR (g:=λk=>if k<0 then ci l k%p else 0)<|λk _=>by rw[zA]];rfl⟩ (by show X l-0<fu;lia);rintro s L ⟨i,hi,rfl⟩ c;unfold lZ;simp only;by_cases h:i<X l
  ·rw[zS,zo h,Q,YU,U<|XZ h1 n<|o i,zo (by rw[zF];exact h),Q,Zx,zb];refine c _ ⟨i+1,W,?_⟩ (by show X l-((i:J)+1).toNat<X l-(i:J).toNat;lia);congr 1;refine yR λk q=> ?_;unfold Xg;by_cases e:k=i
   ·rw[S e,zS,e]
   ·rw[ir e];show(if k<i then ci l k%p else 0)=_;by_cases d:k<i
    ·rw[S d,zS]
    ·rw[ir d,zA]
  ·rw[zA];congr 1;exact yR λk q=>by rw[zS]
end
section
variable{f g:Pz}{p:zI}{fu:zV}{a b:zC zI}
def sh(g:Pz)(i k:K):J:=if i<=k then g (k-i)else 0
def Tb(f g:Pz)(n k:K):J:=yA n<|λi=>f i*sh g i k
theorem Eh{n:K}(d:∀k,n<=k->f k=0)(k:K):Tb f g n k=(f*g) k:=by
 have e1:=zdX (f:=λi=>f i*sh g i k) (λi hi=>by rw[d i hi,xaK])<|k+1;have c:=zdX (f:=λi=>f i*sh g i k) (n:=k+1) (λi hi=>by unfold sh;rw[zA,xaw]) n;rw[xdI]at c;unfold Tb;rw[<-e1,c];exact yH λi hi=>by unfold sh;rw[zS]
theorem zeu(a b:N G)(k:K):∀n,Wz a b n k=Tb (M a) (M b) n k
 |0=>rfl
 |n+1=>by
  show Wz a b n k+M a n*shP b n k=Tb (M a) (M b) n k+M a n*sh (M b) n k;rw[zeu a b k n];rfl
theorem qh(a b:N G):M (xe a b)=(M a:Pz)*M b:=by grind [zdO,zeu,Eh,zY]
def Ec(f g:Pz)(i j k:K):J:=Tb f g i k+if i<=k/\k<i+j then f i*g (k-i)else 0
def zbt(f g:Pz)(i k:K):Ec f g i 0 k=Tb f g i k:=by
 unfold Ec;lia
theorem zbC{n:K}(c:∀k,n<=k->g k=0)(i k:K):Ec f g i n k=Tb f g (i+1) k:=by
 show _=Tb f g i k+f i*sh g i k;unfold Ec sh;by_cases h:i<=k
 ·grind
 ·grind
def zbb(f g:Pz)(p:J)(i j k:K):Xg (λk=>Ec f g i j k%p) (i+j) ((Ec f g i j (i+j)%p+f i*g j)%p) k=Ec f g i (j+1) k%p:=by
 unfold Xg;by_cases h:k=i+j
 ·subst h;unfold Ec;simp_all
 ·rw[ir h];show Ec f g i j k%p=_;unfold Ec;congr 2;by_cases c:i<=k/\k<i+j
  ·lia
  ·lia
def yS(p:J)(a b:N J):N J:=nl (X a+X b)<|λk=>(ci a*ci b) k%p
theorem ug{n m:K}(c:∀k,n<=k->f k=0)(d:∀k,m<=k->g k=0){k:K}(h:n+m<=k+1:=by lia):(f*g) k=0:=by
 refine xz λi hi=> ?_;by_cases h1:i<n
 ·grind
 ·simp_all
def iF(p:J)(a b:N J)(k:K):ci (yS p a b) k=(ci a*ci b) k%p:=Ou (λk d=>by rw[ug (λj c=>zW c)<|λj c=>zW c,xae]) k
theorem jD(p:J)(a b:N J):Cg p (ci<|yS p a b) (ci a*ci b):=λk=>by rw[iF,xay]
theorem vv(hp:0<p)(a b:N J):Fp p (yS p a b):=⟨λk=>by rw[iF];exact(yz hp).1,λk=>by rw[iF];exact(yz hp).2,Ib _ _⟩
def vy(p:J)(a b:N J):X (yS p a b)<=X a+X b:=zbr _ _
def Yo{x y:J}(e:p<=65521)(d:0<=x)(h:x<p)(c:0<=y)(i:y<p):0<=x*y/\x*y<=4293001441:=by
 refine⟨xcD d c,?_⟩;have h1:x*y<=65521*y:=xbg W c;lia
def vM(h1:1<=p)(l:p<=65521)(m:Fp p a)(o:Fp p b)(hc:X a<=100000)(hd:X b<=100000)(q:3000000<=fu):vm fu a b p=Z (yS p a b):=by
 unfold vm;have⟨n,hn⟩:∃n,n=X a+X b:=⟨_,O⟩;rw[zb,(W:(X a:J)+(X b:J)=(n:J)),yU,yM,Q,fc,U (v:=zl n<|λk=>Tb (ci a) (ci b) (X a) k%p)]
 ·have r:∀k,n<=k->Tb (ci a) (ci b) (X a) k%p=0:=λk d=>by rw[Eh<|λj c=>zW c,ug (λj c=>zW c)<|λj c=>zW c,xae]
  have t:Rl (zl n<|λk=>Tb (ci a) (ci b) (X a) k%p):=λk=>by
   rw[qP r];have:=yz (a:=Tb (ci a) (ci b) (X a) k) (p:=p);exact⟨W,W⟩
  rw[U<|zQ h1 l t (by rw[zF];lia) q];congr 1;unfold pm yS;rw[zF,<-hn];exact sj λk d=>by rw[km d,xay,Eh<|λj c=>zW c]
 ·refine zt (λs:J×N J=>∃i:K,i<=X a/\s=((i:J),zl n<|λk=>Tb (ci a) (ci b) i k%p)) (λs=>X a-s.1.toNat) _ ?_ _ _ ⟨0,sB _,by rw[yR (g:=λk=>Tb (ci a) (ci b) 0 k%p) λk _=>by show(0:J)=0%p;rw[xae]];rfl⟩ (by show X a-0<fu;lia);rintro s L ⟨i,hi,rfl⟩ u;unfold b9;simp only;by_cases w:i<X a
  ·rw[zS,U O];simp only[wN];rw[zo w,Q,U (v:=zl n<|λk=>Tb (ci a) (ci b) (i+1) k%p),zb]
   ·exact u _ ⟨i+1,W,O⟩ (by show X a-((i:J)+1).toNat<X a-(i:J).toNat;lia)
   ·refine zt (λs:J×N J=>∃j:K,j<=X b/\s=((j:J),zl n<|λk=>Ec (ci a) (ci b) i j k%p)) (λs=>X b-s.1.toNat) _ ?_ _ _ ⟨0,sB _,by rw[yR λk _=>by rw[<-zbt]];rfl⟩ (by show X b-0<fu;lia);rintro s y ⟨j,c,rfl⟩ h;unfold cY;simp only;by_cases x:j<X b
    ·rw[zS,U O];simp only[wN];have e:(i:J)+(j:J)=((i+j:K):J):=W
     have r1:=yz (a:=Ec (ci a) (ci b) i j<|i+j) (p:=p);have⟨r2,z⟩:=Yo l (m.nn i) (m.lt i) (o.nn j)<|o.lt j;rw[zo x,Q,e,zb,zb,zo (by rw[zF];lia),Q,jE,YU,YU,zb,zb,yM,Q,kZ,zo (by rw[zF];lia),Q,Zx,zb];exact h _ ⟨j+1,W,by rw[yR λk _=>zbb (ci a) (ci b) p i j k];rfl⟩ (by show X b-((j:J)+1).toNat<X b-(j:J).toNat;lia)
    ·rw[zA,U O];simp only[xaj,wP];obtain rfl:j=X b:=W
     rw[yR λk _=>by rw[zbC<|λk d=>zW d]]
  ·rw[zA,U O];simp only[xaj,wP];obtain rfl:i=X a:=W
   rfl
def vT(p:J)(a b:N J)(c:J):N J:=nl (max (X a) (X b))<|λk=>(ci a k+c*ci b k)%p
def Ny(p:J)(a b:N J)(c:J)(k:K):ci (vT p a b c) k=(ci a k+c*ci b k)%p:=Ou (λk d=>by rw[zW W,zW W,xaw];exact xae _) k
def zdS(p:J)(a b:N J)(c:J):Cg p (ci<|vT p a b c) (ci a+pc c*ci b):=λk=>by rw[Ny,xay,zG,zU]
def YH(hp:0<p)(a b:N J)(c:J):Fp p (vT p a b c):=⟨λk=>by rw[Ny];exact(yz hp).1,λk=>by rw[Ny];exact(yz hp).2,Ib _ _⟩
def tz(p:J)(a b:N J)(c:J):X (vT p a b c)<=max (X a) (X b):=zbr _ _
theorem zvo{n:K}(h:X a<=n):cpy (sR n 0) a=zl n (ci a):=by
 unfold cpy;rw[xaR,xcg h,xcA,List.drop_replicate];refine xeG (by rw[xak,xaR,zF];lia) λj h1 c=> ?_;have d:=km (f:=ci a) (by rw[zF]at c;exact c);have e:(zl n<|ci a).getD j 0=a.getD j 0:=d;grind
def aH{c:J}(h1:1<=p)(o:p<=65521)(h:Fp p a)(j:Fp p b)(hc:0<=c)(hd:c<p)(z:X a<=100000)(A:X b<=100000)(q:3000000<=fu):Wo fu a b c p=Z (vT p a b c):=by
 unfold Wo;have⟨n,hn⟩:∃n,n=max (X a) (X b):=⟨_,O⟩;have r:∀k,n<=k->ci a k+c*ci b k=0:=λk m=>by rw[zW W,zW W,xaw];rfl
 have t:∀k,0<=ci a k+c*ci b k/\ci a k+c*ci b k<=4293066962:=λk=>by
  have⟨r2,u⟩:=Yo o hc hd (j.nn k)<|j.lt k;have:=h.nn k;have:=h.lt k;lia
 rw[Q,(W:max (X a:J) (X b:J)=(n:J)),yU,yM,Q,Q,zvo W,U (v:=zl n<|λk=>ci a k+c*ci b k)]
 ·have w:Rl (zl n<|λk=>ci a k+c*ci b k):=λk=>by
   rw[qP r];have:=t k;exact⟨W,W⟩
  rw[U<|zQ h1 o w (by rw[zF];lia) q];congr 1;unfold pm vT;rw[zF,<-hn];exact sj λk m=>by rw[km m]
 ·refine zt (λs:J×N J=>∃i:K,i<=X b/\s=((i:J),zl n (λk=>ci a k+if k<i then c*ci b k else 0))) (λs=>X b-s.1.toNat) _ ?_ _ _ ⟨0,sB _,by rw[yR (f:=ci a) (g:=λk=>ci a k+if k<0 then c*ci b k else 0) λk _=>by rw[zA,xby]];rfl⟩ (by show X b-0<fu;lia);rintro s L ⟨i,hi,rfl⟩ x;unfold Bu;simp only;by_cases y:i<X b
  ·rw[zS,U O];simp only[wN];have⟨r2,u⟩:=Yo o hc hd (j.nn i)<|j.lt i;have:=h.nn i;have:=h.lt i;rw[zo y,Q,zo (by rw[zF];lia),Q,jE,ir<|Nat.lt_irrefl i,xby,YU,zb,zb,zo (by rw[zF];lia),Q,Zx,zb];refine x _ ⟨i+1,W,?_⟩ (by show X b-((i:J)+1).toNat<X b-(i:J).toNat;lia);congr 1;refine yR λk m=> ?_;unfold Xg;by_cases e:k=i
   ·rw[S e,zS,e]
   ·rw[ir e];show ci a k+(if k<i then c*ci b k else 0)=_;by_cases d:k<i
    ·rw[S d,zS]
    ·rw[ir d,zA]
  ·rw[zA,U O];simp only[xaj,wP];congr 1;refine yR λk m=> ?_;by_cases d:k<i
   ·rw[S d]
   ·rw[ir d,zW (l:=b) W,xaw]
end
section
variable{p a fu:zV}
theorem tn(hp:2<=p)(h:kQ p)(h0:0<a:=by lia)(h1:a<p:=by lia):xdR p a=1:=by
 have⟨g,b⟩:∃g,g=xdR p a:=⟨_,O⟩;have d1:g∣p:=by rw[b];exact Nat.gcd_dvd_left _ _
 have d2:g∣a:=by rw[b];exact Nat.gcd_dvd_right _ _
 have hc:g<=a:=Nat.le_of_dvd h0 d2;have i:0<g:=Nat.pos_of_dvd_of_pos d1 W;rw[<-b];refine xcH (xbl λk=> ?_) i;by_cases c:g*g<=p
 ·exact h g W c<|Nat.mod_eq_zero_of_dvd d1
 ·have⟨d,hd⟩:=d1;have l:d<g:=by
   refine xcT λf=>c ?_;rw[hd];exact xas _ f
  have j:2<=d:=by
   refine xbl λf=> ?_;have:d=0\/d=1:=W
   obtain e|e:=this
   ·grind
   ·grind
  refine h d j ?_ ?_
  ·rw[hd];exact xaf _ W
  ·rw[hd];exact Nat.mul_mod_left _ _
theorem Zm{p:J}(hp:wB p=I)(b:400<fu:=by lia):vC fu p=Z 0:=by grind [vC,U,Jj]
structure IvI(p a:K)(r0 r1:K)(t0 t1:J):Prop where
 lt:r1<r0
 two:2<=r0
 le:r0<=p
 c0:(p:J)∣(r0:J)-t0*a
 c1:(p:J)∣(r1:J)-t1*a
 g:xdR r0 r1=1
 s:∃u0 u1:K,((t0=u0/\t1= -u1)\/(t0= -u0/\t1=u1))/\r0*u1+r1*u0=p
theorem IvI.step{r0 r1:K}{t0 t1:J}(h:IvI p a r0 r1 t0 t1)(k:2<=r1):IvI p a r1 (r0%r1) t1 (t0-((r0/r1:K):J)*t1)/\(((r0/r1:K):J)*t1).natAbs<=p/\(t0-((r0/r1:K):J)*t1).natAbs<=p:=by
 have hd:=xbj r0 r1;have l:=xaI r0 (W:0<r1);have⟨c,b,m,r⟩:=h.s;generalize t:r0/r1=q at*
 generalize n:r0%r1=r2 at*
 have u:=h.le;have hi:=h.lt;have e1:r1*(c+q*b)+r2*b=p:=by grind
 have v:c+q*b<=p:=by
  have d:1*(c+q*b)<=r1*(c+q*b):=xaf _ W;lia
 have hc:((q*b:K):J)=(q:J)*(b:J):=Xn
 have f:((t1=b/\t0-(q:J)*t1= -((c+q*b:K):J))\/(t1= -b/\t0-(q:J)*t1=((c+q*b:K):J)))/\((q:J)*t1).natAbs<=p:=by
  rcases m with⟨i,j⟩|⟨i,j⟩
  ·grind
  ·rw[i,j,<-hc];exact⟨.inl ⟨O,W⟩,W⟩
 refine⟨⟨l,k,W,h.c1,?_,?_,b,c+q*b,f.1,e1⟩,f.2,by rcases f.1 with⟨_,e⟩|⟨_,e⟩<;>lia⟩
 ·have d:=xdm h.c0<|xbu h.c1<|xcB (q:J) _;have o:(r0:J)-t0*a-(q:J)*((r1:J)-t1*a)=(r2:J)-(t0-(q:J)*t1)*a:=by
   rw[Int.mul_sub,Int.sub_mul,xcv];have:(r0:J)=(r1:J)*(q:J)+(r2:J):=by rw[<-hd];simp
   rw[this,xaX (r1:J)];lia
  rw[o]at d;exact d
 ·have d:=h.g;rw[<-n,xdW,<-Nat.gcd_rec,xdW];exact d
def zo1(hp:p<=65521)(j:70000<fu){t:J}:∀{r0 r1:K}{t0 t1:J},IvI p a r0 r1 t0 t1->∀n,r1<n->∃x:J,zg (CA fu) n ((r0:J),(r1:J),t0,t1)=Z (.inl x)/\(p:J)∣1-x*a/\x.natAbs<=p:=by
 intro r0 r1
 induction r1 using xcY generalizing r0 with
 |_ r1 c=>
  intro t0 t1 h n hn;obtain⟨n,rfl⟩:∃k,n=k+1:=⟨n-1,W⟩;rw[w6];unfold CA;simp only;have l:=h.lt;have m:=h.two;have hc:=h.le;by_cases h0:r1=0
  ·have:=h.g;simp_all
  ·rw[zA];by_cases h1:r1=1
   ·rw[zS];refine⟨t1,O,?_,?_⟩
    ·have:=h.c1;rw[h1]at this;exact this
    ·have⟨o,b,d,q⟩:=h.s;have r:1*b<=r0*b:=xaf _ W;rcases d with⟨_,e⟩|⟨_,e⟩<;>lia
   ·have⟨f,u,v⟩:=h.step W;have e1:xbQ (r0:J) (r1:J)=((r0/r1:K):J):=O;have hd:=xbj r0 r1;have i:((r0/r1:K):J)*(r1:J)=((r1*(r0/r1):K):J):=by rw[xaX];simp
    have w:((r0/r1:K):J)<=(r0:J):=Int.ofNat_le.2<|xcd _ _;have hi:(0:J)<=((r0/r1:K):J):=xdd _;rw[zA,yM,e1,zb,i,zb,(W:(r0:J)-((r1*(r0/r1):K):J)=((r0%r1:K):J)),zb,zb,zb];exact c (r0%r1) (xaI _ W) f n (by have:=xaI r0 (W:0<r1);lia)
def cr{p a:J}(hp:wB p=I)(h0:0<a)(h1:a<p)(f:3000000<=fu):∃x,JW fu a p=Z (x,0)/\0<=x/\x<p/\(x*a)%p=1:=by
 have⟨g,i⟩:=zp hp;have c:kQ p.toNat:=by
  refine xac λh=> ?_;rw[O5<|λe=>h e.2.2]at hp;simp_all
 obtain⟨P,rfl⟩:=xat (W:0<=p);obtain⟨A,rfl⟩:=xat (W:0<=a);have d:IvI P A P A 0 1:=⟨W,W,eZ _,by rw[xaK,xcy];exact xej _,by rw[xcr,xdL];exact xdr _,tn W c,0,1,.inr ⟨O,O⟩,W⟩;have⟨x,k1,k2,j⟩:=zo1 (fu:=fu) (t:=0) (W:P<=65521) W d fu W;have b:=yz (a:=x) (p:=(P:J));refine⟨x%P,?_,b.1,b.2,?_⟩
 ·unfold JW;rw[U<|Zm hp,S O,U<|XZ W W ⟨W,W⟩,xax (a:=(A:J)) W W,U k1];simp only;rw[U<|XZ W W ⟨W,W⟩]
 ·rw[xaY,xay,<-xaY];have:=xaC.2<|xaq k2;rw[<-this];exact xax YL W
end
section
variable{p x:zI}{fu i qn:zV}{a b:zC zI}{R Q:Pz}
def yb{α β:Type}{f:(β->V α)->β->V α}(j:β->Prop)(m:β->K)(Q:α->Prop)
 (step:∀s L,j s->(∀c,j c->m c<m s->∃r,L c=Z r/\Q r)->∃r,f L s=Z r/\Q r):∀(n:K) (s:β),j s->m s<n->∃r,zg f n s=Z r/\Q r
 |0,s,_,h=>wl h<|xbf _
 |n+1,s,d,h=>step s _ d λc e g=>yb j m Q step n c e W
theorem vg{f:K->J}{i:K}(h:∀k,k≠i->f k=0):∀n,yA n f=if i<n then f i else 0
 |0=>by skip;rfl
 |n+1=>by
  show yA n f+f n=_;rw[vg h n];by_cases h1:i<n
  ·grind
  ·grind
theorem qF(i:K)(c:J)(g:Pz)(k:K):((mono i c:Pz)*g) k=c*sh g i k:=by
 rw[qt,vg λj d=>by show mono i c j*_=0;unfold mono;rw[ir d,xaK]];unfold sh;by_cases h:i<=k
 ·rw[zS];unfold mono;simp_all
 ·grind
theorem va(x:J):ci [x]=pc x:=by
 funext k
 cases k with
 |zero=>rfl
 |succ k=>exact zW Xn
def ZA(h0:0<x:=by lia)(h1:x<p:=by lia):Fp p [x]:=⟨λk=>by rw[va];unfold pc;split<;>lia,λk=>by rw[va];unfold pc;split<;>lia,.inr (by show x≠0;lia)⟩
def eJ(h:0<p:=by lia):Fp p []:=⟨λk=>by rw[zW<|sB _];lia,λk=>by skip;exact h,.inl O⟩
def zjU{c:J}(h:0<=x)(d:(x*c)%p=1):0<x:=by
 obtain h|h:=Int.lt_or_eq_of_le h
 ·exact h
 ·rw[<-h,xaK]at d;cases d
def dn{c:J}(hp:wB p=I)(h:Fp p a)(h0:0<c)(h1:c<p)(l:X a<=90000)(d:3000000<=fu):∃x,0<x/\x<p/\(x*c)%p=1/\JW fu c p=Z (x,0)/\jz fu a c p=Z (yS p a [x]):=by
 have⟨m,j⟩:=zp hp;have⟨x,e1,k,e,f⟩:=cr hp h0 h1 d;have g:=zjU k f;refine⟨x,g,e,f,e1,?_⟩;unfold jz;rw[U e1];simp only;rw[U<|vM W j h (ZA g e) W Xn d]
def CR(R g:Pz)(p c:J)(i j:K):Pz:=λk=>if i<=k/\k<i+j then(R k+(p-c)*g (k-i))%p else R k
theorem zlt(R g:Pz)(p c:J)(i j k:K):Xg (CR R g p c i j) (i+j) ((R (i+j)+(p-c)*g j)%p) k=CR R g p c i (j+1) k:=by grind [CR,Xg]
theorem zk6{g:Pz}{c:J}{n:K}(d:∀k,R k%p=R k)(e:∀k,n<=k->g k=0)(k:K):CR R g p c i n k%p=(R k-c*sh g i k)%p:=by
 unfold CR sh;by_cases h:i<=k/\k<i+n
 ·rw[S h,S h.1,xay,Int.sub_mul];refine xaC.2<|xaq ⟨g<|k-i,?_⟩;lia
 ·grind
def zlF{n:K}{c:J}(h1:1<=p)(q:p<=65521)(d:Fp p b)(h:∀k,0<=R k/\R k<p)(hc:0<=c)(r:c<p)(hd:i+X b<=n)(hn:n<=100000)(t:3000000<=fu):
 zg (VO fu b (i:J) c) fu (b,p,x,0,zl n R,zl qn Q)=Z (b,p,x,zl n<|CR R (ci b) p c i (X b),zl qn Q):=by
 refine zt (λs:N J×J×J×J×N J×N J=>∃j:K,j<=X b/\s=(b,p,x,(j:J),zl n<|CR R (ci b) p c i j,zl qn Q)) (λs=>X b-s.2.2.2.1.toNat) _ ?_ _ _ ⟨0,sB _,by rw[yR (f:=R) (g:=CR R (ci b) p c i 0) λk _=>by unfold CR;rw[zA]];rfl⟩ (by show X b-0<fu;lia);rintro s L ⟨j,u,rfl⟩ l;unfold VO;simp only;by_cases m:j<X b
 ·rw[zS,U O];simp only[wN];have e:(i:J)+(j:J)=((i+j:K):J):=W
  have o:CR R (ci b) p c i j (i+j)=R (i+j):=by unfold CR;rw[zA]
  have⟨r1,r2⟩:=h<|i+j;have v:0<=(p-c)*ci b j:=xcD W<|d.nn j;have w:(p-c)*ci b j<=65521*ci b j:=xbg W<|d.nn j;have y:=d.lt j;rw[zo m,ze,e,zb,zb,zo (by rw[zF];lia),ze,jE,YU,o,zb,zb,zb,yM,ze,kZ,zo (by rw[zF];lia),ze,Zx,zb];exact l _ ⟨j+1,W,by rw[yR λk _=>zlt R (ci b) p c i j k];rfl⟩ (by show X b-((j:J)+1).toNat<X b-(j:J).toNat;lia)
 ·rw[zA,U O];simp only[xaj,wP];obtain rfl:j=X b:=W
  rfl
structure FdI(p:J)(a b:N J)(qn i:K)(R Q:Pz):Prop where
 hi:i<=qn
 rr:∀k,0<=R k/\R k<p
 qr:∀k,0<=Q k/\Q k<p
 rz:∀k,i+(b.length-1)<=k->R k=0
 ql:∀k,k<i->Q k=0
 qz:∀k,qn<=k->Q k=0
 cg:Cg p (ci a) (Q*ci b+R)
def FdI.step(h1:1<=p)(h:FdI p a b qn (i+1) R Q)(s:0<X b)(j:(x*ci b (X b-1))%p=1):
 FdI p a b qn i (CR R (ci b) p (R (i+(X b-1))*x%p) i (X b)) (Xg Q i<|R (i+(X b-1))*x%p):=by
 have⟨c,hc⟩:∃c,c=R (i+(X b-1))*x%p:=⟨_,O⟩;have hi:=h.hi;have e:=yz (a:=R (i+(X b-1))*x) (p:=p);rw[<-hc]at e⊢;have m:∀k,R k%p=R k:=λk=>xax (h.rr k).1 (h.rr k).2;have f:=zk6 (g:=ci b) (c:=c) (i:=i) (n:=X b) m<|λk d=>zW d;have hd:∀k,0<=CR R (ci b) p c i (X b) k/\CR R (ci b) p c i (X b) k<p:=λk=>by
  unfold CR;split
  ·exact yz
  ·exact h.rr k
 have o:∀k,Xg Q i c k=(Q+(mono i c:Pz)) k:=λk=>by
  rw[zG];unfold Xg mono;by_cases d:k=i
  ·rw[S d,S d,h.ql k W,xco]
  ·lia
 refine⟨W,hd,λk=> ?_,λk d=> ?_,λk d=> ?_,λk d=> ?_,?_⟩
 ·unfold Xg;split
  ·exact e
  ·exact h.qr k
 ·have q:=xax (hd k).1 (hd k).2;rw[<-q,f];by_cases r:k=i+(X b-1)
  ·unfold sh;rw[zS,(W:k-i=X b-1),hc,r,xfp,xaY,xay,<-xaY,xcv,xaY _<|x*_,j,xci,xay,<-xfp,xdL,xae]
  ·unfold sh;rw[h.rz k W,zS,zW (l:=b) W,xaw,xcy,xae]
 ·unfold Xg;rw[zA];exact h.ql k W
 ·unfold Xg;rw[zA];exact h.qz k d
 ·refine h.cg.trans λk=> ?_;rw[show Xg Q i c=Q+(mono i c:Pz)from wu o,yu,zG,zG,zG,qF,xdq<|_+_,f,<-xdq];congr 1;lia
def xO(hp:wB p=I)(g:Fp p a)(c:Fp p b)(m:0<X b)(B:X a<=90000)(C:X b<=90000)(d:3000000<=fu):
 ∃q r,xU fu a b p=Z (q,r)/\Fp p q/\Fp p r/\Cg p (ci a) (ci q*ci b+ci r)/\X r<X b/\X q<=X a:=by
 have⟨D,e⟩:=zp hp;unfold xU;rw[xi (by simp;lia),ze,xbF,zb];by_cases hl:X a<X b
 ·rw[zS];refine⟨[],a,O,eJ,g,Cg.of ?_,hl,sB _⟩;funext k;rw[zG,show ci []=pc 0 from wu λj=>by rw[zW<|sB _,zE],zT,zE,xco]
 ·have⟨qn,E⟩:∃qn,qn=X a-X b+1:=⟨_,O⟩;have F:ci b (X b-1)≠0:=by
   obtain h|h:=c.nl
   ·lia
   ·exact h
  have t1:=c.nn<|X b-1;have t2:=c.lt<|X b-1;have⟨x,e1,o,t,u⟩:=cr (fu:=fu) hp (W:0<ci b (X b-1)) t2 d;have c1:(X b:J)-1=((X b-1:K):J):=W
  have c2:(X a:J)-(X b:J)+1=(qn:J):=W
  rw[zA,c1,zb,yc,ze,YU,U e1];simp only;rw[zb,c2,yU,yM,ze]
  have hc:=yb (f:=WG fu b p x) (λs:J×N J×N J=>∃(i:K) (R Q:Pz),s=((i:J)-1,zl (X a) R,zl qn Q)/\FdI p a b qn i R Q) (λs=>(s.1+1).toNat)
   (λr=>∃R Q:Pz,r=(zl (X a) R,zl qn Q)/\FdI p a b qn 0 R Q) (by
    rintro s L ⟨i,R,Q,rfl,h⟩ v;unfold WG;simp only
    cases i with
    |zero=>
     rw[zA];exact⟨_,O,R,Q,O,h⟩
    |succ i=>
     have hi:=h.hi;have⟨r1,r2⟩:=h.rr<|i+(X b-1);have⟨w,G⟩:=Yo e r1 r2 o t;have hd:=yz (a:=R (i+(X b-1))*x) (p:=p);rw[(W:((i+1:K):J)-1=(i:J)),zS,zb,(W:(i:J)+(X b:J)-1=((i+(X b-1):K):J)),zb,zo (by rw[zF];lia),ze,jE,zb,yM,ze,kZ w,zo (by rw[zF];lia),ze,Zx,U<|zlF W e c h.rr hd.1 hd.2 W W d];simp only;rw[zb];exact v _ ⟨i,_,_,O,h.step W m u⟩ (by show((i:J)-1+1).toNat<(((i+1:K):J)-1+1).toNat;lia))
   fu ((X a:J)-(X b:J),a,sR qn 0) ⟨qn,ci a,λ_=>0,by rw[zga,fc,(W:(X a:J)-(X b:J)=(qn:J)-1)],eZ _,λk=>⟨g.nn k,g.lt k⟩,λk=>⟨xfh _,W⟩,λk y=>zW W,λk _=>O,λk _=>O,Cg.of (by
    funext k;rw[zG,show((λ_=>0:Pz))=pc 0 from wu λj=>(zE j).symm,zT,zE,xco])⟩ (by show((X a:J)-(X b:J)+1).toNat<fu;lia)
  obtain⟨_,z,R,Q,rfl,h⟩:=hc;rw[U z];simp only;have A:Rl (zl (X a) R):=λk=>by
   rw[qP λj l=>h.rz j W];have:=h.rr k;exact⟨W,W⟩
  have hn:Rl (zl qn Q):=λk=>by
   rw[qP h.qz];have:=h.qr k;exact⟨W,W⟩
  rw[U<|zQ W e hn (by rw[zF];lia) d,U<|zQ W e A (by rw[zF];lia) d];refine⟨_,_,O,mj W _,mj W _,?_,?_,?_⟩
  ·refine h.cg.trans<|Cg.add (Cg.mul (Cg.symm<|(zaY p _).trans<|Cg.of<|funext (qP h.qz)) Cg.rfl)<|Cg.symm<|(zaY p _).trans<|Cg.of<|funext (qP λj l=>h.rz j W)
  ·have:=(mj (p:=p) W<|zl (X a) R).nl.le (n:=X b-1) λk y=>by rw[E4,qP (λj l=>h.rz j W),h.rz k W,xae]
   lia
  ·have:=zbp p<|zl qn Q;rw[zF]at this;lia
end
section
variable{p:zI}{fu N:zV}{r0 s0 t0 r1 s1 t1 g h:zC zI}{f:Pz}
def zve(f:Pz):Cg p (pc (p-1)*f) (-f):=λk=>by
 rw[zU,ziQ,Int.sub_mul];simp_all
def YE(a b:zC J):Cg p (ci<|vT p a b<|p-1) (ci a-ci b):=by
 refine(zdS p a b<|p-1).trans ?_;exact Cg.rfl.add<|zve _
def IW{S:K}(hp:wB p=I)(b:Fp p r0)(l:Fp p s0)(m:Fp p t0)(c:Fp p r1)(o:Fp p s1)(hl:Fp p t1)(h0:0<X r1)(l1:X r0<=N)(D:X r1<=N)(E:X s0<=S)(F:X t0<=S)(G:X s1<=S)(H:X t1<=S)(M:N<=9000)(P:S<=90000)(a:3000000<=fu):
 ∃q,Fp p q/\X q<=N/\Cg p (ci r0) (ci q*ci r1+ci (vT p r0 (yS p q r1)<|p-1))/\X (vT p r0 (yS p q r1)<|p-1)<X r1/\
  WH fu [r0,s0,t0] [r1,s1,t1] p=Z [vT p r0 (yS p q r1)<|p-1,vT p s0 (yS p q s1)<|p-1,vT p t0 (yS p q t1)<|p-1]:=by
 have⟨R,d⟩:=zp hp;have⟨q,r,e1,e,s,hc,t,T⟩:=xO (fu:=fu) hp b c h0 W W a;have hd:vT p r0 (yS p q r1) (p-1)=r:=by
  refine Fp.ext (YH W _ _ _) s<|(YE r0<|yS p q r1).trans ?_;refine(hc.sub<|jD p q r1).trans<|Cg.of ?_;funext k;simp only[zG,yT];lia
 refine⟨q,e,W,by rw[hd];exact hc,by rw[hd];exact t,?_⟩;unfold WH;have f1:=vy p q r1;have f2:=vy p q s1;have f3:=vy p q t1;rw[show(0:J)=((0:K):J)from O,zo YL,zo YL,Q];show Y (xU fu r0 r1 p) _=_;rw[U e1];simp only;rw[U (v:=([vT p r0 (yS p q r1)<|p-1,vT p s0 (yS p q s1)<|p-1,vT p t0 (yS p q t1)<|p-1],sR 3 []))];have⟨n,hn⟩:∃n,fu=n+4:=⟨fu-4,W⟩
 have step:∀(L:zC J×J×zC (zC J)×zC (zC J)->V (zC (zC J)×zC (zC J))) (i:K) (x y z u:zC J) (ts:zC (zC J)),i<3->X ts=3->ts.getD i []=x->[r1,s1,t1].getD i []=y->Fp p x->Fp p y->X x<=90000->X y<=90000->
  Yx fu [r1,s1,t1] p L (q,(i:J),ts,sR 3 [])=L (q,((i+1:K):J),ts.set i<|vT p x (yS p q y)<|p-1,sR 3 []):=λL i x y z u ts hi hu w A B C hv hw=>by
  unfold Yx;simp only;have f4:=vy p q y;rw[zS,U O];simp only[wN];rw[zo hi,zo hi,Q,w,A,U<|vM W d e C W W a,zb,U<|aH W d B (vv W _ _) W W W W a,zo hi,Q,zb];rfl
 have j:zg (Yx fu [r1,s1,t1] p) (n+4) (q,((0:K):J),[r0,s0,t0],sR 3 [])=Z ([vT p r0 (yS p q r1)<|p-1,vT p s0 (yS p q s1)<|p-1,vT p t0 (yS p q t1)<|p-1],sR 3 []):=by
  rw[w6,step _ 0 r0 r1 [] [] _ YL O O O b c W W,w6,step _ 1 s0 s1 [] [] _ YL O O O l o W W,w6,step _ 2 t0 t1 [] [] _ YL O O O m hl W W,w6];unfold Yx;simp only;rw[ir YL,U O];rfl
 rw[<-hn]at j;exact j
def Fs(f:Pz):Prop:=∃n,∀k,n<=k->f k=0
def Fs.add{g:Pz}(a:Fs f)(b:Fs g):Fs (f+g):=by
 have⟨n,hn⟩:=a;have⟨m,c⟩:=b;exact⟨n+m,λk d=>by rw[zG,hn k W,c k W];rfl⟩
def Fs.mul{g:Pz}(a:Fs f)(b:Fs g):Fs (f*g):=by
 have⟨n,hn⟩:=a;have⟨m,c⟩:=b;exact⟨n+m,λk d=>ug hn c⟩
def Fs.pc(c:J):Fs (pc c):=⟨1,λk a=>by unfold Go.Proofs.YtdpdofimolhigaaGreat.pc;rw[zA]⟩
theorem Fs.ci(l:zC J):Fs (ci l):=⟨X l,λk a=>zW a⟩
def Fs.cf(l:zC G):Fs (M l):=⟨X l,λk a=>zY a⟩
structure BzR(p:J)(g h d s t:zC J)(S:K):Prop where
 df:Fp p d
 sf:Fp p s
 tf:Fp p t
 cg:Cg p (ci d) (ci s*ci g+ci t*ci h)
 dv:∃A C:Pz,Fs A/\Fs C/\Cg p (ci g) (A*ci d)/\Cg p (ci h) (C*ci d)
 dl:d.length<=S
 sl:s.length<=S
 tl:t.length<=S
structure BzI(p:J)(g h r0 s0 t0 r1 s1 t1:zC J)(N:K):Prop where
 f0:Fp p r0
 g0:Fp p s0
 h0:Fp p t0
 f1:Fp p r1
 g1:Fp p s1
 h1:Fp p t1
 c0:Cg p (ci r0) (ci s0*ci g+ci t0*ci h)
 c1:Cg p (ci r1) (ci s1*ci g+ci t1*ci h)
 dv:∃A B C D:Pz,Fs A/\Fs B/\Fs C/\Fs D/\Cg p (ci g) (A*ci r0+B*ci r1)/\Cg p (ci h) (C*ci r0+D*ci r1)
 l0:r0.length<=N
 l1:r1.length<=N
 b0:s0.length<=1+N*(N+1-r1.length)
 b1:t0.length<=1+N*(N+1-r1.length)
 b2:s1.length<=1+N*(N+1-r1.length)
 b3:t1.length<=1+N*(N+1-r1.length)
def BzI.step(a:BzI p g h r0 s0 t0 r1 s1 t1 N)(hp:wB p=I)(i:N<=290)(j:0<X r1)(l:3000000<=fu):
 ∃r2 c t2,WH fu [r0,s0,t0] [r1,s1,t1] p=Z [r2,c,t2]/\X r2<X r1/\BzI p g h r1 s1 t1 r2 c t2 N:=by
 have⟨u,v⟩:=zp hp;have m:1+N*(N+1-X r1)<=90000:=by
  have:N*(N+1-X r1)<=290*290:=xbp i W;lia
 have hd:=a.l0;have d:=a.l1;have n:=a.b0;have hi:=a.b1;have o:=a.b2;have r:=a.b3;have⟨q,w,x,hc,hl,s⟩:=IW (fu:=fu) (S:=1+N*(N+1-X r1)) hp a.f0 a.g0 a.h0 a.f1 a.g1 a.h1 j hd d n hi o r W m l;refine⟨_,_,_,s,hl,a.f1,a.g1,a.h1,YH W _ _ _,YH W _ _ _,YH W _ _ _,a.c1,?_,?_,d,W,?_,?_,?_,?_⟩
 ·refine(YE _ _).trans<|(a.c0.sub<|(jD p q r1).trans<|Cg.rfl.mul a.c1).trans ?_;refine Cg.trans (Cg.of ?_)<|Cg.symm (((YE s0<|yS p q s1).trans<|Cg.rfl.sub<|jD p q s1).mul (Cg.rfl (f:=ci g))|>.add (((YE t0<|yS p q t1).trans<|Cg.rfl.sub<|jD p q t1).mul<|Cg.rfl (f:=ci h)));simp only[xu,yu,ve,ji,zd];funext k;simp only[zG,yT];lia
 ·have⟨A,B,C,D,e,z2,z3,z4,d1,d2⟩:=a.dv;refine⟨A*ci q+B,A,C*ci q+D,C,(e.mul<|Fs.ci q).add z2,e,(z3.mul<|Fs.ci q).add z4,z3,?_,?_⟩
  ·refine d1.trans<|((Cg.rfl (f:=A)).mul hc|>.add Cg.rfl).trans<|Cg.of ?_;simp only[xu,yu,zd];funext k;simp only[zG];lia
  ·refine d2.trans<|((Cg.rfl (f:=C)).mul hc|>.add Cg.rfl).trans<|Cg.of ?_;simp only[xu,yu,zd];funext k;simp only[zG];lia
 ·have:N*(N+1-X r1)<=N*(N+1-X (vT p r0 (yS p q r1)<|p-1)):=xas _ W;lia
 ·have:N*(N+1-X r1)<=N*(N+1-X (vT p r0 (yS p q r1)<|p-1)):=xas _ W;lia
 ·have h1:=tz p s0 (yS p q s1)<|p-1;have t:=vy p q s1;have b:N*(N+1-X r1+1)<=N*(N+1-X (vT p r0 (yS p q r1)<|p-1)):=xas _ W;rw[xbV,xdl]at b;lia
 ·have h1:=tz p t0 (yS p q t1)<|p-1;have t:=vy p q t1;have b:N*(N+1-X r1+1)<=N*(N+1-X (vT p r0 (yS p q r1)<|p-1)):=xas _ W;rw[xbV,xdl]at b;lia
def zpM(hp:wB p=I)(e:N<=290)(i:3000000<=fu)(a:BzI p g h r0 s0 t0 r1 s1 t1 N):
 ∃d s t,zg (YI fu p) fu ([r0,s0,t0],[r1,s1,t1])=Z [d,s,t]/\BzR p g h d s t (1+N*(N+1)):=by
 obtain⟨r,e1,d,s,t,rfl,j⟩:=yb (f:=YI fu p) (λx:zC (zC J)×zC (zC J)=>∃r0 s0 t0 r1 s1 t1,x=([r0,s0,t0],[r1,s1,t1])/\BzI p g h r0 s0 t0 r1 s1 t1 N) (λx=>X (x.2.getD 0 [])) (λr=>∃d s t,r=[d,s,t]/\BzR p g h d s t (1+N*(N+1))) (by
  rintro x L ⟨r0,s0,t0,r1,s1,t1,rfl,a⟩ n;unfold YI;simp only;rw[show(0:J)=((0:K):J)from O,zo YL];show∃r,(if((0:K):J)<(X r1:J)then _ else _)=Z r/\_;by_cases h0:0<X r1
  ·have⟨r2,o,t2,l,q,hc⟩:=a.step (fu:=fu) hp e h0 i;rw[zS,U l];simp_all
  ·rw[zA];have b:ci r1=pc 0:=wu λk=>by rw[zW W,zE]
   have c:1+N*(N+1-X r1)<=1+N*(N+1):=by
    have:N*(N+1-X r1)<=N*(N+1):=xas _ W;lia
   have hd:=a.l0;have u:N*1<=N*(N+1):=xas _ W;refine⟨_,O,r0,s0,t0,O,a.f0,a.g0,a.h0,a.c0,?_,W,PX a.b0 c,PX a.b1 c⟩;have⟨A,B,C,D,m,z2,z3,z4,d1,d2⟩:=a.dv;rw[b,zk B,zT]at d1;rw[b,zk D,zT]at d2;refine⟨A,C,m,z3,d1.trans<|Cg.of ?_,d2.trans<|Cg.of ?_⟩<;>funext k<;>rw[zG,zE,xby]) fu ([r0,s0,t0],[r1,s1,t1]) ⟨_,_,_,_,_,_,O,a⟩ (by have:=a.l1;show X r1<fu;lia)
 exact⟨d,s,t,e1,j⟩
theorem ZM(hp:wB p=I)(q:Fp p g)(r:Fp p h)(hs:X g<=290)(ht:X h<=290)(j:3000000<=fu):
 ∃d s t,ZP fu g h p=Z (d,s,t,0)/\BzR p g h d s t (2+max (X g) (X h)*(max (X g) (X h)+1))/\(X d=0\/ci d (X d-1)=1):=by
 have⟨p1,l⟩:=zp hp;unfold ZP;rw[U<|Zm hp,iq O,U<|zQ W l (q.rl l) W j,U<|zQ W l (r.rl l) W j,q.pm,r.pm];have z0:ci ([]:zC J)=pc 0:=wu λk=>by rw[zW<|sB _,zE]
 have c:∀f:Pz,f+pc 0=f:=λf=>wu λk=>by rw[zG,zE,xby]
 have e:∀f:Pz,pc 0+f=f:=λf=>wu λk=>by rw[zG,zE,xco]
 have G:BzI p g h g [1] [] h [] [1] (max (X g) (X h)):=by
  refine⟨q,ZA,eJ,r,eJ,ZA,Cg.of ?_,Cg.of ?_,⟨pc 1,pc 0,pc 0,pc 1,Fs.pc 1,Fs.pc 0,Fs.pc 0,Fs.pc 1,Cg.of ?_,Cg.of ?_⟩,xdP _ _,xdB _ _,xbt _ _,sB _,sB _,xbt _ _⟩
  ·rw[va,z0,zB,zT,c]
  ·rw[va,z0,zB,zT,e]
  ·rw[zB,zT,c]
  ·rw[zB,zT,e]
 have⟨d,s,t,e1,b⟩:=zpM (fu:=fu) hp W j G;have hS:max (X g) (X h)*(max (X g) (X h)+1)<=290*291:=xbp W W;generalize max (X g) (X h)*(max (X g) (X h)+1)=S at*
 rw[U e1,show(0:J)=((0:K):J)from O,zo YL];show∃u v w,Y (if((0:K):J)<(X d:J)then Z I else Z yL) _=_/\_;by_cases h0:0<X d
 ·have hu:=b.dl;have hr:ci d (X d-1)≠0:=by
   obtain h|h:=b.df.nl
   ·lia
   ·exact h
  have t1:=b.df.nn<|X d-1;have t2:=b.df.lt<|X d-1;have⟨x,H,M,z,P,x5⟩:=dn (fu:=fu) hp b.df (W:0<ci d (X d-1)) t2 W j;have sc:∀{a:zC J},Fp p a->X a<=90000->jz fu a (ci d<|X d-1) p=Z (yS p a [x]):=λ{a} R hl=>by
   unfold jz;rw[U P];simp only;rw[U<|vM W l R (ZA H M) W Xn j]
  rw[zS,U O,iq O,zo YL];show∃u v w,E ((X d:J)-1) _=_/\_;rw[(W:(X d:J)-1=((X d-1:K):J)),zb];show∃u v w,zH ((X d-1:K):J) (X d) _=_/\_;rw[yc,Q];show∃u v w,Y (zg (vO fu p<|ci d<|X d-1) fu (((0:K):J),[d,s,t])) _=_/\_;have hd:zg (vO fu p<|ci d<|X d-1) fu (((0:K):J),[d,s,t])=Z [yS p d [x],yS p s [x],yS p t [x]]:=by
   have⟨n,hn⟩:∃n,fu=n+4:=⟨fu-4,W⟩
   have step:∀(L:J×zC (zC J)->V (zC<|zC J)) (i:K) (y:zC J) (ts:zC (zC J)),i<3->ts.getD i []=y->Fp p y->X y<=90000->
    vO fu p (ci d<|X d-1) L ((i:J),ts)=L (((i+1:K):J),ts.set i<|yS p y [x]):=λL i y ts hi T ho hq=>by
    unfold vO;simp only;rw[zS,zo hi,T,U<|sc ho hq,zo hi,Q,zb];rfl
   have B:zg (vO fu p<|ci d<|X d-1) (n+4) (((0:K):J),[d,s,t])=Z [yS p d [x],yS p s [x],yS p t [x]]:=by
    rw[w6,step _ 0 d _ YL O b.df (PX b.dl W),w6,step _ 1 s _ YL O b.sf (PX b.sl W),w6,step _ 2 t _ YL O b.tf (PX b.tl W),w6];unfold vO;simp only;rw[ir YL];rfl
   rw[<-hn]at B;exact B
  rw[U hd];have o:∀a:zC J,Cg p (ci<|yS p a [x]) (ci a*pc x):=λa=>by
   have:=jD p a [x];rw[va]at this;exact this
  have he:Cg p (pc x*pc (ci d<|X d-1)) (pc 1):=λk=>by
   rw[uk];unfold pc;split
   ·rw[z];exact(xax YL W).symm
   ·rfl
  have f1:=vy p d [x];have f2:=vy p s [x];have f3:=vy p t [x];have hv:=b.sl;have hw:=b.tl;simp only[xar,xbA]at f1 f2 f3;have hc:∀k,ci (yS p d [x]) k=(x*ci d k)%p:=λk=>by rw[iF,va,zk,zU]
  have hj:X (yS p d [x])=X d:=by
   refine xcH ((vv W _ _).nl.le λk hk=> ?_)<|xbl λhx=> ?_
   ·rw[hc,zW hk,xaw,xae]
   ·have D:=hc<|X d-1;rw[z,zW W]at D;cases D
  refine⟨yS p d [x],yS p s [x],yS p t [x],O,⟨vv W _ _,vv W _ _,vv W _ _,?_,?_,W,W,W⟩,.inr ?_⟩
  ·refine(o d).trans<|(b.cg.mul Cg.rfl).trans<|Cg.trans (Cg.of ?_)<|Cg.symm<|((o s).mul Cg.rfl).add<|(o t).mul Cg.rfl;simp only[xu,yu,zd,zk,zD]
  ·have⟨A,C,z1,z3,d1,d2⟩:=b.dv;have m:∀F:Pz,Cg p (F*ci d) (F*pc (ci d<|X d-1)*ci (yS p d [x])):=λF=>by
    refine Cg.symm<|(Cg.rfl.mul<|o d).trans<|Cg.trans (Cg.of ?_)<|((Cg.rfl (f:=F*ci d)).mul he).trans<|Cg.of<|yp _;simp only[zd,zk,zD]
   exact⟨_,_,z1.mul<|Fs.pc _,z3.mul<|Fs.pc _,d1.trans<|m A,d2.trans<|m C⟩
  ·rw[hj,hc,z]
 ·rw[zA,U O,ir YL];exact⟨d,s,t,O,⟨b.df,b.sf,b.tf,b.cg,b.dv,PX b.dl W,PX b.sl W,PX b.tl W⟩,.inl W⟩
end
section
variable{fu:zV}{a l b:zC zI}{p:zI}
def GZ{n:K}(h:n<9223372036854775808:=by lia):sgn n=(n:J):=by
 unfold sgn;lia
def LY{x:J}(h0:0<=x)(h:x<9223372036854775808)(f:3000000<=fu):Uw fu (yf x)=Z (x,I):=by
 have c:Bz 1 x:=by unfold Bz;lia
 unfold Uw;rw[U<|XH (c.ok YL) f,zm];have g:(yf x).1=yL:=by unfold yf;simp;lia
 by_cases d:x=0
 ·subst d;rfl
 ·have i:=tW.2 d;have hc:=c.len;obtain⟨n,rfl⟩:=xat h0;have e:(yf (n:J)).2.getD 0 0=n:=by
   show(yN<|(n:J).natAbs).getD 0 0=n;rw[xaW,Xi,xeA,xdz,xag W]
  rw[zA,U O,ir YL,zA,U O,ir YL,g,ir YL,U O,ir YL,ir YL,show(0:J)=((0:K):J)from O,yc,Q,e,zA,yc,Q,e,Q,GZ]
def SN{a:G}(d:mI a)(h1:1<=p)(g:p<=65521)(c:3000000<=fu):cm fu a p=Z (zv a%p,0):=by
 unfold cm;have e:Bz 1 p:=by unfold Bz;lia
 have f:=yz (a:=zv a) (p:=p);rw[U<|yE ⟨W,W⟩ c,U<|XG d (e.okS YL) c,zm];unfold Ee;rw[zA];simp only[wN];rw[U<|LY f.1 W c]
def jH(p:J)(a:N G):N J:=nl (X a)<|λk=>M a k%p
def bW(p:J)(a:N G)(k:K):ci (jH p a) k=M a k%p:=Ou (λk c=>by rw[zY c,xae]) k
def Ab(p:J)(a:N G):Cg p (ci<|jH p a) (M a):=λk=>by rw[bW,xay]
def Q8(hp:0<p)(a:N G):Fp p (jH p a):=⟨λk=>by rw[bW];exact(yz hp).1,λk=>by rw[bW];exact(yz hp).2,Ib _ _⟩
def zrA(p:J)(a:N G):X (jH p a)<=X a:=zbr _ _
def Yj{k:K}{a:N G}(o:yQ k a)(c:k<=40000)(h1:1<=p)(q:p<=65521)(hl:X a<=1000000:=by lia)(r:3000000<=fu:=by lia):Yr fu a p=Z (jH p a,0):=by
 unfold Yr;have hd:=qH (λk=>M a k%p) (X a);rw[zA,U (v:=zl (X a)<|λk=>M a k%p)]
 ·rw[U (v:=jH p a)];refine zt (λt:N J=>∃m,m<=X a/\t=zl m (λk=>M a k%p)/\dg (λk=>M a k%p) m=dg (λk=>M a k%p) (X a)) (λt=>X t) _ ?_ _ _ ⟨X a,eZ _,O,O⟩ (by rw[zF];lia);rintro t L ⟨m,u,rfl,d⟩ j;unfold AI;rw[zF]
  cases m with
  |zero=>
   rw[zA];unfold jH nl;rw[<-d];rfl
  |succ m=>
   rw[zS,(W:((m+1:K):J)-1=(m:J)),zb,yc,Q,jE];by_cases h0:M a m%p=0
   ·rw[S h0,zb,yU,yM,Q,MZ];exact j _ ⟨m,W,O,by rw[<-fZ (f:=λk=>M a k%p) h0,d]⟩<|by rw[zF,zF];lia
   ·rw[ir h0];unfold jH nl;rw[<-d,a8 (f:=λk=>M a k%p) h0]
 ·unfold kL;rw[yU,yM,Q,fc,U];refine zt (λs:J×N J=>∃i:K,i<=X a/\s=((i:J),zl (X a) (λk=>if k<i then M a k%p else 0))) (λs=>X a-s.1.toNat) _ ?_ _ _ ⟨0,sB _,by rw[yR (g:=λk=>if k<0 then M a k%p else 0)<|λk _=>by rw[zA]];rfl⟩ (by show X a-0<fu;lia);rintro s L ⟨i,hi,rfl⟩ j;unfold ZQ;simp only;by_cases h:i<X a
  ·rw[zS,U O];simp only[wN];have e1:Jh fu (i:J) (a.getD i (yL,[])) p=Z (M a i%p):=by
    unfold Jh;rw[U<|SN (o.okS c i) h1 q r];rfl
   rw[zo h,Q,U e1,zo (by rw[zF];exact h),Q,Zx,zb];refine j _ ⟨i+1,W,?_⟩ (by show X a-((i:J)+1).toNat<X a-(i:J).toNat;lia);congr 1;refine yR λk c=> ?_;unfold Xg;by_cases e:k=i
   ·rw[S e,zS,e]
   ·rw[ir e];show(if k<i then M a k%p else 0)=_;by_cases n:k<i
    ·rw[S n,zS]
    ·rw[ir n,zA]
  ·rw[zA,U O];simp only[xaj,wP];congr 1;exact yR λk c=>by rw[zS]
def uH(l:N J):N G:=xW (X l)<|ci l
def jB(l:N J):M (uH l)=ci l:=wu λk=>kz (λk c=>zW c) k
def Dh(l:N J):X (uH l)<=X l:=by unfold uH;rw[xJ];exact qH _ _
def Rl.bz(h:Rl l)(k:K):Bz 1 (ci l k):=by
 have⟨h1,c⟩:=h k;unfold Bz;lia
def zge(h:Rl l):yQ 1 (uH l):=yF h.bz
theorem Zk(h:Rl l)(hl:X l<=1000000)(c:3000000<=fu):jW fu l=Z (uH l):=by
 unfold jW;rw[U (v:=zi (X l)<|ci l)]
 ·rw[U<|zP (Y6 h.bz) YL (by rw[yh];lia) c,yh,Cm];rfl
 ·unfold kD;rw[yU,yM,Q,gY,U];refine zt (λs:J×N G=>∃i:K,i<=X l/\s=((i:J),zi (X l) (λk=>if k<i then ci l k else 0))) (λs=>X l-s.1.toNat) _ ?_ _ _ ⟨0,sB _,by rw[xp (g:=λk=>if k<0 then ci l k else 0)<|λk _=>by rw[zA]];rfl⟩ (by show X l-0<fu;lia);rintro s L ⟨i,hi,rfl⟩ f;unfold Yz;simp only;by_cases h1:i<X l
  ·have e1:WM fu (i:J) (l.getD i 0)=Z (yf<|ci l i):=by
    unfold WM;rw[YU,U<|yE (h i) c]
   rw[zS,zo h1,Q,U e1,zo (by rw[yh];exact h1),Q,iC,zb];refine f _ ⟨i+1,W,?_⟩ (by show X l-((i:J)+1).toNat<X l-(i:J).toNat;lia);congr 1;refine xp λk j=> ?_;unfold Xg;by_cases e:k=i
   ·rw[S e,zS,e]
   ·rw[ir e];show(if k<i then ci l k else 0)=_;by_cases d:k<i
    ·rw[S d,zS]
    ·rw[ir d,zA]
  ·rw[zA];congr 1;exact xp λk j=>by rw[zS]
theorem zaG(h:Rl l)(hl:X l<=1000000)(c:3000000<=fu):QM fu l=Z (uH l):=by grind [QM,U,Zk]
def Yu(hp:wB p=I)(d:Fp p a)(e:Fp p b)(hc:X a<=90000:=by lia)(hd:X b<=90000:=by lia)(f:3000000<=fu:=by lia):uG fu a b p=Z (yS p a b,0):=by
 have⟨g,c⟩:=zp hp;unfold uG;rw[U<|Zm hp,S O,U<|zQ W c (d.rl c) W f,U<|zQ W c (e.rl c) W f,d.pm,e.pm,U<|vM W c d e W W f]
def r7(hp:wB p=I)(d:Fp p a)(e:Fp p b)(hc:X a<=90000)(hd:X b<=90000)(f:3000000<=fu):JH fu a b p=Z (vT p a b<|p-1,0):=by
 have⟨g,c⟩:=zp hp;unfold JH;rw[U<|Zm hp,S O,U<|zQ W c (d.rl c) W f,U<|zQ W c (e.rl c) W f,d.pm,e.pm,zb,U<|aH W c d e W W W W f]
def de(hp:wB p=I)(c:Fp p a)(d:Fp p b)(hd:X a<=90000)(f:X b<=90000)(g:3000000<=fu):WY fu a b p=Z (decide<|a=b):=by
 have⟨i,j⟩:=zp hp;unfold WY;rw[U<|r7 hp c d hd f g];simp only;have e:=YH (p:=p) W a b<|p-1;have hc:=YE (p:=p) a b;by_cases h:a=b
 ·have hl:X (vT p a b<|p-1)<=0:=e.nl.le λk _=>by
   have:=hc k;rw[e.mod,yT]at this;simp_all
  simp_all
 ·rw[wS h,if_neg];intro h0;refine h<|c.ext d<|Cg.iff_sub.2<|hc.symm.trans λk=> ?_;rw[zW W,zE]
end
section
variable{p:zI}{l:zC zI}{fu M i:zV}
def PlL(p:J)(l:N J):Prop:=(∀j,j<X l->0<=ci l j/\ci l j<p)/\1<X l/\ci l (X l-1)=1
def PlL.fp(hp:0<p)(h:PlL p l):Fp p l:=by
 refine⟨λk=> ?_,λk=> ?_,.inr<|by rw[h.2.2];decide⟩
 ·by_cases a:k<X l
  ·exact(h.1 k a).1
  ·rw[zW W];lia
 ·by_cases a:k<X l
  ·exact(h.1 k a).2
  ·rw[zW W];exact hp
theorem dq(hl:X l<=1000000)(o:3000000<=fu):∃b,Vm fu l p=Z b/\(b=I↔PlL p l):=by
 unfold Vm;have⟨r,e1,g⟩:=yb (f:=Qw fu l p) (λi:J=>∃j:K,i=(j:J)/\j<=X l/\∀t,t<j->0<=ci l t/\ci l t<p) (λi=>X l-i.toNat) (λr=>(r=.inl ()/\∀t,t<X l->0<=ci l t/\ci l t<p)\/(r=.inr ()/\¬∀t,t<X l->0<=ci l t/\ci l t<p)) (by
  rintro i L ⟨j,rfl,q,c⟩ k;unfold Qw;by_cases h1:j<X l
  ·rw[zS,zo h1,Q,YU];by_cases a:ci l j<0
   ·grind
   ·rw[ir a];by_cases d:p<=ci l j
    ·rw[S d];exact⟨_,O,.inr ⟨O,λe=>by have:=(e j h1).2;lia⟩⟩
    ·rw[ir d,zb];refine k _ ⟨j+1,O,W,λt m=> ?_⟩ W;by_cases n:t=j
     ·rw[n];lia
     ·exact c t W
  ·rw[zA];exact⟨_,O,.inl ⟨O,λt m=>c t W⟩⟩) fu 0 ⟨0,O,sB _,λt h=>wl h (xbf _)⟩ (by show X l-0<fu;lia)
 rw[U e1];rcases g with⟨rfl,h⟩|⟨rfl,h⟩
 ·simp only;by_cases h1:1<X l
  ·rw[zS,(W:(X l:J)-1=((X l-1:K):J)),zb,yc,Q,YU];by_cases a:ci l (X l-1)=1
   ·rw[S a];exact⟨_,O,λ_=>⟨h,h1,a⟩,λ_=>O⟩
   ·rw[ir a];exact⟨_,O,λe=>wl e YL,λe=>wl e.2.2 a⟩
  ·rw[zA];exact⟨_,O,λe=>wl e YL,λe=>wl e.2.1 h1⟩
 ·exact⟨_,O,λe=>wl e YL,λe=>wl e.1 h⟩
def KP(p:J)(fs:N (N J)):N J:=fs.foldl (yS p) [1]
def prZ:N Pz->Pz
 |[]=>pc 1
 |f::r=>f*prZ r
theorem wO:∀(a b:N Pz),prZ (a++b)=prZ a*prZ b
 |[],b=>(zB _).symm
 |f::r,b=>by show f*prZ (r++b)=f*prZ r*prZ b;rw[wO r b,zd]
def zku(p:J):∀(fs:N (N J)) (t:N J),Cg p (ci<|fs.foldl (yS p) t) (ci t*prZ (fs.map ci))
 |[],t=>by show Cg p (ci t) (ci t*pc 1);rw[yp];exact Cg.rfl
 |f::r,t=>by refine(zku p r<|yS p t f).trans<|((jD p t f).mul Cg.rfl).trans<|Cg.of<|zd _ _ _
def Dr(p:J)(fs:N (N J)):Cg p (ci<|KP p fs) (prZ<|fs.map ci):=by
 have:=zku p fs [1];rw[va,zB]at this;exact this
def zkh{p:J}(hp:0<p):∀(fs:N (N J)) {t:N J},Fp p t->Fp p (fs.foldl (yS p) t)
 |[],_,h=>h
 |f::r,t,h=>zkh hp r<|vv hp t f
def nQ(hp:2<=p)(fs:N (N J)):Fp p (KP p fs):=zkh W fs<|ZA
theorem zjy{p:J}{M:K}:∀{fs:N (N J)}{t:N J},(∀f∈fs,X f<=M)->X (fs.foldl (yS p) t)<=X t+X fs*M
 |[],_,_=>by simp
 |f::r,t,h=>by
  have h1:=zjy (p:=p) (t:=yS p t f) λg a=>h g<|kE _ a;have b:=vy p t f;show(r.foldl (yS p)<|yS p t f).length<=X t+(X r+1)*M;grind
def ox{fs:N (N J)}(h:∀f∈fs,X f<=M):X (KP p fs)<=1+X fs*M:=zjy h
theorem zby{l:N (N J)}(h:i<X l):l.getD i []∈l:=by grind
theorem zkJ{l:N (N J)}(h:i<X l):l.take (i+1)=l.take i++[l.getD i []]:=by grind [xeE]
def kX{fs:N (N J)}(hp:wB p=I)(d:∀f∈fs,Fp p f)(a:∀f∈fs,X f<=M)(g:1+X fs*M<=90000)(h:M<=90000)(hc:X fs<=90000:=by lia)(b:3000000<=fu:=by lia):jc fu fs p=Z (KP p fs):=by
 have⟨j,k⟩:=zp hp;unfold jc;rw[U (v:=KP p fs)];refine zt (λs:N J×J=>∃i:K,i<=X fs/\s=(KP p<|fs.take i,(i:J))) (λs=>X fs-s.2.toNat) _ ?_ _ _ ⟨0,sB _,O⟩ (by show X fs-0<fu;lia);rintro s L ⟨i,hi,rfl⟩ e;unfold ab;simp only;by_cases h1:i<X fs
 ·have c:=zby h1;have hl:=ox (p:=p) (fs:=fs.take i) (M:=M) λf b=>a f<|xec b;have hd:X (fs.take i)*M<=X fs*M:=xaf _<|List.length_take_le' ..;have m:=a _ c;rw[zS,zo h1,Q,U<|Yu hp (nQ W _)<|d _ c];simp only;rw[zb];refine e _ ⟨i+1,W,?_⟩ (by show X fs-((i:J)+1).toNat<X fs-(i:J).toNat;lia);congr 1;unfold KP;rw[zkJ h1,List.foldl_append];rfl
 ·rw[zA,xaQ W]
def jj(p:J)(f g:Pz):Prop:=∃s t:Pz,Fs s/\Fs t/\Cg p (s*f+t*g) (pc 1)
theorem jj.symm{f g:Pz}(h:jj p f g):jj p g f:=by
 have⟨s,t,a,z2,h⟩:=h;refine⟨t,s,z2,a,(Cg.of ?_).trans h⟩;funext k;rw[zG,zG,xfG]
def jj.mul{p:J}{f g h:Pz}(c:Fs g)(d:Fs h)(e:Fs f)(h1:jj p f h)(a:jj p g h):jj p (f*g) h:=by
 have⟨s,t,b,z2,h1⟩:=h1;have⟨u,v,z3,z4,a⟩:=a;refine⟨s*u,s*f*v+t*(u*g+v*h),b.mul z3,((b.mul e).mul z4).add<|z2.mul<|(z3.mul c).add<|z4.mul d,Cg.trans (Cg.of ?_)<|(h1.mul a).trans<|Cg.of<|zB _⟩;simp only[xu,zD,zk];funext k;simp only[zG];lia
def jj.one(p:J)(h:Pz):jj p (pc 1) h:=⟨pc 1,pc 0,Fs.pc 1,Fs.pc 0,Cg.of (by
 rw[zB,zT];funext k;rw[zG,zE,xby])⟩
theorem Fs.prZ:∀{fs:N Pz},(∀f∈fs,Fs f)->Fs (prZ fs)
 |[],_=>Fs.pc 1
 |f::r,a=>(a f<|Qh).mul<|Fs.prZ λg b=>a g<|kE _ b
theorem jj.prZ{p:J}{h:Pz}(c:Fs h):∀{fs:N Pz},(∀f∈fs,Fs f)->(∀f∈fs,jj p f h)->jj p (prZ fs) h
 |[],_,_=>jj.one p h
 |f::r,b,d=>jj.mul (Fs.prZ λg a=>b g<|kE _ a) c (b f<|Qh) (d f<|Qh)<|jj.prZ c (λg a=>b g<|kE _ a) λg a=>d g<|kE _ a
def zcJ{g h d s t:N J}{S:K}(a:BzR p g h d s t S)(hl:X d=1)(h1:ci d (X d-1)=1):jj p (ci g) (ci h):=by
 have e:ci d=pc 1:=by
  funext k;unfold pc;by_cases b:k=0
  ·simp_all
  ·rw[ir b,zW W]
 have:=a.cg;rw[e]at this;exact⟨ci s,ci t,Fs.ci s,Fs.ci t,this.symm⟩
structure ph(p:J)(a:N G)(fs:N (N J)):Prop where
 a0:a.length≠0
 al:(jH p a).length=a.length
 fl:fs.length<=a.length
 pl:∀i,i<fs.length->(fs.getD i []).length<=a.length/\PlL p (fs.getD i [])
 cp:∀i j,i<fs.length->j<i->jj p (ci<|fs.getD i []) (ci<|fs.getD j [])
 pr:yS p (KP p fs) [ci (jH p a)<|a.length-1]=jH p a
def zgd{f:N J}{fs:N (N J)}(hp:wB p=I)(c:Fp p f)(hc:X f<=290)(hi:i<=X fs)(z:i<=1000000)(g:∀j,j<i->Fp p (fs.getD j [])/\X (fs.getD j [])<=290)(k:3000000<=fu):
 ∃r,zg (uy fu p f<|fs.take i) fu 0=Z r/\(r=.inl ()->∀j,j<i->jj p (ci f) (ci<|fs.getD j [])):=by
 have hd:X (fs.take i)=i:=by rw[xap];lia
 have m:∀j,j<i->(fs.take i).getD j []=fs.getD j []:=λj a=>by rw[Yh,xcx,S a,<-Yh]
 refine yb (λx:J=>∃j:K,x=(j:J)/\j<=i/\∀t,t<j->jj p (ci f) (ci<|fs.getD t [])) (λx=>i-x.toNat) _ ?_ _ _ ⟨0,O,sB _,λt h=>wl h<|xbf _⟩ (by show i-0<fu;lia);rintro x L ⟨j,rfl,a,b⟩ n;unfold uy;by_cases h1:j<i
 ·have⟨k1,k2⟩:=g j h1;have⟨d,s,t,e1,o,q⟩:=ZM (fu:=fu) hp c k1 hc k2 k;rw[zS,yc,Q,m j h1];have u:uE fu f (fs.getD j []) p=Z (d,0):=by
   unfold uE;rw[U e1]
  rw[U u];simp only;by_cases v:X d=1
  ·rw[zS,zb];refine n _ ⟨j+1,O,W,λt w=> ?_⟩ W;by_cases y:t=j
   ·rw[y];exact zcJ o v<|q.resolve_left W
   ·exact b t W
  ·rw[zA];exact⟨_,O,λe=>wl e Xn⟩
 ·rw[zA];exact⟨_,O,λ_ t w=>b t W⟩
def Fe{k:K}{a:N G}{fs:N (N J)}(hp:wB p=I)(v:yQ k a)(w:k<=40000)(E:X a<=66)(g:3000000<=fu):
 ∃b,qj fu a fs p=Z b/\(b=I->ph p a fs):=by
 have⟨F,y⟩:=zp hp;unfold qj;rw[U<|Yj v w W y];simp only;by_cases h0:X a=0
 ·simp_all
 ·rw[zA];by_cases hl:X (jH p a)=X a
  ·rw[zS];by_cases H:X a<X fs
   ·simp_all
   ·rw[zA]
    have⟨r,e1,z⟩:=yb (f:=um fu a fs p) (λx:J×N J=>∃i:K,x=((i:J),jH p a)/\i<=X fs/\(∀t,t<i->X (fs.getD t [])<=X a/\PlL p (fs.getD t []))/\∀t j,t<i->j<t->jj p (ci<|fs.getD t []) (ci<|fs.getD j [])) (λx=>X fs-x.1.toNat)
     (λr=>r=.inr ()\/(r=.inl (jH p a)/\(∀t,t<X fs->X (fs.getD t [])<=X a/\PlL p (fs.getD t []))/\∀t j,t<X fs->j<t->jj p (ci<|fs.getD t []) (ci<|fs.getD j []))) (by
      rintro x L ⟨i,rfl,hi,g1,m⟩ A;unfold um;simp only;by_cases h1:i<X fs
      ·rw[zS,U O];simp only[wN];rw[zo h1,Q];by_cases P:X a<X (fs.getD i [])
       ·rw[zS];exact⟨_,O,.inl O⟩
       ·have⟨b,b1,b2⟩:=dq (fu:=fu) (l:=fs.getD i []) (p:=p) W g;rw[zA,U b1]
        cases b with
        |false=>
         rw[S YL];exact⟨_,O,.inl O⟩
        |true=>
         have hc:=b2.1 O;rw[ir YL,yU,yM,Q];have⟨q,q1,q2⟩:=zgd (fu:=fu) (i:=i) (fs:=fs) hp (hc.fp W) W W W (λj c=>⟨(g1 j c).2.fp W,by have:=(g1 j c).1;lia⟩) g;rw[U q1];obtain q|q:=q
         ·simp only;rw[zb];refine A _ ⟨i+1,O,W,λt d=> ?_,λt j d c=> ?_⟩ (by show X fs-((i:J)+1).toNat<X fs-(i:J).toNat;lia)
          ·by_cases o:t=i
           ·rw[o];exact⟨W,hc⟩
           ·exact g1 t W
          ·by_cases o:t=i
           ·rw[o]at c⊢;exact q2 O j c
           ·exact m t j W c
         ·exact⟨_,O,.inl O⟩
      ·rw[zA,U O];simp only[xaj,wP];exact⟨_,O,.inr ⟨O,λt d=>g1 t W,λt j d c=>m t j W c⟩⟩) fu (0,jH p a) ⟨0,O,sB _,λt h=>wl h (xbf _),λt j h=>wl h (xbf _)⟩ (by show X fs-0<fu;lia)
    rw[U e1];obtain rfl|⟨rfl,g1,m⟩:=z
    ·exact⟨_,O,λe=>wl e YL⟩
    ·simp only;have s:∀{q:N J->Prop},(∀t,t<X fs->q (fs.getD t []))->∀f∈fs,q f:=λ{q} h f g=>by
      obtain⟨j,c,rfl⟩:=xdF.1 g;have:=h j c;rw[Yh,xaa c]at this;exact this
     have B:∀f∈fs,Fp p f:=s λt d=>(g1 t d).2.fp W;have u:∀f∈fs,X f<=66:=s λt d=>by have:=(g1 t d).1;lia
     have R:X fs*66<=66*66:=xaf _ W;have hc:=ox (p:=p) u;have n:=Q8 (p:=p) W a;have T:ci (jH p a) (X a-1)≠0:=by
      obtain h|h:=n.nl
      ·lia
      ·rw[hl]at h;exact h
     have hv:=n.nn<|X a-1;have hn:=n.lt<|X a-1;have hd:(jH p a).drop (X a-1)=[ci (jH p a)<|X a-1]:=by
      rw[xbK W,xbS W];unfold ci;rw[Yh,xaa W];rfl
     have C:=ZA (p:=p) (x:=ci (jH p a)<|X a-1) W hn;have D:=vy p (KP p fs) [ci (jH p a)<|X a-1];simp only[xar,xbA]at D;rw[U (kX hp B u W YL),hl,(W:(X a:J)-1=((X a-1:K):J)),zb,yU,yM,Q,hd,U<|Yu hp (nQ W fs) C W Xn];simp only;rw[U<|de hp (vv W _ _) n W W g];exact⟨_,O,λe=>⟨h0,hl,W,g1,m,vR e⟩⟩
  ·rw[zA];exact⟨_,O,λe=>wl e YL⟩
end
section
variable{k fu K:zV}{a b x d f g h s:zC Zr}{m:zI}
def bU(a b:N G):N G:=xW (max (X a) (X b))<|λj=>M a j+M b j
def ME(a b:N G)(k:zV):M (bU a b) k=M a k+M b k:=kz (λj c=>JT c) k
def aZ(a b:N G):X (bU a b)<=max (X a) (X b):=by unfold bU;rw[xJ];exact qH _ _
def tJ(c:yQ k a)(e:yQ k b):yQ (k+1) (bU a b):=yF λj=>(c.bz j).add<|e.bz j
def Dp(c:yQ k a)(e:yQ k b)(i:k+1<=100000)(hc:X a<=1000000)(hd:X b<=1000000)(j:3000000<=fu):q6 fu a b=Z (bU a b):=ru c e i hc hd j
def zeH:N G:=uH [1]
def zrV:(M zeH:Pz)=pc 1:=by unfold zeH;rw[jB,va]
def znz:X zeH<=1:=Dh [1]
def zmw:Rl [1]:=λk=>by
 rw[va];unfold pc;split<;>exact⟨YL,YL⟩
def ziU:yQ 1 zeH:=zge zmw
def oV(f g h:N G)(m:J):N G:=qm (U1 f<|xe g h) m
def Ti(x d:N G)(m:J):N G:=zaj (qm x m) d m
def MI(x d:N G)(m:J):N G:=Q0 (qm x m) d m
def puG(f g h s t:N G)(m:J):N G:=qm (bU g<|bU (xe t<|oV f g h m)<|xe (Ti (xe s<|oV f g h m) h m) g) m
def puH(f g h s:N G)(m:J):N G:=qm (bU h<|MI (xe s<|oV f g h m) h m) m
def BH(g h s t:N G)(m:J):N G:=qm (U1 (bU (xe s g)<|xe t h) zeH) m
def puS(g h s t:N G)(m:J):N G:=qm (U1 s<|MI (xe s<|BH g h s t m) h m) m
def puT(g h s t:N G)(m:J):N G:=qm (U1 t<|bU (xe t<|BH g h s t m)<|xe (Ti (xe s<|BH g h s t m) h m) g) m
def zoF(c:Bz K m)(h0:0<m):yQ K (Ti x d m):=yF λj=>c.emod h0
def zp1(c:Bz K m)(h0:0<m):yQ K (MI x d m):=yF λj=>c.emod h0
theorem zjY(x d:N G)(m:J):X (Ti x d m)<=X x+1:=by grind [zaj,Ti,xJ,W8,qH]
theorem zjr(x d:N G)(m:J):X (MI x d m)<=X x:=by grind [Q0,MI,xJ,qH,W8]
def zbe(c:0<X d)(e:M d (X d-1)=1):X (MI x d m)<X d:=zaH c e
def zkg(i:2<=m)(hl:0<X h)(h1:M h (X h-1)=1):X (puH f g h s m)=X h/\M (puH f g h s m) (X h-1)=1:=by
 have j:=zbe (x:=xe s<|oV f g h m) (m:=m) hl h1;have e:∀k,M (puH f g h s m) k=(M h k+M (MI (xe s<|oV f g h m) h m) k)%m:=λk=>by unfold puH;rw[ZD,ME]
 have e1:M (puH f g h s m) (X h-1)=1:=by
  rw[e,h1,zY (p:=MI _ _ _) W];exact xax YL W
 refine⟨xcH (rM (gJ _ _) λk c=> ?_)<|xbl λl=> ?_,e1⟩
 ·have:=e k;unfold puH at this;rw[this,zY c,zY (p:=MI _ _ _) W,xby,xae]
 ·rw[zY W]at e1;cases e1
def Au{W:zV}{t:N Zr}{m:Zr}(hd:yQ K f)(n:yQ K g)(u:yQ K h)(e:yQ K s)(j:yQ K t)(lf:X f<=W)(lg:X g<=W)(lh:X h<=W)(ls:X s<=W)(lt:X t<=W)(hW:W<=5000)(he:1<=K)(hK:K<=1000)(B:zn m.2)(hc:X m.2<=K)(h2:2<=zv m)(hl:0<X h)(h1:M h (X h-1)=1)(c:3000000<=fu):
 ur fu [g,h,s,t] f m=Z [puG f g h s t<|zv m,puH f g h s<|zv m,puS (puG f g h s t<|zv m) (puH f g h s<|zv m) s t<|zv m,puT (puG f g h s t<|zv m) (puH f g h s<|zv m) s t<|zv m]:=by
 have l:Bz K (zv m):=(Bz.of B).mono hc;have o:mI m:=⟨B,Yl⟩;have h0:0<zv m:=Yl
 unfold ur;rw[N3 (i:=0) YL,Q,N3 (i:=1) YL,Q,N3 (i:=2) YL,Q,N3 (i:=3) YL,Q,show[g,h,s,t].getD (Int.toNat 0) []=g from O,show[g,h,s,t].getD (Int.toNat 1) []=h from O,show[g,h,s,t].getD (Int.toNat 2) []=s from O,show[g,h,s,t].getD (Int.toNat 3) []=t from O];have p:=Xt n u;have l1:=jC g h;have L:=gM f<|xe g h;rw[U<|wz n u Yl Yl c,U<|Yw (k:=K+K+X g) (hd.mono Yl) p Yl Yl Yl c,U<|W9 (MG (hd.mono Yl) p) Yl o h0,show qm (U1 f<|xe g h) (zv m)=oV f g h (zv m)from O];have v:yQ K (oV f g h<|zv m):=ie l h0;have le:X (oV f g h<|zv m)<=W+W:=PX (W8 _ _) Yl;have w:=Xt e v;have P:=jC s<|oV f g h<|zv m;have E:=zoF (x:=xe s<|oV f g h<|zv m) (d:=h) l h0;have pr:=zp1 (x:=xe s<|oV f g h<|zv m) (d:=h) l h0;have lq:=zjY (xe s<|oV f g h<|zv m) h<|zv m;have lr:=zjr (xe s<|oV f g h<|zv m) h<|zv m;rw[U<|wz e v Yl Yl c,U<|KO w Yl u B hc h0 hl Yl Yl c,show zaj (qm (xe s<|oV f g h<|zv m)<|zv m) h (zv m)=Ti (xe s<|oV f g h<|zv m) h (zv m)from O,show Q0 (qm (xe s<|oV f g h<|zv m)<|zv m) h (zv m)=MI (xe s<|oV f g h<|zv m) h (zv m)from O];simp only;have q:=Xt j v;have R:=jC t<|oV f g h<|zv m;have y:=Xt E n;have S:=jC (Ti (xe s<|oV f g h<|zv m) h<|zv m) g;have r:=tJ (k:=K+K+W+W+W+1) (q.mono Yl) (y.mono Yl);have T:=aZ (xe t<|oV f g h<|zv m)<|xe (Ti (xe s<|oV f g h<|zv m) h<|zv m) g;have z:=tJ (k:=K+K+W+W+W+2) (n.mono Yl) r;have V:=aZ g<|bU (xe t<|oV f g h<|zv m)<|xe (Ti (xe s<|oV f g h<|zv m) h<|zv m) g;rw[U<|wz j v Yl Yl c,U<|wz E n Yl Yl c,U<|Dp (k:=K+K+W+W+W+1) (q.mono Yl) (y.mono Yl) Yl Yl Yl c,U<|Dp (k:=K+K+W+W+W+2) (n.mono Yl) r Yl Yl Yl c,U<|W9 z Yl o h0,show qm (bU g<|bU (xe t<|oV f g h<|zv m)<|xe (Ti (xe s<|oV f g h<|zv m) h<|zv m) g) (zv m)=puG f g h s t (zv m)from O];have Y:=aZ h<|MI (xe s<|oV f g h<|zv m) h<|zv m;rw[U<|Dp u pr Yl Yl Yl c,U<|W9 (tJ u pr) Yl o h0,show qm (bU h<|MI (xe s<|oV f g h<|zv m) h<|zv m) (zv m)=puH f g h s (zv m)from O];have⟨hi,hj⟩:=zkg (f:=f) (g:=g) (s:=s) h2 hl h1;have C:yQ K (puG f g h s t<|zv m):=ie l h0;have F:yQ K (puH f g h s<|zv m):=ie l h0;have lG:X (puG f g h s t<|zv m)<=4*W+1:=PX (W8 _ _) Yl;clear l1 L P R S T V Y p w q y r z v le E pr lq lr;generalize puG f g h s t (zv m)=G at*
 generalize puH f g h s (zv m)=H at*
 have p:=Xt e C;have l1:=jC s G;have w:=Xt j F;have L:=jC t H;have q:=tJ (k:=K+K+W) (p.mono Yl) (w.mono Yl);have P:=aZ (xe s G)<|xe t H;have R:=gM (bU (xe s G)<|xe t H) zeH;have S:=znz;rw[U<|wz e C Yl Yl c,U<|wz j F Yl Yl c,U<|Dp (k:=K+K+W) (p.mono Yl) (w.mono Yl) Yl Yl Yl c];rw[U<|zaG zmw YL c,show uH [1]=zeH from O,U<|Yw q (ziU.mono Yl) Yl Yl Yl c,U<|W9 (MG q<|ziU.mono Yl) Yl o h0,show qm (U1 (bU (xe s G)<|xe t H) zeH) (zv m)=BH G H s t (zv m)from O];have D:yQ K (BH G H s t<|zv m):=ie l h0;have lb:X (BH G H s t<|zv m)<=5*W+2:=PX (W8 _ _) Yl;have y:=Xt e D;have T:=jC s<|BH G H s t<|zv m;have A:=zoF (x:=xe s<|BH G H s t<|zv m) (d:=H) l h0;have pd:=zp1 (x:=xe s<|BH G H s t<|zv m) (d:=H) l h0;have lc:=zjY (xe s<|BH G H s t<|zv m) H<|zv m;have ld:=zjr (xe s<|BH G H s t<|zv m) H<|zv m;have V:=gM s<|MI (xe s<|BH G H s t<|zv m) H<|zv m;rw[U<|wz e D Yl Yl c,U<|KO y Yl F B hc h0 Yl Yl Yl c,show zaj (qm (xe s<|BH G H s t<|zv m)<|zv m) H (zv m)=Ti (xe s<|BH G H s t<|zv m) H (zv m)from O,show Q0 (qm (xe s<|BH G H s t<|zv m)<|zv m) H (zv m)=MI (xe s<|BH G H s t<|zv m) H (zv m)from O];simp only;rw[U<|Yw e pd Yl Yl Yl c,U<|W9 (MG e pd) Yl o h0,show qm (U1 s<|MI (xe s<|BH G H s t<|zv m) H<|zv m) (zv m)=puS G H s t (zv m)from O];have r:=Xt j D;have Y:=jC t<|BH G H s t<|zv m;have z:=Xt A C;have l9:=jC (Ti (xe s<|BH G H s t<|zv m) H<|zv m) G;have p7:=tJ (k:=K+K+6*W+3) (r.mono Yl) (z.mono Yl);have a0:=aZ (xe t<|BH G H s t<|zv m)<|xe (Ti (xe s<|BH G H s t<|zv m) H<|zv m) G;have a1:=gM t<|bU (xe t<|BH G H s t<|zv m)<|xe (Ti (xe s<|BH G H s t<|zv m) H<|zv m) G;rw[U<|wz j D Yl Yl c,U<|wz A C Yl Yl c,U<|Dp (k:=K+K+6*W+3) (r.mono Yl) (z.mono Yl) Yl Yl Yl c,U<|Yw (j.mono Yl) p7 Yl Yl Yl c,U<|W9 (MG (j.mono Yl) p7) Yl o h0,show qm (U1 t<|bU (xe t<|BH G H s t<|zv m)<|xe (Ti (xe s<|BH G H s t<|zv m) H<|zv m) G) (zv m)=puT G H s t (zv m)from O]
end
section
variable{x d f g h s t:zC Zr}{m:zI}
def W0(a:N G)(m:J):Cg m (M<|qm a m) (M a):=λk=>by rw[ZD,xay]
def zdL(a b:N G):(M (U1 a b):Pz)=M a-M b:=wu λk=>Nu a b k
def CX(a b:N G):(M (bU a b):Pz)=M a+M b:=wu λk=>ME a b k
def zp6(b:0<X d)(c:M d (X d-1)=1):Cg m (M x) ((M (Ti x d m):Pz)*M d+M (MI x d m)):=by
 intro k;unfold Ti MI;rw[zG,<-qh,CC W b c,xdq,xay,<-xdq];have e:=ZD x m k;generalize qm x m=r at*
 have⟨qn,a⟩:∃qn,qn=X r+1-X d:=⟨_,O⟩;have hc:∀j,j<qn->M (zaj r d m) j=dvC r d m qn j:=λj i=>by
  rw[zji];unfold dvQ dvC;simp_all
 have hd:X (zaj r d m)<=qn:=by unfold zaj;rw[xJ,<-a];exact qH _ _
 have h:=ziY hc k qn<|eZ _;rw[My,zfd hd]at h;rw[zdO,<-a,xfG,<-h,e,xay]
def oO{n x:J}(hn:n∣m)(a:n∣x):n∣x%m:=by
 rw[Int.emod_def];exact xdm a<|xbu hn<|xck _ _
def ND{r d:N G}{n m:J}{qn:K}(hn:n∣m)(a:∀k,n∣M r k):∀s k,n∣dvF r d m qn s k
 |0,k=>a k
 |s+1,k=>xdm (ND hn a s k)<|xbu (oO hn<|ND hn a s _)<|xck _ _
def znw{n:J}(hn:n∣m)(b:Cg n (M x) (pc 0))(c:0<X d)(e:M d (X d-1)=1):Cg n (M<|Ti x d m) (pc 0)/\Cg n (M<|MI x d m) (pc 0):=by
 have a:∀k,n∣M (qm x m) k:=λk=>by rw[ZD];exact oO hn<|b.dvd k
 refine⟨Cg.of_dvd λk=> ?_,Cg.of_dvd λk=> ?_⟩
 ·unfold Ti;rw[zji];refine oO hn ?_;unfold dvQ;split
  ·exact oO hn<|ND hn a _ _
  ·simp_all
 ·unfold MI;rw[CC W c e];exact oO hn<|ND hn a _ _
def ztx{n:J}(e:m∣n*n)(hn:n∣m)(h1:Cg n (M f) ((M g:Pz)*M h))(i:Cg n ((M s:Pz)*M g+(M t:Pz)*M h) (pc 1))(a:0<X h)(b:M h (X h-1)=1):
 Cg m (M f) ((M (puG f g h s t m):Pz)*M (puH f g h s m))/\Cg n (M<|puG f g h s t m) (M g)/\Cg n (M<|puH f g h s m) (M h):=by
 have c:Cg m (M<|oV f g h m) ((M f:Pz)-(M g:Pz)*M h):=by
  refine(W0 _ _).trans<|Cg.of ?_;rw[zdL,qh]
 have hc:Cg n (M<|oV f g h m) (pc 0):=(c.down hn).trans<|Cg.iff_sub.1 h1;have hd:Cg m ((M s:Pz)*M (oV f g h m)) ((M (Ti (xe s<|oV f g h m) h m):Pz)*M h+M (MI (xe s<|oV f g h m) h m)):=by
  rw[<-qh];exact zp6 a b
 have⟨j,z2⟩:=znw (x:=xe s<|oV f g h m) (d:=h) hn (by rw[qh];exact hc.mul_zero_l _) a b;refine zp2 e hn (q:=M<|Ti (xe s<|oV f g h m) h m) (r:=M<|MI (xe s<|oV f g h m) h m) h1 i c hd j z2 ?_ ?_
 ·refine(W0 _ _).trans<|Cg.of ?_;rw[CX,CX,qh,qh]
 ·refine(W0 _ _).trans<|Cg.of ?_;rw[CX]
def zti{n:J}(a:m∣n*n)(hn:n∣m)(b:Cg n ((M s:Pz)*M g+(M t:Pz)*M h) (pc 1))(c:0<X h)(hc:M h (X h-1)=1):
 Cg m ((M (puS g h s t m):Pz)*M g+(M (puT g h s t m):Pz)*M h) (pc 1):=by
 have e:Cg m (M<|BH g h s t m) ((M s:Pz)*M g+(M t:Pz)*M h-pc 1):=by
  refine(W0 _ _).trans<|Cg.of ?_;rw[zdL,CX,qh,qh,zrV]
 have hd:Cg m ((M s:Pz)*M (BH g h s t m)) ((M (Ti (xe s<|BH g h s t m) h m):Pz)*M h+M (MI (xe s<|BH g h s t m) h m)):=by
  rw[<-qh];exact zp6 c hc
 refine znQ a hn b e hd ?_ ?_
 ·refine(W0 _ _).trans<|Cg.of ?_;rw[zdL]
 ·refine(W0 _ _).trans<|Cg.of ?_;rw[zdL,CX,qh,qh]
def zjq{a b:N G}(e:0<X a)(hc:0<X b)(c:M b (X b-1)=1):((M a:Pz)*M b) (X a-1+(X b-1))=M a (X a-1):=by
 rw[qt,vg (i:=X a-1) λi hi=> ?_,zS,(W:X a-1+(X b-1)-(X a-1)=X b-1),c,xci];by_cases h:i<X a-1
 ·rw[zY (p:=b) W,xaw]
 ·rw[zY W,xaK]
theorem zkl(u:2<=m)(e:qm g m=g)(l:qm f m=f)(hp:0<X f)(q:0<X h)(hl:M h (X h-1)=1)(hc:Cg m (M f) ((M g:Pz)*M h)):
 X f=X g+(X h-1)/\0<X g/\M g (X g-1)=M f (X f-1):=by
 have hd:=gJ g m;have a:=gJ f m;rw[e]at hd;rw[l]at a;have hn:∀k,M g k%m=M g k:=λk=>by rw[<-ZD,e]
 have b:∀k,M f k%m=M f k:=λk=>by rw[<-ZD,l]
 have r:=XB a W;have g0:0<X g:=by
  refine xcm λh0=>r ?_;rw[<-b,hc,qt,xz λi hi=>by rw[zY (p:=g) W,xaK],xae]
 have v:=XB hd W;have o:=hc<|X g-1+(X h-1);rw[zjq g0 q hl,b,hn]at o;have e1:X f=X g+(X h-1):=by
  refine xcH (rM a λk w=> ?_)<|xbl λy=> ?_
  ·rw[<-b,hc,ug (n:=X g) (m:=X h) (λj c=>zY c)<|λj c=>zY c,xae]
  ·rw[zY (p:=f) W]at o;lia
 grind
end
section
variable{r0 r1 a b K fu:zV}{u0 u1 v0 v1:zI}
structure ZbI(a b:zV)(r0 r1:zV)(u0 v0 u1 v1:J):Prop where
 p0:0<r0
 le0:r0<=max a b
 le1:r1<=max a b
 e0:u0*a+v0*b=r0
 e1:u1*a+v1*b=r1
 g:xdR r0 r1=xdR a b
 su:∃x y:zV,((u0=x/\u1= -y)\/(u0= -x/\u1=y))/\r0*y+r1*x=b
 sv:∃x y:zV,((v0=x/\v1= -y)\/(v0= -x/\v1=y))/\r0*y+r1*x=a
 bu0:u0.natAbs<=b
 bu1:u1.natAbs<=b
 bv0:v0.natAbs<=a
 bv1:v1.natAbs<=a
def zer{c:zV}(i:0<r1)(h:∃x y:zV,((u0=x/\u1= -y)\/(u0= -x/\u1=y))/\r0*y+r1*x=c):
 (∃x y:zV,((u1=x/\u0-((r0/r1:zV):J)*u1= -y)\/(u1= -x/\u0-((r0/r1:zV):J)*u1=y))/\r1*y+r0%r1*x=c)/\(u0-((r0/r1:zV):J)*u1).natAbs<=c:=by
 have⟨x,y,g,j⟩:=h;have hc:=xbj r0 r1;generalize r0/r1=q at*
 generalize r0%r1=r2 at*
 have e1:r1*(x+q*y)+r2*y=c:=by
  rw[xbV,<-xbe];have:r0*y=r1*q*y+r2*y:=by rw[<-xaT,hc]
  lia
 have k:x+q*y<=c:=by
  have l:1*(x+q*y)<=r1*(x+q*y):=xaf _ W;lia
 have f:((q*y:zV):J)=(q:J)*(y:J):=Xn
 rcases g with⟨d,e⟩|⟨d,e⟩
 ·rw[d,e,Int.mul_neg,<-f];exact⟨⟨y,x+q*y,.inr ⟨O,W⟩,e1⟩,W⟩
 ·rw[d,e,<-f];exact⟨⟨y,x+q*y,.inl ⟨O,W⟩,e1⟩,W⟩
theorem ZbI.step(h:ZbI a b r0 r1 u0 v0 u1 v1)(c:0<r1):ZbI a b r1 (r0%r1) u1 v1 (u0-((r0/r1:zV):J)*u1) (v0-((r0/r1:zV):J)*v1):=by
 have⟨d,e⟩:=zer c h.su;have⟨t1,t2⟩:=zer c h.sv;have i:=xbj r0 r1;have hd:=xaI r0 c;have f:=h.le1;refine⟨c,f,W,h.e1,?_,?_,d,t1,h.bu1,e,h.bv1,t2⟩
 ·have e0:=h.e0;have e1:=h.e1;have hc:(r0:J)=(r1:J)*((r0/r1:zV):J)+((r0%r1:zV):J):=W
  grind
 ·rw[<-h.g,xdW r1,<-Nat.gcd_rec,xdW]
theorem Bz.nat{n:zV}(h:n<18446744073709551616^K):Bz K (n:J):=by unfold Bz;exact h
def Ay{q x0 e z0 f g h:J}(c:Bz K q)(h1:Bz K x0)(l:Bz K e)(m:Bz K z0)(i:Bz K f)(j:Bz K g)(k:Bz K h)(n:K<=10000)(d:3000000<=fu):
 YM fu (yf x0,(yf e,yf z0)) (yf q) (yf f,(yf g,yf h))=Z (yf<|x0-q*f,(yf<|e-q*g,yf<|z0-q*h)):=by
 unfold YM;have b1:=c.mul i;have b2:=c.mul j;have b3:=c.mul k;rw[U<|yK (c.ok W) (i.ok W) d,zm,zm,U<|kF (h1.ok W) (b1.ok W) d,zm,zm,U<|yK (c.ok W) (j.ok W) d,zm,zm,U<|kF (l.ok W) (b2.ok W) d,zm,zm,U<|yK (c.ok W) (k.ok W) d,zm,zm,U<|kF (m.ok W) (b3.ok W) d,zm,zm]
def zcu(h:r1<=r0:=by lia)(c:0<r1:=by lia):bl (r0%r1)<bl r0:=by
 have f:=xbj r0 r1;have hc:=xaI r0 c;have d:1<=r0/r1:=(xcn c).2 W;have h1:r1*1<=r1*(r0/r1):=xas _ d;have g:=IB r0;have hp:1<=bl r0:=by rw[iB];lia
 have e:2^bl r0=2*2^(bl r0-1):=by rw[<-xdH,(W:(bl r0-1).succ=bl r0)]
 have:=ah (n:=r0%r1) (k:=bl r0-1) W;lia
def zlm(q:a<18446744073709551616^K)(t:b<18446744073709551616^K)(w:K<=1000)(f:3000000<=fu)(c:ZbI a b r0 r1 u0 v0 u1 v1):
 ∃r,zg (Kl fu) fu ((yf r0,(yf u0,yf v0)),(yf r1,(yf u1,yf v1)))=Z r/\∃u v:J,r=(yf (xdR a b:zV),(yf u,yf v))/\u*a+v*b=(xdR a b:zV)/\u.natAbs<=b/\v.natAbs<=a:=by
 have hc:∀{n:zV},n<=max a b->bl n<=64*K:=λ{n} hn=>ah (by
  rw[xbT,zaO];lia)
 refine yb (λs:(G×(G×G))×(G×(G×G))=>∃(r0 r1:zV) (u0 v0 u1 v1:J),s=((yf r0,(yf u0,yf v0)),(yf r1,(yf u1,yf v1)))/\ZbI a b r0 r1 u0 v0 u1 v1) (λs=>bl (zv s.1.1).natAbs+bl (zv s.2.1).natAbs+if(zv s.1.1).natAbs<(zv s.2.1).natAbs then 1 else 0) _ ?_ _ _ ⟨r0,r1,u0,v0,u1,v1,O,c⟩ ?_
 ·rintro s L ⟨r0,r1,u0,v0,u1,v1,rfl,c⟩ k;have d:∀x:J,x.natAbs<=max a b->Bz K x:=λx y=>by unfold Bz;lia
  have z0:Bz K (r0:J):=d _ (by have:=c.le0;lia);have h:Bz K (r1:J):=d _ (by have:=c.le1;lia);unfold Kl;simp only;rw[U<|xM (h.ok W) f,zm];by_cases h0:r1=0
  ·rw[S<|xK.2 W];have i:=c.g;rw[h0,Nat.gcd_zero_right]at i;exact⟨_,O,u0,v0,by rw[i],by rw[c.e0,i],c.bu0,c.bv0⟩
  ·rw[ir<|λe=>h0 (by have:=xK.1 e;lia),U<|fH (z0.okS W) (h.okS W) f,zm,zm];unfold zaD;rw[zA];simp only;have l:((r0:J)/(r1:J))=((r0/r1:zV):J):=O;have m:Bz K ((r0/r1:zV):J):=Bz.nat (by
    have h1:=xcd r0 r1;have j:=c.le0;lia)
   have o:=c.step W;have hd:=xbj r0 r1;have p:(r0:J)-((r0/r1:zV):J)*(r1:J)=((r0%r1:zV):J):=by
    have:(r0:J)=((r1*(r0/r1)+r0%r1:zV):J):=by rw[hd]
    conv=>lhs;rw[this]
    rw[hd];have j:(r0:J)=(r1:J)*((r0/r1:zV):J)+((r0%r1:zV):J):=by rw[this];simp
    rw[xaX];lia
   rw[l,U<|Ay m z0 (d _ (by have:=c.bu0;lia)) (d _ (by have:=c.bv0;lia)) h (d _ (by have:=c.bu1;lia)) (d _ (by have:=c.bv1;lia)) W f,p];refine k _ ⟨_,_,_,_,_,_,O,o⟩ ?_;simp only[zm,xaW];have z:=xaI r0 (W:0<r1);rw[zA];by_cases hi:r0<r1
   ·rw[S hi,xag hi];lia
   ·have:=zcu (r0:=r0) (r1:=r1);lia
 ·simp only[zm,xaW];have h1:=hc c.le0;have j:=hc c.le1;split<;>lia
theorem HK{x y:G}(d:zn x.2)(f:zn y.2)(hc:X x.2<=K)(hd:X y.2<=K)(h:zv x=(a:J))(i:zv y=(b:J))(j:0<a)(o:0<b)(k:K<=1000)(c:3000000<=fu):
 ∃u v:J,Jo fu x y=Z (yf (xdR a b:zV),yf u,yf v)/\u*a+v*b=(xdR a b:zV)/\u.natAbs<=b/\v.natAbs<=a:=by
 have g:nv x.2=a:=by have:=jT x;lia
 have nb:nv y.2=b:=by have:=jT y;lia
 have l:a<18446744073709551616^K:=by rw[<-g];exact xah (q9 d)<|xam YL hc
 have m:b<18446744073709551616^K:=by rw[<-nb];exact xah (q9 f)<|xam YL hd
 have n:ZbI a b a b 1 0 0 1:=by refine⟨j,xdP _ _,xdB _ _,W,W,O,⟨1,0,.inl ⟨O,O⟩,W⟩,⟨0,1,.inr ⟨O,O⟩,W⟩,W,W,W,W⟩
 obtain⟨r,e1,u,v,rfl,p,q,s⟩:=zlm (fu:=fu) l m k c n;unfold Jo;rw[U (yW d W W),U<|yE YL c,U<|yE YL c,U (yW f W W),U<|yE YL c,U<|yE YL c,ir YL,ir YL,g,nb,U e1];simp only;rw[U<|xM ⟨d,W⟩ c,ir (λe=>by rw[h,qu W]at e;exact wl e YL),U O,U<|xM ⟨f,W⟩ c,ir (λe=>by rw[i,qu W]at e;exact wl e YL),U O];grind
end
section
variable{p m:zI}{d:zC zI}{k K:zV}{f:zC Zr}
def Sj{x:Pz}(hp:2<=p)(g:Fs x)(s:0<Wl d)(hd:ci d (Wl d-1)=1)(h:Cg p (x*ci d) (pc 1)):Wl d=1:=by
 have⟨n,hn⟩:=g;have⟨X,b⟩:∃X,X=nl n (λk=>x k%p):=⟨_,O⟩;have a:∀k,ci X k=x k%p:=λk=>by
  rw[b];exact Ou (λj o=>by rw[hn j o,xae]) k
 have q:Nl X:=by rw[b];exact Ib _ _
 have c:Cg p (ci X*ci d) (pc 1):=(Cg.mul (λk=>by rw[a,xay]) Cg.rfl).trans h;obtain h0|h0:=q
 ·have h1:=c 0;rw[qt,xz λi hi=>by rw[zW (l:=X) W,xaK]]at h1;unfold pc at h1;rw[S O,xae,xax YL W]at h1;cases h1
 ·have t:0<Wl X:=xcm λe=>h0 (zW W);have r:(ci X*ci d) (Wl X-1+(Wl d-1))=ci X (Wl X-1):=by
   rw[qt,vg (i:=Wl X-1) λi hi=> ?_,zS,(W:Wl X-1+(Wl d-1)-(Wl X-1)=Wl d-1),hd,xci];by_cases hc:i<Wl X-1
   ·rw[zW (l:=d) W,xaw]
   ·rw[zW (l:=X) W,xaK]
  have h1:=c<|Wl X-1+(Wl d-1);rw[r,a,xay,<-a]at h1;refine Decidable.byContradiction λu=> ?_;unfold pc at h1;rw[zA,xae]at h1;exact h0 h1
def zqU{g h s t:N J}{S:zV}(hp:2<=p)(a:BzR p g h d s t S)(hd:X d=0\/ci d (X d-1)=1)(hc:jj p (ci g) (ci h)):Cg p (ci s*ci g+ci t*ci h) (pc 1):=by
 have⟨A,C,c,z2,d1,d2⟩:=a.dv;have⟨u,v,z3,z4,hc⟩:=hc;have b:Cg p ((u*A+v*C)*ci d) (pc 1):=by
  refine Cg.trans (Cg.of ?_)<|(((Cg.rfl (f:=u)).mul d1.symm).add<|(Cg.rfl (f:=v)).mul d2.symm).trans hc;rw[yu,zd,zd]
 have j:0<X d:=by
  refine xcm λe=> ?_;have h1:=b 0;rw[qt,xz λi hi=>by rw[zW (l:=d) W,xaw]]at h1;unfold pc at h1;rw[xae,xax YL W]at h1;cases h1
 have n:=hd.resolve_left W;have hl:=Sj hp ((z3.mul c).add<|z4.mul z2) j n b;have e:ci d=pc 1:=by
  funext k;unfold pc;by_cases o:k=0
  ·simp_all
  ·rw[ir o,zW W]
 have:=a.cg;rw[e]at this;exact this.symm
def Wa(hp:wB p=I):kQ p.toNat:=by
 refine xac λh=> ?_;rw[O5<|λe=>h e.2.2]at hp;simp_all
def zri{P N:zV}(h1:1<=P)(b:P<=65521)(a:k<=4*N)(c:0<N):P^k<18446744073709551616^N:=by
 rw[(YL:18446744073709551616=65536^4),<-xbT];exact xaG (xam W a)<|Nat.pow_lt_pow_left W W
def Gg(hp:wB p=I)(a:k<=1000:=by lia):Bz 250 (p^k):=by
 have⟨b,c⟩:=zp hp;obtain⟨P,rfl⟩:=xat (W:0<=p);exact zri W W a YL
theorem BR(hp:wB p=I)(a:1<=k:=by lia):2<=p^k:=by
 have⟨b,c⟩:=zp hp;obtain⟨P,rfl⟩:=xat (W:0<=p);have h1:P^1<=P^k:=xam W a;grind
def tu{i j:zV}(h:i<=j:=by lia):p^i∣p^j:=⟨p^(j-i),by rw[<-Int.pow_add,(W:i+(j-i)=j)]⟩
def zql{c:J}(hp:wB p=I)(hc:c%p≠0)(a:0<=c):xdR c.toNat (p^k).toNat=1:=by
 have⟨h,i⟩:=zp hp;have b:=Wa hp;obtain⟨P,rfl⟩:=xat (W:0<=p);obtain⟨C,rfl⟩:=xat a;have e:=xaI C (W:0<P);have h1:=tn W b W e;have g:xdR C P=1:=by rw[xdW,Nat.gcd_rec,xdW];exact h1
 exact Nat.Coprime.pow_right k g
structure Rd(K:zV)(m:J)(f:N G):Prop where
 ok:yQ K f
 rd:qm f m=f
def Rd.mod(h:Rd K m f)(k:zV):M f k%m=M f k:=by rw[<-ZD,h.rd]
def Rd.can(h:Rd K m f):f=xW (X f) (M f):=by have:=gJ f m;rw[h.rd]at this;exact this
def tZ(b:Bz K m)(h0:0<m)(a:N G):Rd K m (qm a m):=⟨ie b h0,Ru λk=>by rw[ZD,xay]⟩
def LB{fu:zV}(hp:wB p=I)(C:1<=k)(D:k<=1000)(g:Rd 250 (p^k) f)(P:0<X f)(R:X f<=1000)(o:M f (X f-1)%p≠0)(q:3000000<=fu):
 ∃w u,UC fu f (yf<|p^k)=Z w/\Rd 250 (p^k) w/\X w=X f/\M w (X w-1)=1/\(u*M f (X f-1))%p^k=1/\Cg (p^k) (M w) (pc u*M f):=by
 have h:=Gg hp D;have E:=BR hp C;have⟨m,F⟩:∃m,m=p^k:=⟨_,O⟩;have hd:=zql (k:=k) hp o (by
  rw[<-g.mod];exact xcJ _ W)
 rw[<-F]at h E g hd⊢;have⟨c,hc⟩:∃c,c=M f (X f-1):=⟨_,O⟩;have r:=yz (a:=c) (p:=m);have s:=g.mod<|X f-1;rw[<-hc]at s o hd⊢;rw[s]at r;have S:c≠0:=λe=>o (by rw[e,xae]);have T:Bz 250 c:=h.le W;have t:=g.ok.get<|X f-1;have⟨u,v,e1,z,V,Y⟩:=HK (fu:=fu) (K:=250) (a:=c.toNat) (b:=m.toNat) (x:=f.getD (X f-1) (yL,[])) (y:=yf m) t.1 (yx _) t.2 h.len (by rw[YV,<-hc];lia) (by rw[zm];lia) W W YL q;rw[hd]at z;have A:Bz 250 u:=h.le W;have B:(u*c)%m=1:=by
  have:u*c=1+m*(-v):=by
   rw[xcV r.1,xcV (W:0<=m)]at z;rw[Int.mul_neg,xaX m v];lia
  rw[this,Int.add_mul_emod_self_left];exact xax YL W
 have G:mI (yf m):=h.okS YL;have⟨sc,n⟩:∃sc,sc=xW (X f) (λj=>M f j*u):=⟨_,O⟩;have H:yQ (250+250) sc:=by rw[n];exact yF λj=>(g.ok.bz j).mul A
 have hz:X sc<=X f:=by rw[n,xJ];exact qH _ _
 have L:∀j,M sc j=M f j*u:=λj=>by rw[n];exact kz (λi hi=>QN hi) j
 have hl:∀j,M (qm sc m) j=M f j*u%m:=λj=>by rw[ZD,L]
 have hn:M (qm sc m) (X f-1)=1:=by rw[hl,<-hc,xaX,B]
 have hv:X (qm sc m)=X f:=by
  refine xcH (rM (gJ _ _) λj N=> ?_)<|xbl λhE=> ?_
  ·rw[hl,zY N,xaK,xae]
  ·rw[zY W]at hn;cases hn
 refine⟨qm sc m,u,?_,tZ h W _,hv,by rw[hv];exact hn,B,λj=> ?_⟩
 ·unfold UC;rw[(W:(X f:J)-1=((X f-1:zV):J)),zb,yc,Q,U e1];simp only;rw[U<|ux (l:=250) g.ok ⟨yx _,A.len⟩ YL W q,zm,<-n,U (W9 H YL G<|by rw[zm];lia),zm]
 ·rw[hl,zU,xay,xaX]
end
section
variable{G H S f g0 h0:zC Zr}{p:zI}{i k lh LS j fu:zV}
structure TrI(p:J)(k:K)(f g0 h0:N Zr)(lh LS i:K)(G H S T:N Zr):Prop where
 i1:1<=i
 ik:i<=k
 rG:Rd 250 (p^i) G
 rH:Rd 250 (p^i) H
 rS:Rd 250 (p^i) S
 rT:Rd 250 (p^i) T
 hl:H.length=lh
 h1:M H (lh-1)=1
 fac:Cg (p^i) (M f) ((M G:Pz)*M H)
 bez:Cg (p^i) ((M S:Pz)*M G+(M T:Pz)*M H) (pc 1)
 gp:Cg p (M G) (M g0)
 hp:Cg p (M H) (M h0)
 sl:S.length<=LS
def zse{m:J}{T:N Zr}{K:zV}(d:2<=m)(b:Rd K m T)(hl:0<X H)(h1:M H (X H-1)=1)(c:Cg m ((M S:Pz)*M G+(M T:Pz)*M H) (pc 1)):X T<=X S+X G+1:=by
 refine xbl λe=> ?_;have g:=XB b.can W;have hp:=c<|X T-1+(X H-1);rw[zG,zjq W hl h1,ug (λj a=>zY a)<|λj a=>zY a,xco,b.mod]at hp;unfold pc at hp;rw[zA,xae]at hp;lia
theorem zdv{k:K}(hi:1<=i)(a:M f (X f-1)%p≠0)(b:0<X f):X (qm f<|p^i)=X f:=by
 refine xcH (W8 _ _)<|xbl λhc=>a ?_;have h:M (qm f<|p^i) (X f-1)=0:=zY W;rw[ZD]at h;have hd:p∣p^i:=by
  have:=tu (p:=p) hi;grind
 rw[<-xcE _ hd,h,xae]
def TrI.lens{T:N Zr}(h:TrI p k f g0 h0 lh LS i G H S T)(hp:wB p=I)(b:M f (X f-1)%p≠0)(hc:0<X f)(d:0<lh):
 X f=X G+(lh-1)/\0<X G/\M G (X G-1)=M f (X f-1)%p^i/\X T<=LS+X G+1:=by
 have a:=BR hp h.i1;have hl:=h.hl;have h1:=h.h1;rw[<-hl]at h1;have hd:=zdv (k:=k) h.i1 b hc;have⟨e1,e,c⟩:=zkl a h.rG.rd (Ru λj=>by rw[ZD,xay]) W W h1<|(W0 _ _).trans h.fac;have g:=zse a h.rT W h1 h.bez;have:=h.sl;rw[hd,ZD]at c;lia
def zrN(h:j<=i+i):p^j∣p^i*p^i:=by rw[<-Int.pow_add];exact tu h
theorem uW(h:1<=i:=by lia):p∣p^i:=by
 have:=tu (p:=p) h;grind
def TrI.step{T:N Zr}(h:TrI p k f g0 h0 lh LS i G H S T)(hp:wB p=I)(w:k<=1000)(o:yQ 250 f)(hc:M f (X f-1)%p≠0)(hi:0<X f)(q:0<lh)(y:i<k)(z:X f<=300)(A:LS<=4500)(B:lh<=LS)(r:3000000<=fu):
 ∃b c e l,ur fu [G,H,S,T] f (yf<|p^min (2*i) k)=Z [b,c,e,l]/\TrI p k f g0 h0 lh LS (min (2*i) k) b c e l:=by
 have⟨j,t⟩:∃j,j=min (2*i) k:=⟨_,O⟩;have hn:=h.i1;have⟨l1,C,D,E⟩:=h.lens hp hc hi q;have a:=Gg hp (k:=j);have hd:=BR hp (k:=j);have hl:=h.hl;have h1:=h.h1;have F:=h.sl;rw[<-hl]at h1;have n:=Au (fu:=fu) (K:=250) (W:=5000) o h.rG.ok h.rH.ok h.rS.ok h.rT.ok Yl Yl Yl Yl Yl (eZ _) YL YL (yx<|p^j) a.len (by rw[zm];exact hd) Yl h1 r;rw[zm]at n;rw[<-t];refine⟨_,_,_,_,n,?_⟩;have d1:p^j∣p^i*p^i:=zrN Yl;have d2:p^i∣p^j:=tu;have d3:p∣p^i:=uW hn;have⟨f1,f2,f3⟩:=ztx d1 d2 h.fac h.bez Yl h1;have⟨t1,t2⟩:=zkg (f:=f) (g:=G) (s:=S) hd Yl h1;have u:Cg (p^i) ((M S:Pz)*M (puG f G H S T<|p^j)+(M T:Pz)*M (puH f G H S<|p^j)) (pc 1):=((Cg.rfl.mul f2).add<|Cg.rfl.mul f3).trans h.bez;have v:=zti d1 d2 u Yl (by rw[t1];exact t2);have hv:=zbe (x:=xe S<|BH (puG f G H S T<|p^j) (puH f G H S<|p^j) S T<|p^j) (d:=puH f G H S<|p^j) (m:=p^j) Yl (by rw[t1];exact t2);refine⟨Yl,Yl,tZ a Yl _,tZ a Yl _,tZ a Yl _,tZ a Yl _,Yl,by rw[hl]at t2;exact t2,f1,v,(f2.down d3).trans h.gp,(f3.down d3).trans h.hp,?_⟩;have e1:=W8 (U1 S<|MI (xe S<|BH (puG f G H S T<|p^j) (puH f G H S<|p^j) S T<|p^j) (puH f G H S<|p^j)<|p^j)<|p^j;have J:=gM S<|MI (xe S<|BH (puG f G H S T<|p^j) (puH f G H S<|p^j) S T<|p^j) (puH f G H S<|p^j)<|p^j;show(qm _ _).length<=LS;lia
theorem zm9(hp:wB p=I)(h1:1<=j)(a:j<=1000)(b:3000000<fu):jy fu p (j:J)=Z (yf<|p^j,0):=by grind [En,ZH]
def zk2{T:N Zr}(h:TrI p k f g0 h0 lh LS 1 G H S T)(hp:wB p=I)(g:k<=1000)(l:yQ 250 f)(m:M f (X f-1)%p≠0)(hc:0<X f)(hd:0<lh)(n:X f<=300)(o:LS<=4500)(hi:lh<=LS)(q:3000000<fu):
 ∃a b c d,zg (Xq fu f p (k:J)) fu (1,[G,H,S,T])=Z [a,b,c,d]/\TrI p k f g0 h0 lh LS k a b c d:=by
 obtain⟨r,e1,a,b,c,d,rfl,e⟩:=yb (f:=Xq fu f p (k:J)) (λs:J×N (N Zr)=>∃(i:K) (G H S T:N Zr),s=((i:J),[G,H,S,T])/\TrI p k f g0 h0 lh LS i G H S T) (λs=>k-s.1.toNat) (λr=>∃G H S T,r=[G,H,S,T]/\TrI p k f g0 h0 lh LS k G H S T) (by
  rintro s L ⟨i,G,H,S,T,rfl,h⟩ t;unfold Xq;simp only;have w:=h.i1;have hl:=h.ik;by_cases u:i<k
  ·have⟨a,b,c,d,e1,e⟩:=h.step (fu:=fu) hp g l m hc hd u n o hi W;have v:min (2*(i:J)) (k:J)=((min (2*i) k:K):J):=W
   rw[zS,zb,Q,v,U<|zm9 hp W W q];simp only;rw[U e1];exact t _ ⟨_,_,_,_,_,O,e⟩ (by show k-((min (2*i) k:K):J).toNat<k-(i:J).toNat;lia)
  ·rw[zA];obtain rfl:i=k:=W
   exact⟨_,O,_,_,_,_,O,h⟩) fu (1,[G,H,S,T]) ⟨1,_,_,_,_,O,h⟩ (by show k-1<fu;lia)
 exact⟨_,_,_,_,e1,e⟩
end
section
variable{p:zI}{l:zC zI}{g:Pz}
def zgE{a b:N J}(hp:2<=p)(f:0<X a)(hd:ci a (X a-1)=1)(h:0<X b)(d:ci b (X b-1)=1):X (yS p a b)=X a+X b-1/\ci (yS p a b) (X a+X b-1-1)=1:=by
 have e:(ci a*ci b) (X a-1+(X b-1))=1:=by
  rw[qt,vg (i:=X a-1) λi hi=> ?_,zS,(W:X a-1+(X b-1)-(X a-1)=X b-1),d,hd]
  ·rfl
  ·by_cases hc:i<X a-1
   ·rw[zW (l:=b) W,xaw]
   ·rw[zW (l:=a) W,xaK]
 have h1:ci (yS p a b) (X a+X b-1-1)=1:=by
  rw[iF,(W:X a+X b-1-1=X a-1+(X b-1)),e];exact xax YL W
 refine⟨xcH ((vv W a b).nl.le λk o=> ?_)<|xbl λq=> ?_,h1⟩
 ·rw[iF,ug (n:=X a) (m:=X b) (λj c=>zW c)<|λj c=>zW c,xae]
 ·rw[zW W]at h1;cases h1
def zeA{p:J}(hp:2<=p):∀(fs:N (N J)) {t:N J},0<X t->ci t (X t-1)=1->(∀f∈fs,PlL p f)->0<X (fs.foldl (yS p) t)/\ci (fs.foldl (yS p) t) (X (fs.foldl (yS p) t)-1)=1
 |[],_,h0,h1,_=>⟨h0,h1⟩
 |f::r,t,h0,h1,h=>by
  have a:=h f<|Qh;have⟨e1,b⟩:=zgE hp h0 h1 (show 0<X f by have:=a.2.1;lia) a.2.2;have:=a.2.1;exact zeA hp r W (by rw[e1];exact b) λg c=>h g<|kE _ c
def zlN(hp:2<=p){fs:N (N J)}(h:∀f∈fs,PlL p f):0<X (KP p fs)/\ci (KP p fs) (X (KP p fs)-1)=1:=zeA hp fs YL O h
def zbg(h:Nl l):X (uH l)=X l:=by
 unfold uH;rw[xJ];exact dw (eZ _) (λk h1 a=>by lia)<|h.imp id id
def DC(h:Fp p l)(a:p<=65521):Rd 250 (p^1) (uH l):=by
 refine⟨(zge<|h.rl a).mono YL,?_⟩;rw[xbo,xbD,xcr];unfold qm;rw[show(λj=>M (uH l) j%p)=M (uH l)from wu λj=>by rw[jB,h.mod]];exact zgh _ _
def jj.congr{f f' a:Pz}(h:jj p f g)(b:Cg p f f')(c:Cg p g a):jj p f' a:=by
 have⟨s,t,d,z2,h⟩:=h;exact⟨s,t,d,z2,((Cg.rfl.mul b.symm).add<|Cg.rfl.mul c.symm).trans h⟩
theorem zbI{A B:N (N J)}(h:∀a∈A,∀b∈B,jj p (ci a)<|ci b):jj p (prZ<|A.map ci) (prZ<|B.map ci):=by grind [Fs.ci,jj.symm,jj.prZ,Fs.prZ]
def znH{c:J}(hp:wB p=I)(h0:0<c)(h1:c<p):jj p (pc c) g:=by
 have⟨x,e1,b,d,a⟩:=cr hp h0 h1<|eZ _;refine⟨pc x,pc 0,Fs.pc _,Fs.pc _,?_⟩;rw[zT,uk];intro k;rw[zG,zE,xby];unfold pc;split
 ·rw[a];exact(xax YL W).symm
 ·rfl
def OX{α β:Type}(R:α->β->Prop):N α->N β->Prop
 |[],[]=>vF
 |a::r,b::s=>R a b/\OX R r s
 |_,_=>jN
def OX.append{α β:Type}{R:α->β->Prop}:∀{a:N α}{b:N β}{c:N α}{d:N β},OX R a b->OX R c d->OX R (a++c) (b++d)
 |[],[],_,_,_,h=>h
 |_::_,_::_,_,_,h,e=>⟨h.1,OX.append h.2 e⟩
def OX.len{α β:Type}{R:α->β->Prop}:∀{a:N α}{b:N β},OX R a b->X a=X b
 |[],[],_=>rfl
 |_::_,_::_,h=>by rw[xar,xar,h.2.len]
structure Up(p:J)(k:K)(u:N G)(g:N J):Prop where
 rd:Rd 250 (p^k) u
 len:u.length=g.length
 top:M u (u.length-1)=1
 cg:Cg p (M u) (ci g)
def zkS{f:N G}(h:0<X f):f.drop (X f-1)=[f.getD (X f-1) (yL,[])]:=zbT
def znM{z:G}(hp:0<p)(h0:zv z%p≠0):jH p [z]=[zv z%p]:=by
 have b:=yz (a:=zv z) hp;refine(Q8 hp [z]).ext (ZA W b.2) ((Ab p [z]).trans λk=> ?_)
 cases k with
 |zero=>show zv z%p=(zv z%p)%p;rw[xay]
 |succ k=>skip;rfl
end
def zsc{k:K}{p:J}(hp:wB p=I)(R:1<=k)(hk:k<=1000):∀(n:K) {fu:K}{f:N Zr}{fs:N (N J)},X fs=n->1<=n->n<=66->3000002+n<=fu->
 Rd 250 (p^k) f->0<X f->X f<=66->cf f (X f-1)%p≠0->(∀g∈fs,PlL p g/\X g<=66)->fs.Pairwise (λa b=>jj p (ci a)<|ci b)->Cg p (cf f) (pc (cf f<|X f-1)*prZ (fs.map ci))->
 ∃us,qX fu f fs p (k:J) (yf<|p^k)=Z us/\OX (Up p k) us fs/\Cg (p^k) (cf f) (pc (cf f<|X f-1)*prZ (us.map λu=>(cf u:Pz))):=by
 intro n
 induction n using xcY with
 |_ n ih=>
 intro fu f fs hn h7 h8 h9 V D h' v hC U5 Y;have⟨E,o⟩:=zp hp;obtain⟨F,rfl⟩:∃F,fu=F+1:=⟨fu-1,W⟩;have hf:3000000<F:=W
 have a5:=BR hp R;have hH:p∣p^k:=uW R;unfold qX;by_cases h1:n=1
 ·obtain⟨g,rfl⟩:∃g,fs=[g]:=by
   match fs,hn with
   |[g],_=>exact⟨g,O⟩
   |[],h=>simp at h;lia
   |_::_::_,h=>simp at h;lia
  have⟨l,a9⟩:=hC g Xn;have⟨w,u,e1,e2,e3,e4,e5,e6⟩:=LB (fu:=F) hp R hk V D W v W;have hu:Cg (p^k) (pc (cf f<|X f-1)*pc u) (pc 1):=λj=>by
   rw[uk,xaX];unfold pc;split
   ·rw[e5];exact(xax YL W).symm
   ·rfl
  have hD:Cg (p^k) (cf f) (pc (cf f<|X f-1)*cf w):=by
   refine Cg.symm<|(Cg.rfl.mul e6).trans ?_;rw[<-zd];exact(hu.mul Cg.rfl).trans<|Cg.of<|zB _
  have hw:∀x:Pz,prZ [x]=x:=λx=>yp x;have hE:Cg p (cf w) (ci g):=by
   refine(e6.down hH).trans ?_;have y:Cg p (pc u*cf f) (pc u*(pc (cf f<|X f-1)*ci g)):=Cg.rfl.mul<|Y.trans<|Cg.of (by show _*prZ [ci g]=_;rw[hw]);refine y.trans ?_;rw[<-zd,zk<|pc u];exact((hu.down hH).mul Cg.rfl).trans<|Cg.of<|zB _
  have hP:X w=X g:=by
   have b0:=l.fp (p:=p) W;refine xcH (xbl λhQ=> ?_)<|xbl λhQ=> ?_
   ·have y:=hE<|X w-1;rw[e4,zW W,xae,xax YL W]at y;cases y
   ·have y:=hE<|X g-1;rw[l.2.2,zY W,xae,xax YL W]at y;cases y
  rw[iq Xn,U e1];refine⟨[w],O,⟨⟨e2,hP,e4,hE⟩,xS⟩,?_⟩;show Cg _ _ (_*prZ [(cf w:Pz)]);rw[hw];exact hD
 ·have⟨e,hR⟩:∃h,h=n/2:=⟨_,O⟩;have⟨c,hc⟩:∃c,c=cf f (X f-1):=⟨_,O⟩;have h6:X fs<=66:=W
  have hy:fs=fs.take e++fs.drop e:=(xbw e fs).symm;have hS:X (fs.take e)=e:=by rw[xap];lia
  have hT:X (fs.drop e)=n-e:=by rw[xca];lia
  have hs:∀g∈fs.take e,PlL p g/\X g<=66:=λg l=>hC g<|xec l;have hl:∀g∈fs.drop e,PlL p g/\X g<=66:=λg l=>hC g<|xfw l;rw[hy]at U5 Y;have⟨a0,a1,L⟩:=xdg.1 U5;rw[xaU,wO,<-hc]at Y;have hJ:=yz (a:=c) (p:=p);rw[<-hc]at v;have hU:∀g∈fs.take e,Fp p g:=λg l=>(hs g l).1.fp W;have hV:∀g∈fs.drop e,Fp p g:=λg l=>(hl g l).1.fp W;have A:=Dr p<|fs.take e;have B:=Dr p<|fs.drop e;have q:=zlN (p:=p) E (fs:=fs.drop e) λg l=>(hl g l).1;have a3:=ox (p:=p) (fs:=fs.take e) (M:=66) λg l=>(hs g l).2;have a4:=ox (p:=p) (fs:=fs.drop e) (M:=66) λg l=>(hl g l).2;have b1:X (fs.take e)*66<=66*66:=xaf _ W;have b2:X (fs.drop e)*66<=66*66:=xaf _ W;have hK:=ZA (p:=p) (x:=c%p) W hJ.2;have⟨g0,hG⟩:∃g0,g0=yS p (KP p<|fs.take e) [c%p]:=⟨_,O⟩;have⟨h0,ht⟩:∃h0,h0=KP p (fs.drop e):=⟨_,O⟩;have hd:Fp p g0:=by rw[hG];exact vv W _ _
  have he:Fp p h0:=by rw[ht];exact nQ E _
  have hA:Cg p (pc<|c%p) (pc c):=λj=>by unfold pc;split;exact xay _ _;rfl
  have hm:Cg p (ci g0) (prZ ((fs.take e).map ci)*pc c):=by
   rw[hG];refine(jD p _ _).trans ?_;rw[va];exact A.mul hA
  have ho:Cg p (ci h0) (prZ<|(fs.drop e).map ci):=by rw[ht];exact B
  rw[<-ht]at q;have hB:Cg p (cf f) (ci g0*ci h0):=by
   refine Y.trans<|Cg.trans (Cg.of ?_) (hm.mul ho).symm;simp only[zd,zk,zD]
  have hL:jj p (ci g0) (ci h0):=by
   refine jj.congr (jj.mul (Fs.pc _) (Fs.prZ λx hx=>by obtain⟨a,_,rfl⟩:=xan.1 hx;exact Fs.ci a) (Fs.prZ λx hx=>by obtain⟨a,_,rfl⟩:=xan.1 hx;exact Fs.ci a) (zbI L)<|znH hp (W:0<c%p) hJ.2) ?_ ho.symm;exact(Cg.rfl.mul hA).trans hm.symm
  have hi:p^1=p:=by rw[xbo,xbD,xcr]
  have rg:=DC hd o;have rh:=DC he o;have lz:X (uH h0)=X h0:=zbg he.nl;have P:X (uH g0)=X g0:=zbg hd.nl;have hM:cf (uH h0) (X (uH h0)-1)=1:=by rw[lz,jB];exact q.2
  have hW:X (qm f p)=X f:=by
   have:=zdv (k:=k) (i:=1) (p:=p) (f:=f) (eZ _) (by rw[<-hc];exact v) D;rw[hi]at this;exact this
  have⟨d1,d2,d3⟩:=zkl (m:=p) (f:=qm f p) (g:=uH g0) (h:=uH h0) E (by have:=rg.rd;rw[hi]at this;exact this) (Ru λj=>by rw[ZD,xay]) W W hM ((W0 f p).trans<|by rw[jB,jB];exact hB);rw[hW,lz,P]at d1;rw[P]at d2;have⟨d,s,t,z1,C,z3⟩:=ZM (fu:=F) hp hd he W W W;have hN:=zqU E C z3 hL;have b3:max (X g0) (X h0)*(max (X g0) (X h0)+1)<=66*67:=xbp W W;have b4:=C.sl;have b5:=C.tl;have rs:=DC C.sf o;have rt:=DC C.tf o;have hI:TrI p k f (uH g0) (uH h0) (X h0) 4430 1 (uH g0) (uH h0) (uH s) (uH t):=by
   refine⟨eZ _,R,rg,rh,rs,rt,lz,by rw[<-lz];exact hM,?_,?_,Cg.rfl,Cg.rfl,by have:=Dh s;lia⟩
   ·rw[hi,jB,jB];exact hB
   ·rw[hi,jB,jB,jB,jB];exact hN
  have⟨G,H,S,T,l1,r⟩:=zk2 (fu:=F) hI hp hk V.ok (by rw[<-hc];exact v) D W W YL W hf;have⟨m1,m2,m3,m4⟩:=r.lens hp (by rw[<-hc];exact v) D W;have hX:c%p^k=c:=by have:=V.mod<|X f-1;rw[<-hc]at this;exact this
  rw[<-hc,hX]at m3;have hY:=r.hl;have hv:=r.h1;rw[<-hY]at hv;have hZ:Cg p (cf G) (pc c*prZ ((fs.take e).map ci)):=by
   refine r.gp.trans ?_;rw[jB,zk];exact hm
  have h3:Cg p (cf H) (pc 1*prZ ((fs.drop e).map ci)):=by
   refine r.hp.trans ?_;rw[jB,zB];exact ho
  have⟨us,u1,u2,u3⟩:=ih e W (fu:=F) (f:=G) (fs:=fs.take e) hS W W W r.rG m2 W (by rw[m3];exact v) hs a0 (by rw[m3];exact hZ);have⟨vs,v1,v2,v3⟩:=ih (n-e) W (fu:=F) (f:=H) (fs:=fs.drop e) hT W W W r.rH W W (by rw[hv,xax YL W];decide) hl a1 (by rw[hv];exact h3);rw[m3]at u3;rw[hv]at v3;have b6:=u2.len;have c0:=v2.len;refine⟨us++vs,?_,by rw[hy];exact u2.append v2,?_⟩
  ·have ez:[f.getD (X f-1) (yL,[])].length=1:=O;have hO:yQ 250 [f.getD (X f-1) (yL,[])]:=λz hz=>by
    obtain rfl:=xab.1 hz;exact V.ok.get _
   have h4:jH p [f.getD (X f-1) (yL,[])]=[c%p]:=by
    rw[hc];exact znM W<|by rw[YV,<-hc];exact v
   have h5:=vy p (KP p<|fs.take e) [c%p];simp only[xar,xbA]at h5;have a2:xbQ (X fs:J) 2=(e:J):=by rw[hn,hR];rfl
   rw[zA,xi YL,a2,zb,(W:(X f:J)-1=((X f-1:K):J)),zb,yU,yM,Q,zkS D,U (Yj hO YL W o Xn),h4];simp only;rw[yU,yM,Q,U (kX hp hU (λg l=>(hs g l).2) W YL),U (Yu hp (nQ E _) hK W Xn),<-hG];simp only;rw[yU,yM,Q,U (kX hp hV (λg l=>(hl g l).2) W YL),<-ht,U z1];simp only;rw[U (Zk (hd.rl o) W W),U (Zk (he.rl o) W W),U (Zk (C.sf.rl o) W W),U (Zk (C.tf.rl o) W W),U l1];rw[N3 (i:=0) YL,yU,yM,Q,show[G,H,S,T].getD (Int.toNat 0) []=G from O,U u1,N3 (i:=1) YL,yU,yM,Q,show[G,H,S,T].getD (Int.toNat 1) []=H from O,U v1,yM,Q]
  ·rw[<-hc,xaU,wO];refine r.fac.trans<|(u3.mul v3).trans<|Cg.of ?_;rw[zB,zd]
section
variable{a:zC Zr}{p:zI}{fu:zV}
def zX(a:N G):N G:=xW (X a)<|M a
def Zy(a:N G)(k:K):M (zX a) k=M a k:=kz (λj b=>zY b) k
def jG(a:N G):X (zX a)<=X a:=by unfold zX;rw[xJ];exact qH _ _
def fE{k:K}(h:yQ k a):yQ k (zX a):=yF h.bz
structure zw5(p:J)(k:K)(a:N G)(fs:N (N J))(us:N (N G)):Prop where
 hp:wB p=I
 k1:1<=k
 k2:k<=1000
 rt:ph p (zX a) fs
 up:OX (Up p k) us fs
 cg:fs≠[]->Cg (p^k) (M a) (pc (M (zX a)<|(zX a).length-1)*prZ (us.map λu=>(M u:Pz)))
def ph.mem{fs:N (N J)}(h:ph p a fs):∀g∈fs,PlL p g/\X g<=X a:=λg b=>by
 obtain⟨j,c,rfl⟩:=xdF.1 b;have:=h.pl j c;simp_all
def ph.pw{fs:N (N J)}(h:ph p a fs):fs.Pairwise (λa b=>jj p (ci a)<|ci b):=by
 refine xcR.2 λi j hi c d=> ?_;have:=h.cp j i c d;rw[Yh,Yh,xaa hi,xaa c]at this;exact this.symm
def Gm{k:J}{fs:N (N J)}(h:yQ 250 a)(w:X a<=1000)(x:3000200<=fu):
 ∃us e,kn fu a fs p k=Z (us,e)/\(e=0->zw5 p k.toNat a fs us/\1<=k)/\(e≠0->(En p k).2=0\/e=1):=by
 unfold kn;have y:=jG a;have l:=fE h;rw[U<|ZH W];by_cases m:wB p=I/\1<=k/\k<=1000
 ·have⟨hp,h1,z⟩:=m;obtain⟨K,rfl⟩:=xat (W:0<=k);have hc:En p (K:J)=(yf<|p^K,0):=by
   unfold En;simp_all
  rw[hc];simp only;rw[U (zP h YL W W),S xS,show xW (X a) (M a)=zX a from O];by_cases A:65<X (zX a)
  ·rw[zS];exact⟨_,_,O,λe=>wl e YL,λ_=> .inl xS⟩
  ·rw[zA];have⟨b,b1,b2⟩:=Fe (fu:=fu) (fs:=fs) hp l YL W W;rw[U b1]
   cases b with
   |false=>
    rw[S YL];exact⟨_,_,O,λe=>wl e YL,λ_=> .inl xS⟩
   |true=>
    have c:=b2 O;rw[ir YL];by_cases h0:X fs=0
    ·obtain rfl:fs=[]:=xbs.1 h0;rw[S (show((X ([]:N (N J)):zV):J)=0 from O)];exact⟨_,_,O,λ_=>⟨⟨hp,W,W,c,xS,λe=>wl O e⟩,h1⟩,λe=>wl O e⟩
    ·rw[zA];have⟨B,C⟩:=zp hp;have hl:=Gg hp (k:=K);have D:=BR hp (k:=K);have o:mI (yf<|p^K):=hl.okS YL;have⟨f,d⟩:∃f,f=qm (zX a) (p^K):=⟨_,O⟩;have q:=c.a0;have hd:M (zX a) (X (zX a)-1)%p≠0:=by
      have h3:=(Q8 (p:=p) W<|zX a).nl;unfold Nl at h3;rw[c.al]at h3;obtain h3|h3:=h3
      ·exact wl h3 q
      ·rw[bW]at h3;exact h3
     have r:X f=X (zX a):=by rw[d];exact zdv (k:=K) W hd W
     have i:M f (X f-1)=M (zX a) (X (zX a)-1)%p^K:=by rw[r,d,ZD]
     have hi:p∣p^K:=uW;have s:M f (X f-1)%p≠0:=by rw[i,xcE _ hi];exact hd
     have hn:Cg p (M f) (pc (M f<|X f-1)*prZ (fs.map ci)):=by
      have e1:Cg p (M f) (M<|zX a):=by rw[d];exact(W0 _ _).down hi
      refine e1.trans<|(Ab p<|zX a).symm.trans ?_;rw[<-c.pr];refine(jD p _ _).trans ?_;rw[va,zk];refine Cg.mul (λj=> ?_)<|Dr p fs;rw[bW,i];unfold pc;split
      ·rw[xcE _ hi,xay]
      ·rfl
     have⟨us,t,u,v⟩:=zsc (k:=K) hp W W (X fs) (fu:=fu) (f:=f) (fs:=fs) O W (by have:=c.fl;lia) (by have:=c.fl;lia) (by rw[d];exact tZ hl W _) W W s (λg n=>⟨(c.mem g n).1,by have:=(c.mem g n).2;lia⟩) c.pw hn;rw[U (W9 l YL o<|by rw[zm];lia),zm,<-d,U t];refine⟨_,_,O,λ_=>⟨⟨hp,W,W,c,u,λ_=> ?_⟩,h1⟩,λe=>wl O e⟩;rw[xaJ];have e1:Cg (p^K) (M a) (M f):=by
      rw[d];exact Cg.trans (Cg.of<|funext λj=>(Zy a j).symm) (W0 _ _).symm
     refine e1.trans<|v.trans<|Cg.mul (λj=> ?_) Cg.rfl;rw[i];unfold pc;split
     ·rw[xay]
     ·rfl
 ·have hc:En p k=((yL,[]),1):=by unfold En;rw[ir m]
  rw[hc];simp only;rw[U (zP h YL W W),ir YL];exact⟨_,_,O,λe=>wl e YL,λ_=> .inr O⟩
theorem zcl{a b:N J}(h:a=b)(hl:X a<=1000000)(d:3000000<=fu):YA fu a b=Z I:=by
 subst h;unfold YA;rw[S O,U (v:=.inl ())];refine zt (λi:J=>∃j:K,i=j/\j<=X a) (λi=>X a-i.toNat) _ ?_ _ _ ⟨0,O,sB _⟩ (by show X a-0<fu;lia);rintro i L ⟨j,rfl,e⟩ c;unfold sa;by_cases h1:j<X a
 ·rw[zS,zo h1,Q,zo h1,Q,S O,zb];exact c _ ⟨j+1,O,W⟩ W
 ·grind
end
def Mn(A:Pz)(d:K):Prop:=A d=1/\∀k,d<k->A k=0
def Mn.top{A x:Pz}{d n:K}(h:Mn A d)(a:∀k,n<k->x k=0):(x*A) (n+d)=x n:=by
 rw[qt,vg (i:=n) λi hi=> ?_,zS,(W:n+d-n=d),h.1,xci];by_cases hc:i<n
 ·rw[h.2 _ W,xaw]
 ·grind
def Mn.zero{p:J}(hp:2<=p){A x:Pz}{d:K}(h:Mn A d)(j:Fs x)(l:∀k,d<=k->(x*A) k%p=0):Cg p x (pc 0):=by
 have⟨n,hn⟩:=j;have a:∀c,c<=n->∀k,n-c<=k->x k%p=0:=by
  intro c
  induction c with
  |zero=>intro _ k g;rw[hn k W,xae]
  |succ c m=>
   intro hc k g;by_cases h1:n-c<=k
   ·grind
   ·obtain rfl:k=n-(c+1):=W
    have e:Cg p x (λi=>if i<=n-(c+1)then x i else 0):=λi=>by
     by_cases hi:i<=n-(c+1)
     ·simp_all
     ·show _=(if i<=n-(c+1)then x i else 0)%p;rw[ir hi,xae];grind
    have b:=(e.mul<|Cg.rfl (f:=A))<|n-(c+1)+d;rw[l _ W,h.top<|λi hi=>zA]at b;rw[S<|eZ _]at b;exact b.symm
 intro k;rw[zE,xae];by_cases g:k<n
 ·exact a n (eZ _) k W
 ·rw[hn k W,xae]
def zeJ{k m n:J}(h:Int.gcd k m=1)(hd:k∣m*n):k∣n:=
 xcp.1 (Nat.Coprime.dvd_of_dvd_mul_left h<|by rw[<-xcK];exact xcp.2 hd)
def pdv(n:J)(f:Pz):Pz:=λk=>f k/n
def zb4{n:J}{f:Pz}(h:Cg n f (pc 0)):pc n*pdv n f=f:=by
 funext k;rw[zU];exact Int.mul_ediv_cancel'<|h.dvd k
def zdV{n:J}{f:Pz}(h:Fs f):Fs (pdv n f):=by
 have⟨c,hc⟩:=h;exact⟨c,λk a=>by show f k/n=0;rw[hc k a,xdX]⟩
def Fs.subt{f g:Pz}(c:Fs f)(d:Fs g):Fs (f-g):=by
 have⟨a,e⟩:=c;have⟨b,h⟩:=d;exact⟨a+b,λk i=>by rw[yT,e k W,h k W];rfl⟩
def zkY{p n:J}(hp:2<=p)(hn:n≠0)(E:p∣n){A B c g:Pz}{d:K}(i:Mn A d)(o:Mn c d)(F:Fs A)(j:Fs c)(G:Fs B)(l:Fs g)(hc:jj p A B)(h1:Cg n A c)(H:Cg n B g)(h:Cg (n*p) (A*B) (c*g)):
 Cg (n*p) A c/\Cg (n*p) B g:=by
 have⟨a,q⟩:∃a,a=pdv n (c-A):=⟨_,O⟩;have⟨b,r⟩:∃b,b=pdv n (g-B):=⟨_,O⟩;have u:pc n*a=c-A:=by rw[q];exact zb4<|Cg.iff_sub.1 h1.symm
 have v:pc n*b=g-B:=by rw[r];exact zb4<|Cg.iff_sub.1 H.symm
 have L:Fs a:=by rw[q];exact zdV<|j.subt F
 have w:Fs b:=by rw[r];exact zdV<|l.subt G
 have x:∀k,c k=A k+n*a k:=λk=>by
  have:=vN u k;rw[zU,yT]at this;lia
 have bk:∀k,g k=B k+n*b k:=λk=>by
  have:=vN v k;rw[zU,yT]at this;lia
 have hl:c=A+pc n*a:=wu λk=>by rw[zG,zU,x]
 have M:g=B+pc n*b:=wu λk=>by rw[zG,zU,bk]
 have y:Cg p (a*B+b*A) (pc 0):=by
  refine Cg.of_dvd λk=> ?_;have e:c*g-A*B=pc n*(a*B+b*A+pc n*(a*b)):=by
   rw[hl,M];simp only[xu,yu,zd,zD,zk];funext k;simp only[zG,yT];lia
  have hd:=(Cg.iff_sub.1 h.symm).dvd k;rw[e,zU]at hd;have z:p∣(a*B+b*A+pc n*(a*b)) k:=(Int.mul_dvd_mul_iff_left hn).1 hd;rw[zG,zU]at z;exact(Int.dvd_add_left<|xbu E<|xck _ _).1 z
 have⟨s,t,fs,N,P⟩:=hc;have Q:∀k,d<=k->a k=0:=λk C=>by
  have e:c k=A k:=by
   by_cases R:k=d
   ·rw[R,i.1,o.1]
   ·rw[i.2 k W,o.2 k W]
  have:=x k;have S:n*a k=0:=W
  exact(xeB.1 S).resolve_left hn
 have D:Cg p a ((s*a-t*b)*A):=by
  have e1:Cg p a (a*(s*A+t*B)):=by
   have:=(Cg.rfl (m:=p) (f:=a)).mul P.symm;rw[yp]at this;exact this
  refine e1.trans<|Cg.iff_sub.2 ?_;have e:a*(s*A+t*B)-(s*a-t*b)*A=t*(a*B+b*A):=by
   simp only[xu,yu,ve,ji,zd,zD,zk];funext k;simp only[zG,yT];lia
  rw[e];exact y.mul_zero_l t
 have T:=i.zero hp ((fs.mul L).subt<|N.mul w) λk C=>by rw[<-D k,Q k C,xae]
 have hi:Cg p a (pc 0):=D.trans<|T.mul_zero_r A;have U:Cg p (b*A) (pc 0):=by
  have e:b*A=a*B+b*A-a*B:=by
   funext k;simp only[zG,yT];lia
  rw[e];exact y.zero_sub<|hi.mul_zero_r B
 have V:Cg p b (pc 0):=i.zero hp w λk _=>by rw[U k,zE,xae]
 refine⟨Cg.symm<|Cg.iff_sub.2<|Cg.of_dvd λk=> ?_,Cg.symm<|Cg.iff_sub.2<|Cg.of_dvd λk=> ?_⟩
 ·rw[<-u,zU];exact Int.mul_dvd_mul_left n<|hi.dvd k
 ·rw[<-v,zU];exact Int.mul_dvd_mul_left n<|V.dvd k
def zef{p:J}(hp:2<=p){A B a e:Pz}{d:K}(f:Mn A d)(g:Mn a d)(i:Fs A)(b:Fs a)(l:Fs B)(c:Fs e)(hc:jj p A B)(h1:Cg p A a)(m:Cg p B e):∀j,Cg (p^j) (A*B) (a*e)->Cg (p^j) A a/\Cg (p^j) B e
 |0,_=>⟨λk=>by rw[xbD,Int.emod_one,Int.emod_one],λk=>by rw[xbD,Int.emod_one,Int.emod_one]⟩
 |1,_=>by grind
 |j+2,h=>by
  have⟨g1,n⟩:=zef hp f g i b l c hc h1 m (j+1)<|h.down<|tu;rw[xbo]at h⊢;exact zkY hp (Int.ne_of_gt<|Int.pow_pos W) (uW) f g i b l c hc g1 n h
def nH:K->K->K
 |_,0=>1
 |0,_+1=>0
 |n+1,k+1=>nH n k+nH n (k+1)
def JZ(n:K):nH n 0=1:=by cases n<;>rfl
def ax(n k:K):nH (n+1) (k+1)=nH n k+nH n (k+1):=O
def Ft:∀n k,n<k->nH n k=0
 |0,0,h=>wl h<|Nat.lt_irrefl _
 |0,k+1,_=>rfl
 |n+1,0,h=>wl h<|xbf _
 |n+1,k+1,h=>by rw[ax,Ft n k W,Ft n (k+1) W]
def OJ:∀n,nH n n=1
 |0=>rfl
 |n+1=>by rw[ax,OJ n,Ft n (n+1) W]
def zcK:∀n k,(k+1)*nH (n+1) (k+1)=(n+1)*nH n k
 |0,0=>rfl
 |0,k+1=>by skip;rfl
 |n+1,0=>by
  have h:=zcK n 0;rw[JZ]at h;rw[ax,JZ];lia
 |n+1,k+1=>by
  have h1:=zcK n k;have a:=zcK n<|k+1;have b:=ax n k;rw[ax (n+1)<|k+1];grind
def zsV(a:J):∀n,(a+1)^n=yA (n+1) (λk=>(nH n k:J)*a^k)
 |0=>by
  show _=(0:J)+((1:K):J)*a^0;simp_all
 |n+1=>by
  have e1:yA (n+1+1) (λk=>(nH (n+1) k:J)*a^k)=1+(yA (n+1) (λk=>a*((nH n k:J)*a^k))+yA (n+1) (λk=>(nH n (k+1):J)*a^(k+1))):=by
   rw[ZO,<-Vv];congr 1
   ·show((nH (n+1) 0:K):J)*a^0=1;rw[JZ,xbD];rfl
   ·exact yH λk _=>by rw[ax,xeT,Int.add_mul,xbo,<-xcv,<-xcv,xaX (_*a^k) a,<-xcv]
  have b:yA (n+1) (λk=>(nH n k:J)*a^k)=1+yA (n+1) (λk=>(nH n (k+1):J)*a^(k+1)):=by
   have h:yA (n+1+1) (λk=>(nH n k:J)*a^k)=yA (n+1) (λk=>(nH n k:J)*a^k):=by
    show yA (n+1) _+((nH n (n+1):K):J)*a^(n+1)=_;rw[Ft n (n+1) W];lia
   rw[<-h,ZO];congr 1;rw[JZ,xbD];rfl
  rw[e1,Ya,xbo,zsV a n,xfg,xci,xaX _ a];lia
def zkk{p x y:K}(hp:2<=p)(hn:kQ p)(h0:0<x)(h1:x<p)(h:p∣x*y):p∣y:=
 Nat.Coprime.dvd_of_dvd_mul_left (tn hp hn h0 h1) h
def zja{p k:K}(hp:2<=p)(hn:kQ p)(h0:0<k:=by lia)(h1:k<p:=by lia):p∣nH p k:=by
 obtain⟨q,rfl⟩:∃q,p=q+1:=⟨p-1,W⟩;obtain⟨j,rfl⟩:∃j,k=j+1:=⟨k-1,W⟩;exact zkk hp hn h0 h1 ⟨nH q j,zcK q j⟩
def ze6{p:K}(hp:2<=p)(hn:kQ p)(a:J):(a+1)^p%p=(a^p+1)%p:=by
 obtain⟨q,rfl⟩:∃q,p=q+1:=⟨p-1,W⟩;rw[zsV];show(yA (q+1) _+((nH (q+1) (q+1):K):J)*a^(q+1))%_=_;rw[OJ,ZO];have hd:((q+1:K):J)∣yA q (λk=>(nH (q+1) (k+1):J)*a^(k+1)):=ry λk b=>
  xbu (xde.2<|zja hp hn) (xck _ _)
 have⟨c,hc⟩:=hd;rw[JZ];have e:1*1+((q+1:K):J)*c+1*a^(q+1)=a^(q+1)+1+((q+1:K):J)*c:=W
 simp_all
def zg5{p:K}(hp:2<=p)(hn:kQ p):∀a:K,(a:J)^p%p=a%p
 |0=>by rw[show((0:K):J)=0 from O,Int.zero_pow W]
 |a+1=>by rw[xeT,show((1:K):J)=1 from O,ze6 hp hn,xdq,zg5 hp hn a,<-xdq]
def OO{p:J}(hp:wB p=I){a:J}(h0:0<a)(h1:a<p):(a^(p-2).toNat*a)%p=1:=by
 have⟨f,g⟩:=zp hp;have hn:=Wa hp;obtain⟨P,rfl⟩:=xat (W:0<=p);obtain⟨A,rfl⟩:=xat (W:0<=a);have b:2<=P:=W
 have h:=zg5 b hn A;obtain⟨Q,rfl⟩:∃Q,P=Q+2:=⟨P-2,W⟩;rw[(W:(((Q+2:K):J)-2).toNat=Q)];have e:(A:J)^(Q+2)-A=A*((A:J)^Q*A-1):=by grind
 have hd:((Q+2:K):J)∣(A:J)*((A:J)^Q*A-1):=by
  rw[<-e];exact xaA<|xaC.1 h
 have c:Int.gcd ((Q+2:K):J) (A:J)=1:=tn b hn;have d:=zeJ c hd;have i:=xaC.2<|xaq d;assumption
section
variable{fu:zV}{p a x:zI}{l b:zC zI}
theorem GF(c:3000000<=fu):w7 fu p=Z (if wB p=I then 0 else 1):=by grind [w7,U,eh]
def vo(hp:wB p=I)(c:3000000<=fu:=by lia):w7 fu p=Z 0:=by
 rw[GF c,S hp]
theorem rE(h1:1<=p)(d:p<=65521)(e:Um a):JV fu a p=Z (a%p):=by
 unfold JV;have f:=yz (a:=a) (p:=p);have c:=zey (a:=a) (p:=p);rw[zA,yM,Q];by_cases h:xbn a p<0
 ·rw[S h]at c;rw[S h,zb,c]
 ·grind
def oC{n:K}{f:Pz}(h:x=f n):zl n f++[x]=zl (n+1) f:=by rw[h];exact zrH
def vE(h1:1<=p)(e:p<=65521)(g:Rl l)(hl:X l<=1000000)(j:3000000<=fu):yI fu l p=Z (pm p l):=by
 unfold yI;have hd:=qH (λk=>ci l k%p) (X l);rw[U (v:=zl (X l)<|λk=>ci l k%p)]
 ·rw[U (v:=((dg (λk=>ci l k%p) (X l):K):J))]
  ·rw[yU,xi (by rw[zF];exact hd),Q,MZ hd];rfl
  ·rw[zF];refine zt (λt:J=>∃m:K,m<=X l/\t=(m:J)/\dg (λk=>ci l k%p) m=dg (λk=>ci l k%p) (X l)) (λt=>t.toNat) _ ?_ _ _ ⟨X l,eZ _,O,O⟩ W;rintro t L ⟨m,n,rfl,c⟩ d;unfold nk
   cases m with
   |zero=>
    rw[zA,<-c];rfl
   |succ m=>
    rw[zS,(W:((m+1:K):J)-1=(m:J)),zb,zo (by rw[zF];lia),Q,jE];by_cases h0:ci l m%p=0
    ·rw[S h0,zb];exact d _ ⟨m,W,O,by rw[<-fZ (f:=λk=>ci l k%p) h0,c]⟩ W
    ·rw[ir h0,<-c,a8 (f:=λk=>ci l k%p) h0]
 ·refine zt (λs:N J×J=>∃i:K,i<=X l/\s=(zl i<|λk=>ci l k%p,(i:J))) (λs=>X l-s.2.toNat) _ ?_ _ _ ⟨0,sB _,O⟩ (by show X l-0<fu;lia);rintro s L ⟨i,hi,rfl⟩ d;unfold mg;simp only;by_cases h:i<X l
  ·rw[zS,zo h,Q,YU,U<|rE h1 e<|g i,xi (by rw[zF];simp;lia),Q,oC (f:=λk=>ci l k%p) O,zb];exact d _ ⟨i+1,W,O⟩ (by show X l-((i:J)+1).toNat<X l-(i:J).toNat;lia)
  ·rw[zA];obtain rfl:i=X l:=W
   rfl
def W4(hp:wB p=I)(h:Fp p l)(hl:X l<=1000000:=by lia)(d:3000000<=fu:=by lia):yI fu l p=Z l:=by
 have⟨e,c⟩:=zp hp;rw[vE W c (h.rl c) hl d,h.pm]
def Bf{j:K}:bf fu l (j:J)=Z (ci l j):=by
 unfold bf;by_cases h:j<X l
 ·rw[zS,zo h];rfl
 ·rw[zA,zW W]
def sD{a:N J}{c:J}(hp:wB p=I)(m:Rl a)(o:Rl b)(hc: -65521<=c/\c<=65521)(u:X a<=100000)(hl:X b<=100000)(e:3000000<=fu):Wh fu a b c p=Z (vT p (pm p a) (pm p b) c):=by
 have⟨w,g⟩:=zp hp;unfold Wh;rw[U<|vE W g m W e,U<|vE W g o W e];have d:=mj (p:=p) W a;have h:=mj (p:=p) W b;have l1:=zbp p a;have y:=zbp p b;generalize pm p a=a at*
 generalize pm p b=b at*
 have⟨n,hn⟩:∃n,n=max (X a) (X b):=⟨_,O⟩;have q:∀k,n<=k->ci a k+c*ci b k=0:=λk j=>by rw[zW W,zW W,xaw];rfl
 have hd:∀k,-4293001441<=c*ci b k/\c*ci b k<=4293001441:=λk=>by
  have b1:=h.nn k;have b2:=h.lt k;have h1:c*ci b k<=65521*ci b k:=xbg W b1;have z: -65521*ci b k<=c*ci b k:=xbg W b1;lia
 rw[U (v:=zl n<|λk=>ci a k+c*ci b k)]
 ·have r:Rl (zl n<|λk=>ci a k+c*ci b k):=λk=>by
   rw[qP q];have:=hd k;have:=d.nn k;have:=d.lt k;exact⟨W,W⟩
  rw[U<|vE W g r (by rw[zF];lia) e];congr 1;unfold pm vT;rw[zF,<-hn];exact sj λk j=>by rw[km j]
 ·refine zt (λs:N J×N J×N J×J=>∃i:K,i<=n/\s=(a,b,zl i<|λk=>ci a k+c*ci b k,(i:J))) (λs=>n-s.2.2.2.toNat) _ ?_ _ _ ⟨0,sB _,O⟩ (by show n-0<fu;lia);rintro s L ⟨i,hi,rfl⟩ t;unfold A6;simp only;rw[Q,(W:max (X a:J) (X b:J)=(n:J))];by_cases A:i<n
  ·have:=hd i;have:=d.nn i;have:=d.lt i;rw[zS,U Bf,U Bf,zb,zb,xi (by rw[zF];simp;lia),Q,oC (f:=λk=>ci a k+c*ci b k) O,zb];exact t _ ⟨i+1,W,O⟩ (by show n-((i:J)+1).toNat<n-(i:J).toNat;lia)
  ·rw[zA];obtain rfl:i=n:=W
   rfl
def SB{a:N J}{c:J}(hp:wB p=I)(d:Fp p a)(e:Fp p b)(hc: -65521<=c/\c<=65521)(hd:X a<=100000)(g:X b<=100000)(h:3000000<=fu):Wh fu a b c p=Z (vT p a b c):=by
 have⟨i,f⟩:=zp hp;rw[sD hp (d.rl f) (e.rl f) hc hd g h,d.pm,e.pm]
def YB{a:N J}(hp:wB p=I)(f:Fp p a)(h:Fp p b)(hc:X a<=100000)(hd:X b<=100000)(q:3000000<=fu):xH fu a b p=Z (yS p a b):=by
 have⟨z,o⟩:=zp hp;unfold xH;have⟨n,hn⟩:∃n,n=X a+X b:=⟨_,O⟩;rw[U<|W4 hp f,U<|W4 hp h,zb,(W:(X a:J)+(X b:J)=(n:J)),yU,yM,Q,fc,U (v:=zl n<|λk=>Tb (ci a) (ci b) (X a) k%p)]
 ·have r:∀k,n<=k->Tb (ci a) (ci b) (X a) k%p=0:=λk d=>by rw[Eh<|λj c=>zW c,ug (λj c=>zW c)<|λj c=>zW c,xae]
  have t:Rl (zl n<|λk=>Tb (ci a) (ci b) (X a) k%p):=λk=>by
   rw[qP r];have:=yz (a:=Tb (ci a) (ci b) (X a) k) (p:=p);exact⟨W,W⟩
  rw[U<|vE W o t (by rw[zF];lia) q];congr 1;unfold pm yS;rw[zF,<-hn];exact sj λk d=>by rw[km d,xay,Eh<|λj c=>zW c]
 ·refine zt (λs:J×N J×N J×N J=>∃i:K,i<=X a/\s=((i:J),a,b,zl n<|λk=>Tb (ci a) (ci b) i k%p)) (λs=>X a-s.1.toNat) _ ?_ _ _ ⟨0,sB _,by rw[yR (g:=λk=>Tb (ci a) (ci b) 0 k%p) λk _=>by show(0:J)=0%p;rw[xae]];rfl⟩ (by show X a-0<fu;lia);rintro s L ⟨i,hi,rfl⟩ u;unfold mG;simp only;by_cases w:i<X a
  ·rw[zS,U (v:=(p,zl n<|λk=>Tb (ci a) (ci b) (i+1) k%p))]
   ·simp only;rw[zb];exact u _ ⟨i+1,W,O⟩ (by show X a-((i:J)+1).toNat<X a-(i:J).toNat;lia)
   ·refine zt (λs:J×J×N J=>∃j:K,j<=X b/\s=(p,(j:J),zl n<|λk=>Ec (ci a) (ci b) i j k%p)) (λs=>X b-s.2.1.toNat) _ ?_ _ _ ⟨0,sB _,by rw[yR λk _=>by rw[<-zbt]];rfl⟩ (by show X b-0<fu;lia);rintro s A ⟨j,c,rfl⟩ m;unfold mo;simp only;by_cases y:j<X b
    ·have e:(i:J)+(j:J)=((i+j:K):J):=W
     have r1:=yz (a:=Ec (ci a) (ci b) i j<|i+j) (p:=p);have⟨r2,B⟩:=Yo o (f.nn i) (f.lt i) (h.nn j)<|h.lt j;rw[zS,e,zb,zb,zo (by rw[zF];lia),Q,jE,zo w,Q,zo y,Q,YU,YU,zb,zb,yM,Q,kZ,zo (by rw[zF];lia),Q,Zx,zb];exact m _ ⟨j+1,W,by rw[yR λk _=>zbb (ci a) (ci b) p i j k];rfl⟩ (by show X b-((j:J)+1).toNat<X b-(j:J).toNat;lia)
    ·rw[zA];obtain rfl:j=X b:=W
     rw[yR λk _=>by rw[zbC<|λk d=>zW d]]
  ·rw[zA];obtain rfl:i=X a:=W
   rfl
def zha(x p:J):∀n,(x%p)^n%p=x^n%p
 |0=>by rw[xbD,xbD]
 |n+1=>by rw[xbo,xbo,xaY,zha x p n,xay,<-xaY]
def Sd{n:K}(hp:wB p=I)(r:0<=a)(t:a<p)(hn:n<=1000000)(u:3000000<=fu):dE fu a (n:J) p=Z (a^n%p,0):=by
 have⟨w,f⟩:=zp hp;unfold dE;rw[U<|vo hp,S O,zA,yM,Q,kZ,U<|rE W f ⟨W,W⟩,U (v:=a^n%p)];refine zt (λs:J×J×J=>∃(x y:J) (i:K),s=(x,y,(i:J))/\i<=n/\0<=x/\x<p/\0<=y/\y<p/\(x*y^i)%p=a^n%p) (λs=>s.2.2.toNat) _ ?_ _ _ ⟨1%p,a%p,n,O,eZ _,(yz).1,(yz).2,(yz).1,(yz).2,?_⟩ (by show n<fu;lia)
 ·rintro s L ⟨x,y,i,rfl,hi,g,h,j,k,c⟩ m;unfold AW;simp only;have⟨q1,q2⟩:=Yo f g h j k;have⟨o,A⟩:=Yo f j k j k;have d:=yz (a:=y*y) (p:=p);have hc:=yz (a:=x*y) (p:=p);have hd:xbQ (i:J) 2=((i/2:K):J):=by rw[xcN W];lia
  have q:∀z:J,(z*(y*y%p)^(i/2))%p=(z*(y^(2*(i/2))))%p:=λz=>by rw[xaY,zha,<-xaY,Int.pow_mul,show y^2=y*y from by rw[xbo,xbo,xbD,xcr]]
  by_cases h0:0<i
  ·rw[zS,xi YL,Q,kZ];by_cases h1:i%2=1
   ·rw[zS,zb,yM,Q,kZ q1,zb,yM,Q,kZ o,xi YL,hd,zb];refine m _ ⟨_,_,i/2,O,W,hc.1,hc.2,d.1,d.2,?_⟩ (by show((i/2:K):J).toNat<(i:J).toNat;lia);rw[q,xaY,xay,<-xaY,<-c];congr 1;have e:i=2*(i/2)+1:=W
    conv=>rhs;rw[e]
    rw[xbo,xcv,xaX y]
   ·rw[zA,zb,yM,Q,kZ o,xi YL,hd,zb];refine m _ ⟨_,_,i/2,O,W,g,h,d.1,d.2,?_⟩ (by show((i/2:K):J).toNat<(i:J).toNat;lia);rw[q,<-c];congr 3;lia
  ·rw[zA];obtain rfl:i=0:=W
   rw[xbD,xci,xax g h]at c;rw[c]
 ·rw[xaY,xay,zha,<-xaY,xcr]
def XV(hp:wB p=I)(h0:0<a)(h1:a<p)(g:3000000<=fu):∃x,qA fu a p=Z x/\0<x/\x<p/\(x*a)%p=1:=by
 have⟨h,i⟩:=zp hp;unfold qA;rw[zb];have⟨n,hn⟩:∃n:K,p-2=(n:J):=⟨(p-2).toNat,W⟩;have c:=OO hp h0 h1;rw[hn,xaJ]at c;rw[hn,U<|Sd hp W h1 W g];simp only;have d:=yz (a:=a^n) (p:=p);by_cases e:p=2
 ·rw[S e];refine⟨1,O,YL,W,?_⟩;rw[xcr,xax W h1];lia
 ·rw[ir e];have f:(a^n%p*a)%p=1:=by rw[xaY,xay,<-xaY];exact c
  exact⟨_,O,zjU d.1 f,d.2,f⟩
def zqa{y c:J}(x0:0<=x)(d:x<p)(e:0<=y)(f:y<p)(g:(x*c)%p=1)(h:(y*c)%p=1):x=y:=by
 have h1:(x*(y*c))%p=x:=by rw[xaY,h,xci,xay,xax x0 d]
 have i:(x*(y*c))%p=y:=by rw[show x*(y*c)=y*(x*c)by rw[<-xcv,<-xcv,xaX x y],xaY,g,xci,xay,xax e f]
 lia
end
section
variable{fu:zV}{p x:zI}{b a:zC zI}
theorem zkx{n:K}(hn:n<=1000000)(d:3000000<=fu):zg (eF fu (n:J)) fu (p,x,[],0)=Z (p,x,zl n<|λ_=>0):=by
 refine zt (λs:J×J×N J×J=>∃i:K,i<=n/\s=(p,x,zl i<|λ_=>0,(i:J))) (λs=>n-s.2.2.2.toNat) _ ?_ _ _ ⟨0,sB _,O⟩ (by show n-0<fu;lia);rintro s L ⟨i,hi,rfl⟩ c;unfold eF;simp only;by_cases h:i<n
 ·rw[zS,xi (by rw[zF];simp;lia),Q,oC O,zb];exact c _ ⟨i+1,W,O⟩ (by show n-((i:J)+1).toNat<n-(i:J).toNat;lia)
 ·grind
def prt(b:N J)(c p:J)(n:K):Pz:=λk=>(sh (ci b) n k*c)%p
theorem zin{n:K}{c:J}(hp:1<=p)(e:p<=65521)(d:Fp p b)(hc:0<=c)(j:c<p)(hn:n+X b<=1000000)(m:3000000<=fu):zg (ek fu b c p) fu (zl n<|λ_=>0,0)=Z (zl (n+X b)<|prt b c p n):=by
 refine zt (λs:N J×J=>∃i:K,i<=X b/\s=(zl (n+i)<|prt b c p n,(i:J))) (λs=>X b-s.2.toNat) _ ?_ _ _ ⟨0,sB _,by rw[yR (g:=prt b c p n) λk o=>by unfold prt sh;rw[zA,xaK,xae]];rfl⟩ (by show X b-0<fu;lia);rintro s L ⟨i,hi,rfl⟩ l;unfold ek;simp only;by_cases h:i<X b
 ·have⟨q1,q2⟩:=Yo e (d.nn i) (d.lt i) hc j;rw[zS,zo h,Q,YU,zb,yM,Q,kZ q1,xi (by rw[zF];simp;lia),Q,oC (n:=n+i) (f:=prt b c p n) (by unfold prt sh;rw[zS,(W:n+i-n=i)]),zb];exact l _ ⟨i+1,W,O⟩ (by show X b-((i:J)+1).toNat<X b-(i:J).toNat;lia)
 ·grind
structure D6I(p:J)(a b r:N J)(Q:Pz):Prop where
 fr:Fp p r
 lr:r.length<=a.length
 qr:∀k,0<=Q k/\Q k<p
 ql:∀k,k+b.length<=r.length->Q k=0
 qz:∀k,a.length<=k->Q k=0
 cg:Cg p (ci a) (Q*ci b+ci r)
def D6I.step{r:N J}{Q:Pz}(hp:1<=p)(h:D6I p a b r Q)(m:0<X b)(f:(x*ci b (X b-1))%p=1)(hl:X b<=X r):
 X (vT p r (pm p<|zl (X r-X b+X b)<|prt b (ci r (X r-1)*x%p) p<|X r-X b) (-1))<X r/\
 D6I p a b (vT p r (pm p<|zl (X r-X b+X b)<|prt b (ci r (X r-1)*x%p) p<|X r-X b) (-1)) (Xg Q (X r-X b)<|ci r (X r-1)*x%p):=by
 have⟨c,hc⟩:∃c,c=ci r (X r-1)*x%p:=⟨_,O⟩;have⟨n,hn⟩:∃n,n=X r-X b:=⟨_,O⟩;rw[<-hc,<-hn];have e:=yz (a:=ci r (X r-1)*x) (p:=p);rw[<-hc]at e;have o:=h.lr;have g:∀k,n+X b<=k->prt b c p n k=0:=λk d=>by
  unfold prt sh;rw[zS,zW (l:=b) W,xaK,xae]
 have hd:∀k,ci (vT p r (pm p<|zl (n+X b)<|prt b c p n) (-1)) k=(ci r k-c*sh (ci b) n k)%p:=λk=>by
  rw[Ny,E4,qP g];unfold prt;rw[xay,xaX c];refine xaC.2<|xaq ⟨sh (ci b) n k*c/p,?_⟩;have:=xfq (sh (ci b) n k*c) p;lia
 have i:X (vT p r (pm p<|zl (n+X b)<|prt b c p n) (-1))<X r:=by
  have:=(YH (p:=p) W r (pm p<|zl (n+X b)<|prt b c p n) (-1)).nl.le (n:=X r-1) λk d=>by
   rw[hd];by_cases j:k=X r-1
   ·unfold sh;rw[zS,(W:k-n=X b-1),hc,j,xfp,xaY,xay,<-xaY,xcv,xaY _<|x*_,f,xci,xay,<-xfp,xdL,xae]
   ·unfold sh;rw[zW (l:=r) W,zS,zW (l:=b) W,xaw,xcy,xae]
  lia
 refine⟨i,YH W _ _ _,W,λk=> ?_,λk d=> ?_,λk d=> ?_,?_⟩
 ·unfold Xg;split
  ·exact e
  ·exact h.qr k
 ·unfold Xg;rw[zA];exact h.ql k W
 ·unfold Xg;rw[zA];exact h.qz k d
 ·have hi:Xg Q n c=Q+(mono n c:Pz):=wu λk=>by
   rw[zG];unfold Xg mono;by_cases d:k=n
   ·rw[S d,S d,h.ql k W,xco]
   ·rw[ir d,ir d,xby]
  refine h.cg.trans λk=> ?_;rw[hi,yu,zG,zG,zG,qF,xdq<|_+_,hd,xay,<-xdq];congr 1;lia
def pX(hp:wB p=I)(i:Fp p a)(c:Fp p b)(m:0<X b)(A:X a<=90000)(B:X b<=90000)(d:3000000<=fu):
 ∃q r,Yg fu a b p=Z (q,r,0)/\Fp p q/\Fp p r/\Cg p (ci a) (ci q*ci b+ci r)/\X r<X b/\X q<=X a:=by
 have⟨C,e⟩:=zp hp;unfold Yg;have hn:ci b (X b-1)≠0:=by
  obtain h|h:=c.nl
  ·lia
  ·exact h
 have t1:=c.nn<|X b-1;have t2:=c.lt<|X b-1;have⟨x,e1,n,o,t⟩:=XV (fu:=fu) hp (W:0<ci b (X b-1)) t2 d;rw[U<|vo hp,S O,U<|W4 hp c,zA,U<|W4 hp i,(W:(X a:J)+1=((X a+1:K):J)),zb,yU,yM,ze,(W:(X b:J)-1=((X b-1:K):J)),zb,yc,ze,YU,U e1]
 have hc:=yb (f:=dM fu p x) (λs:N J×N J×N J=>∃(r:N J) (Q:Pz),s=(r,b,zl (X a+1) Q)/\D6I p a b r Q) (λs=>X s.1)
  (λs=>∃(r:N J) (Q:Pz),s=(r,zl (X a+1) Q)/\D6I p a b r Q/\X r<X b) (by
   rintro s L ⟨r,Q,rfl,h⟩ u;unfold dM;simp only;have D:=h.lr;by_cases h1:X b<=X r
   ·have⟨v,w⟩:=h.step W m t h1;have⟨q1,q2⟩:=Yo e (h.fr.nn<|X r-1) (h.fr.lt<|X r-1) (xds n) o;have hd:=yz (a:=ci r (X r-1)*x) (p:=p);have y:Rl (zl (X r-X b+X b)<|prt b (ci r (X r-1)*x%p) p<|X r-X b):=λk=>by
     by_cases g:k<X r-X b+X b
     ·rw[km g];unfold prt;have:=yz (a:=sh (ci b) (X r-X b) k*(ci r (X r-1)*x%p)) (p:=p);exact⟨W,W⟩
     ·rw[zW<|by rw[zF];lia];exact⟨YL,YL⟩
    rw[zS,(W:(X r:J)-(X b:J)=((X r-X b:K):J)),zb,(W:(X r:J)-1=((X r-1:K):J)),zb,yc,ze,YU,zb,yM,ze,kZ q1,zo (by rw[zF];lia),ze,Zx,U<|zkx W d];simp only;rw[U<|zin W e c hd.1 hd.2 W d,U<|sD hp (h.fr.rl e) y W W (by rw[zF];lia) d,h.fr.pm];exact u _ ⟨_,_,O,w⟩ v
   ·rw[zA];exact⟨_,O,r,Q,O,h,W⟩)
  fu (a,b,sR (X a+1) 0) ⟨a,λ_=>0,by rw[fc],i,eZ _,λk=>⟨xfh _,W⟩,λ_ _=>O,λ_ _=>O,Cg.of (by
   funext k;rw[zG,show((λ_=>0:Pz))=pc 0 from wu λj=>(zE j).symm,zT,zE,xco])⟩ (by show X a<fu;lia)
 obtain⟨_,hi,r,Q,rfl,h,hl⟩:=hc;rw[U hi];simp only;have z:Rl (zl (X a+1) Q):=λk=>by
  rw[qP λj l=>h.qz j W];have:=h.qr k;exact⟨W,W⟩
 rw[U<|vE W e z (by rw[zF];lia) d];refine⟨_,_,O,mj W _,h.fr,?_,hl,?_⟩
 ·exact h.cg.trans<|Cg.add (Cg.mul (Cg.symm<|(zaY p _).trans<|Cg.of<|funext (qP λj l=>h.qz j W)) Cg.rfl) Cg.rfl
 ·exact(mj (p:=p) W<|zl (X a+1) Q).nl.le λk g=>by rw[E4,qP (λj l=>h.qz j W),h.qz k g,xae]
structure zoG(p:J)(a m:N J):Prop where
 fm:Fp p m
 ln:m.length=a.length
 top:ci m (m.length-1)=1
 cg:∃x y:J,Cg p (ci m) (pc x*ci a)/\Cg p (ci a) (pc y*ci m)
def DN(hp:2<=p)(g:Fp p a)(hd:0<X a)(d:(x*ci a (X a-1))%p=1):zoG p a (yS p a [x]):=by
 have c:∀k,ci (yS p a [x]) k=(x*ci a k)%p:=λk=>by rw[iF,va,zk,zU]
 have hc:X (yS p a [x])=X a:=by
  refine xcH ((vv W _ _).nl.le λk f=> ?_)<|xbl λh=> ?_
  ·rw[c,zW f,xaw,xae]
  ·have e:=c<|X a-1;rw[d,zW W]at e;cases e
 have h1:Cg p (ci<|yS p a [x]) (pc x*ci a):=λk=>by rw[c,zU,xay]
 refine⟨vv W _ _,hc,by rw[hc,c,d],x,ci a<|X a-1,h1,?_⟩;refine Cg.symm<|(Cg.rfl.mul h1).trans ?_;rw[<-zd];refine Cg.trans (Cg.mul (λk=> ?_) Cg.rfl)<|Cg.of<|zB _;rw[uk,xaX];unfold pc;split
 ·rw[d];exact(xax YL W).symm
 ·rfl
def zj8(hp:wB p=I)(c:3000000<=fu):w8 fu [] p=Z ([],0):=by
 have⟨d,e⟩:=zp hp;unfold w8;rw[U<|vo hp,S O,U (W4 hp (eJ) Xn),S (show((X ([]:N J):K):J)=0 from O)]
def QG(hp:wB p=I)(c:Fp p a)(hc:0<X a)(hd:X a<=90000)(x0:0<x)(f:x<p)(g:(x*ci a (X a-1))%p=1)(d:3000000<=fu:=by lia):w8 fu a p=Z (yS p a [x],0):=by
 have k:ci a (X a-1)≠0:=by
  obtain h|h:=c.nl
  ·lia
  ·exact h
 have t1:=c.nn<|X a-1;have⟨y,e1,i,e,j⟩:=XV hp (W:0<ci a (X a-1)) (c.lt _) d;obtain rfl:=zqa W f W e g j;unfold w8;rw[U<|vo hp,S O,U<|W4 hp c,zA,(W:X a-1=((X a-1:K):J)),zb,yc,Q,YU,U e1,U<|YB hp c (ZA i e) W Xn d]
def EH(hp:wB p=I)(d:3000000<=fu):vQ fu [] p=Z ([],0):=by
 have⟨e,c⟩:=zp hp;unfold vQ;rw[U<|Zm hp,S O,U<|zQ W c ((eJ).rl c) Xn d,(eJ).pm,S (show((X ([]:N J):K):J)=0 from O)]
def YQ(hp:wB p=I)(c:Fp p a)(hd:0<X a:=by lia)(g:X a<=90000:=by lia)(d:3000000<=fu:=by lia):∃x,0<x/\x<p/\(x*ci a (X a-1))%p=1/\vQ fu a p=Z (yS p a [x],0):=by
 have⟨k,f⟩:=zp hp;have hc:ci a (X a-1)≠0:=by
  obtain h|h:=c.nl
  ·lia
  ·exact h
 have t1:=c.nn<|X a-1;have⟨x,x0,i,j,_,e⟩:=dn (fu:=fu) hp c (W:0<ci a (X a-1)) (c.lt _) g d;refine⟨x,x0,i,j,?_⟩;unfold vQ;rw[U<|Zm hp,S O,U<|zQ W f (c.rl f) W d,c.pm,zA,(W:(X a:J)-1=((X a-1:K):J)),zb,yc,Q,YU,U e]
end
section
variable{N fu:zV}{p:zI}{g h r0 s0 t0 r1 s1 t1 q:zC zI}
theorem zpA(p:J)(a b:zC J):vT p a b (-1)=vT p a b (p-1):=by
 refine sj λk _=> ?_;refine xaC.2<|xaq ⟨-ci b k,?_⟩;grind
def BzI.next(a:BzI p g h r0 s0 t0 r1 s1 t1 N)(j:2<=p)(l:Fp p q)(hc:X q<=N)(c:Cg p (ci r0) (ci q*ci r1+ci (vT p r0 (yS p q r1)<|p-1)))(hd:X (vT p r0 (yS p q r1)<|p-1)<X r1):
 BzI p g h r1 s1 t1 (vT p r0 (yS p q r1)<|p-1) (vT p s0 (yS p q s1)<|p-1) (vT p t0 (yS p q t1)<|p-1) N:=by
 have m:=a.l0;have e:=a.l1;have n:=a.b0;have o:=a.b1;have hi:=a.b2;have r:=a.b3;refine⟨a.f1,a.g1,a.h1,YH W _ _ _,YH W _ _ _,YH W _ _ _,a.c1,?_,?_,e,W,?_,?_,?_,?_⟩
 ·refine(YE _ _).trans<|(a.c0.sub<|(jD p q r1).trans<|Cg.rfl.mul a.c1).trans ?_;refine Cg.trans (Cg.of ?_)<|Cg.symm (((YE s0<|yS p q s1).trans<|Cg.rfl.sub<|jD p q s1).mul (Cg.rfl (f:=ci g))|>.add (((YE t0<|yS p q t1).trans<|Cg.rfl.sub<|jD p q t1).mul<|Cg.rfl (f:=ci h)));simp only[xu,yu,ve,ji,zd];funext k;simp only[zG,yT];lia
 ·have⟨A,B,C,D,d,z2,z3,z4,d1,d2⟩:=a.dv;refine⟨A*ci q+B,A,C*ci q+D,C,(d.mul<|Fs.ci q).add z2,d,(z3.mul<|Fs.ci q).add z4,z3,?_,?_⟩
  ·refine d1.trans<|((Cg.rfl (f:=A)).mul c|>.add Cg.rfl).trans<|Cg.of ?_;simp only[xu,yu,zd];funext k;simp only[zG];lia
  ·refine d2.trans<|((Cg.rfl (f:=C)).mul c|>.add Cg.rfl).trans<|Cg.of ?_;simp only[xu,yu,zd];funext k;simp only[zG];lia
 ·have:N*(N+1-X r1)<=N*(N+1-X (vT p r0 (yS p q r1)<|p-1)):=xas _ W;lia
 ·have:N*(N+1-X r1)<=N*(N+1-X (vT p r0 (yS p q r1)<|p-1)):=xas _ W;lia
 ·have h1:=tz p s0 (yS p q s1)<|p-1;have i:=vy p q s1;have b:N*(N+1-X r1+1)<=N*(N+1-X (vT p r0 (yS p q r1)<|p-1)):=xas _ W;rw[xbV,xdl]at b;lia
 ·have h1:=tz p t0 (yS p q t1)<|p-1;have i:=vy p q t1;have b:N*(N+1-X r1+1)<=N*(N+1-X (vT p r0 (yS p q r1)<|p-1)):=xas _ W;rw[xbV,xdl]at b;lia
def zeQ(hp:wB p=I)(c:Fp p r0)(hc:Fp p s0)(hd:Fp p t0)(d:Fp p r1)(e:Fp p s1)(f:Fp p t1)(j:Fp p q)(v:X q<=300)(l1:X r0<=90000)(k:X s0<=90000)(l:X t0<=90000)(m:X r1<=90000)(o:X s1<=90000)(r:X t1<=90000)(a:3000000<=fu):
 zg (jb fu [r0,s0,t0] [r1,s1,t1] q) fu (p,[],((0:K):J))=Z (p,[vT p r0 (yS p q r1)<|p-1,vT p s0 (yS p q s1)<|p-1,vT p t0 (yS p q t1)<|p-1]):=by
 have⟨w,z⟩:=zp hp;have⟨n,hn⟩:∃n,fu=n+4:=⟨fu-4,W⟩
 have step:∀(L:J×zC (zC J)×J->V (J×zC (zC J))) (i:K) (x y:zC J) (ts:zC (zC J)),i<3->X ts=i->[r0,s0,t0].getD i []=x->[r1,s1,t1].getD i []=y->Fp p x->Fp p y->X x<=90000->X y<=90000->
  jb fu [r0,s0,t0] [r1,s1,t1] q L (p,ts,(i:J))=L (p,ts++[vT p x (yS p q y)<|p-1],((i+1:K):J)):=λL i x y ts hi A s t u hl B C=>by
  unfold jb;simp only;have f4:=vy p q y;rw[zS,zo (n:=[r0,s0,t0].length) hi,Q,s,zo (n:=[r1,s1,t1].length) hi,Q,t,U<|YB hp j hl W W a,U<|SB hp u (vv W _ _) W W W a,zpA,xi (by simp;lia),Q,zb];rfl
 have b:zg (jb fu [r0,s0,t0] [r1,s1,t1] q) (n+4) (p,[],((0:K):J))=Z (p,[vT p r0 (yS p q r1)<|p-1,vT p s0 (yS p q s1)<|p-1,vT p t0 (yS p q t1)<|p-1]):=by
  rw[w6,step _ 0 r0 r1 _ YL O O O c d l1 m,w6,step _ 1 s0 s1 _ YL O O O hc e k o,w6,step _ 2 t0 t1 _ YL O O O hd f l r,w6];rfl
 rw[<-hn]at b;exact b
def BzI.step06(a:BzI p g h r0 s0 t0 r1 s1 t1 N)(hp:wB p=I)(f:N<=290)(i:0<X r1)(c:3000000<=fu):
 ∃q r r2 d t2,Yg fu r0 r1 p=Z (q,r,0)/\zg (jb fu [r0,s0,t0] [r1,s1,t1] q) fu (p,[],((0:K):J))=Z (p,[r2,d,t2])/\X r2<X r1/\BzI p g h r1 s1 t1 r2 d t2 N:=by
 have⟨j,m⟩:=zp hp;have n:1+N*(N+1-X r1)<=90000:=by
  have:N*(N+1-X r1)<=290*290:=xbp f W;lia
 have o:=a.l0;have hi:=a.l1;have s:=a.b0;have t:=a.b1;have hl:=a.b2;have u:=a.b3;have⟨q,r,e1,e,l,hc,hd,hn⟩:=pX (fu:=fu) hp a.f0 a.f1 i W W c;have b:vT p r0 (yS p q r1) (p-1)=r:=by
  refine Fp.ext (YH W _ _ _) l<|(YE r0<|yS p q r1).trans ?_;refine(hc.sub<|jD p q r1).trans<|Cg.of ?_;funext k;simp only[zG,yT];lia
 exact⟨q,r,_,_,_,e1,zeQ hp a.f0 a.g0 a.h0 a.f1 a.g1 a.h1 e W W W W W W W c,by rw[b];exact hd,a.next j e W (by rw[b];exact hc)<|by rw[b];exact hd⟩
def zhz(hp:wB p=I)(e:N<=290)(i:3000000<=fu)(a:BzI p g h r0 s0 t0 r1 s1 t1 N):
 ∃d s t,zg (YG fu p) fu ([r0,s0,t0],[r1,s1,t1])=Z [d,s,t]/\BzR p g h d s t (1+N*(N+1)):=by
 obtain⟨r,e1,d,s,t,rfl,j⟩:=yb (f:=YG fu p) (λx:zC (zC J)×zC (zC J)=>∃r0 s0 t0 r1 s1 t1,x=([r0,s0,t0],[r1,s1,t1])/\BzI p g h r0 s0 t0 r1 s1 t1 N) (λx=>X (x.2.getD 0 [])) (λr=>∃d s t,r=[d,s,t]/\BzR p g h d s t (1+N*(N+1))) (by
  rintro x L ⟨r0,s0,t0,r1,s1,t1,rfl,a⟩ l;unfold YG;simp only;rw[show(0:J)=((0:K):J)from O,zo Xn,Q];show∃r,(if((0:K):J)<(X r1:J)then _ else _)=Z r/\_;by_cases h0:0<X r1
  ·have⟨q,r,r2,u,t2,m,n,hc,hd⟩:=a.step06 (fu:=fu) hp e h0 i;rw[zS,zo Xn,Q,zo Xn,Q];show∃r,Y (Yg fu r0 r1 p) _=Z r/\_;rw[U m];simp only;rw[U n];exact l _ ⟨_,_,_,_,_,_,O,hd⟩ hc
  ·rw[zA];have b:ci r1=pc 0:=wu λk=>by rw[zW W,zE]
   have c:1+N*(N+1-X r1)<=1+N*(N+1):=by
    have:N*(N+1-X r1)<=N*(N+1):=xas _ W;lia
   have v:=a.l0;have hi:N*1<=N*(N+1):=xas _ W;refine⟨_,O,r0,s0,t0,O,a.f0,a.g0,a.h0,a.c0,?_,W,PX a.b0 c,PX a.b1 c⟩;have⟨A,B,C,D,o,z2,z3,z4,d1,d2⟩:=a.dv;rw[b,zk B,zT]at d1;rw[b,zk D,zT]at d2;refine⟨A,C,o,z3,d1.trans<|Cg.of ?_,d2.trans<|Cg.of ?_⟩<;>funext k<;>rw[zG,zE,xby]) fu ([r0,s0,t0],[r1,s1,t1]) ⟨_,_,_,_,_,_,O,a⟩ (by have:=a.l1;show X r1<fu;lia)
 exact⟨d,s,t,e1,j⟩
def zdc:ci ([]:zC J)=pc 0:=wu λk=>by rw[zW<|sB _,zE]
theorem EA(hp:wB p=I)(v:Fp p g)(w:Fp p h)(hi:X g<=290)(P:X h<=290)(o:3000000<=fu):
 ∃d s t,Vq fu g h p=Z (d,s,t,0)/\BzR p g h d s t (2+max (X g) (X h)*(max (X g) (X h)+1))/\(X d=0\/ci d (X d-1)=1):=by
 have⟨z,R⟩:=zp hp;unfold Vq;rw[U<|vo hp,iq O,U<|W4 hp v,U<|W4 hp w];have z0:=zdc;have c:∀f:Pz,f+pc 0=f:=λf=>wu λk=>by rw[zG,zE,xby]
 have e:∀f:Pz,pc 0+f=f:=λf=>wu λk=>by rw[zG,zE,xco]
 have B:BzI p g h g [1] [] h [] [1] (max (X g) (X h)):=by
  refine⟨v,ZA,eJ,w,eJ,ZA,Cg.of ?_,Cg.of ?_,⟨pc 1,pc 0,pc 0,pc 1,Fs.pc 1,Fs.pc 0,Fs.pc 0,Fs.pc 1,Cg.of ?_,Cg.of ?_⟩,xdP _ _,xdB _ _,xbt _ _,sB _,sB _,xbt _ _⟩
  ·rw[va,z0,zB,zT,c]
  ·rw[va,z0,zB,zT,e]
  ·rw[zB,zT,c]
  ·rw[zB,zT,e]
 have⟨d,s,t,e1,b⟩:=zhz (fu:=fu) hp W o B;have T:max (X g) (X h)*(max (X g) (X h)+1)<=290*291:=xbp W W;generalize max (X g) (X h)*(max (X g) (X h)+1)=S at*
 rw[U e1,show(0:J)=((0:K):J)from O,zo Xn,Q];show∃i j l,(if(X d:J)=((0:K):J)then _ else _)=_/\_;by_cases h0:0<X d
 ·have V:=b.dl;have he:ci d (X d-1)≠0:=by
   obtain h|h:=b.df.nl
   ·lia
   ·exact h
  have t1:=b.df.nn<|X d-1;have t2:=b.df.lt<|X d-1;have⟨x,D,G,H,y⟩:=XV (fu:=fu) hp (W:0<ci d (X d-1)) t2 o;have r:∀{a:zC J},Fp p a->X a<=90000->xH fu a [x] p=Z (yS p a [x]):=λ{a} L hl=>YB hp L (ZA G H) W Xn o;rw[zA,zo Xn,Q,zo Xn,Q];show∃i j l,E ((X d:J)-1) _=_/\_;rw[(W:(X d:J)-1=((X d-1:K):J)),zb];show∃i j l,zH ((X d-1:K):J) (X d) _=_/\_;rw[yc,Q];show∃i j l,Y (qA fu (ci d<|X d-1) p) _=_/\_;rw[U D,zo Xn,Q];show∃i j l,Y (xH fu d [x] p) _=_/\_;rw[U (r b.df<|PX b.dl W),show(1:J)=((1:K):J)from O,zo Xn,Q];show∃i j l,Y (xH fu s [x] p) _=_/\_;rw[U (r b.sf<|PX b.sl W),show(2:J)=((2:K):J)from O,zo Xn,Q];show∃i j l,Y (xH fu t [x] p) _=_/\_;rw[U<|r b.tf<|PX b.tl W];have n:∀a:zC J,Cg p (ci<|yS p a [x]) (ci a*pc x):=λa=>by
   have:=jD p a [x];rw[va]at this;exact this
  have hc:Cg p (pc x*pc (ci d<|X d-1)) (pc 1):=λk=>by
   rw[uk];unfold pc;split
   ·rw[y];exact(xax YL W).symm
   ·rfl
  have f1:=vy p d [x];have f2:=vy p s [x];have f3:=vy p t [x];have hm:=b.sl;have hn:=b.tl;simp only[xar,xbA]at f1 f2 f3;have M:=DN z b.df h0 y;refine⟨yS p d [x],yS p s [x],yS p t [x],O,⟨vv W _ _,vv W _ _,vv W _ _,?_,?_,W,W,W⟩,.inr M.top⟩
  ·refine(n d).trans<|(b.cg.mul Cg.rfl).trans<|Cg.trans (Cg.of ?_)<|Cg.symm<|((n s).mul Cg.rfl).add<|(n t).mul Cg.rfl;simp only[xu,yu,zd,zk,zD]
  ·have⟨A,C,u,z3,d1,d2⟩:=b.dv;have m:∀F:Pz,Cg p (F*ci d) (F*pc (ci d<|X d-1)*ci (yS p d [x])):=λF=>by
    refine Cg.symm<|(Cg.rfl.mul<|n d).trans<|Cg.trans (Cg.of ?_)<|((Cg.rfl (f:=F*ci d)).mul hc).trans<|Cg.of<|yp _;simp only[zd,zk,zD]
   exact⟨_,_,u.mul<|Fs.pc _,z3.mul<|Fs.pc _,d1.trans<|m A,d2.trans<|m C⟩
 ·rw[zS];have hd:ci d=pc 0:=wu λk=>by rw[zW W,zE]
  have⟨A,C,u,z3,d1,d2⟩:=b.dv;refine⟨[],[1],[],O,⟨eJ,ZA,eJ,?_,⟨A,C,u,z3,?_,?_⟩,sB _,by simp;lia,sB _⟩,.inl O⟩
  ·rw[va,zdc,zB,zT,c];refine Cg.symm<|d1.trans<|Cg.of ?_;rw[hd,zk,zT]
  ·rw[zdc,<-hd];exact d1
  ·rw[zdc,<-hd];exact d2
theorem aa(hp:wB p=I)(a:Fp p g)(b:Fp p h)(c:X g<=290)(e:X h<=290)(f:3000000<=fu):
 ∃d s t,X9 fu g h p=Z (d,0)/\BzR p g h d s t (2+max (X g) (X h)*(max (X g) (X h)+1))/\(X d=0\/ci d (X d-1)=1):=by grind [X9,EA,U]
theorem VA(hp:wB p=I)(a:Fp p g)(b:Fp p h)(c:X g<=290)(e:X h<=290)(f:3000000<=fu:=by lia):
 ∃d s t,uE fu g h p=Z (d,0)/\BzR p g h d s t (2+max (X g) (X h)*(max (X g) (X h)+1))/\(X d=0\/ci d (X d-1)=1):=by grind [uE,ZM,U]
def Fa{d s t:zC J}{S:K}(hp:2<=p)(a:BzR p g h d s t S)(hd:X d=0\/ci d (X d-1)=1):X d=1↔jj p (ci g) (ci h):=by
 refine⟨λh1=>zcJ a h1 (hd.resolve_left W),λhc=> ?_⟩;have⟨A,C,c,z2,d1,d2⟩:=a.dv;have⟨u,v,z3,z4,hc⟩:=hc;have b:Cg p ((u*A+v*C)*ci d) (pc 1):=by
  refine Cg.trans (Cg.of ?_)<|(((Cg.rfl).mul d1.symm).add<|(Cg.rfl).mul d2.symm).trans hc;rw[yu,zd,zd]
 have f:0<X d:=by
  refine xcm λe=> ?_;have h1:=b 0;rw[qt,xz λi hi=>by rw[zW W,xaw]]at h1;unfold pc at h1;rw[xae,xax YL W]at h1;cases h1
 exact Sj hp ((z3.mul c).add<|z4.mul z2) f (hd.resolve_left W) b
end
section
variable{a:zC zI}{p:zI}{fu:zV}
def dvp(f:Pz):Pz:=λk=>((k+1:K):J)*f (k+1)
theorem Uk(f g:Pz):dvp (f*g)=dvp f*g+f*dvp g:=by
 funext k;show((k+1:K):J)*(f*g) (k+1)=(dvp f*g) k+(f*dvp g) k;rw[qt,qt,qt,<-Ya];have e:yA (k+1+1) (λi=>((k+1:K):J)*(f i*g (k+1-i)))=yA (k+1+1) (λi=>(i:J)*(f i*g (k+1-i)))+yA (k+1+1) (λi=>((k+1-i:K):J)*(f i*g (k+1-i))):=by
  rw[<-Vv];exact yH λi hi=>by grind
 rw[e];congr 1
 ·rw[ZO];show((0:K):J)*_+_=_;rw[show((0:K):J)=0 from O,xaK,xco];exact yH λi hi=>by
   show((i+1:K):J)*(f (i+1)*g (k+1-(i+1)))=((i+1:K):J)*f (i+1)*g (k-i);grind
 ·show yA (k+1) _+((k+1-(k+1):K):J)*_=_;rw[xcX,show((0:K):J)=0 from O,xaK,xby];exact yH λi hi=>by
   show((k+1-i:K):J)*(f i*g (k+1-i))=f i*(((k-i+1:K):J)*g (k-i+1));grind
def zhK{m:J}{f g:Pz}(h:Cg m f g):Cg m (dvp f) (dvp g):=λk=>by
 show(((k+1:K):J)*f (k+1))%m=(((k+1:K):J)*g (k+1))%m;rw[xaY,h,<-xaY]
def zvj(c:J):dvp (pc c)=pc 0:=wu λk=>by
 rw[zE];rfl
def drv(p:J)(a:N J):N J:=nl (X a)<|λk=>dvp (ci a) k%p
def DM{k:K}(h:X a<=k+1:=by lia):dvp (ci a) k=0:=by
 show((k+1:K):J)*ci a (k+1)=0;rw[zW h,xaw]
def CY(p:J)(a:N J)(k:K):ci (drv p a) k=dvp (ci a) k%p:=Ou (λk b=>by rw[DM,xae]) k
def S5(p:J)(a:N J):Cg p (ci<|drv p a) (dvp<|ci a):=λk=>by rw[CY,xay]
def rU(hp:0<p)(a:N J):Fp p (drv p a):=⟨λk=>by rw[CY];exact(yz hp).1,λk=>by rw[CY];exact(yz hp).2,Ib _ _⟩
def zul(hp:0<p)(h:0<X a):X (drv p a)<X a:=by
 have:=(rU hp a).nl.le (n:=X a-1) λk b=>by rw[CY,DM,xae]
 lia
def zoH(p:J)(a:N J):X (drv p a)<=X a:=zbr _ _
def gm(hp:wB p=I)(b:Fp p a)(hc:X a<=90000:=by lia)(e:3000000<=fu:=by lia):Jr fu a p=Z (drv p a,0):=by
 have⟨n,c⟩:=zp hp;unfold Jr;have g:∀k:K,0<=((k:J)%p)*ci a k/\((k:J)%p)*ci a k<=4293001441:=λk=>by
  have d:=yz (a:=(k:J)) (p:=p);exact Yo c d.1 d.2 (b.nn k)<|b.lt k
 rw[U<|Zm hp,S O,U<|zQ W c (b.rl c) W e,b.pm,U (v:=zl (X a-1)<|λk=>(((k+1:K):J)%p)*ci a (k+1))]
 ·have l:∀k,X a-1<=k->(((k+1:K):J)%p)*ci a (k+1)=0:=λk o=>by rw[zW W,xaw]
  have d:Rl (zl (X a-1)<|λk=>(((k+1:K):J)%p)*ci a (k+1)):=λk=>by
   rw[qP l];have:=g<|k+1;exact⟨W,W⟩
  rw[U<|zQ W c d (by rw[zF];lia) e];congr 2;refine(mj W _).ext (rU W _) λk=> ?_;rw[E4,qP l,CY,xay,xay];show _=(((k+1:K):J)*ci a (k+1))%p;rw[xaY,xay,<-xaY]
 ·refine zt (λs:N J×J×N J=>∃i:K,i<=X a/\s=(zl (i-1)<|λk=>(((k+1:K):J)%p)*ci a (k+1),(i:J),a)) (λs=>X a-s.2.1.toNat) _ ?_ _ _ ⟨0,sB _,O⟩ (by show X a-0<fu;lia);rintro s L ⟨i,hi,rfl⟩ m;unfold mq;simp only;by_cases h:i<X a
  ·rw[zS,U O];simp only[wN];rw[zo h,Q,YU];by_cases h0:0<i
   ·have hd:=g i;obtain⟨j,rfl⟩:∃j,i=j+1:=⟨i-1,W⟩;rw[zS,yM,Q,kZ,zb,xi (by rw[zF];simp;lia),Q,(W:j+1-1=j),oC (f:=λk=>(((k+1:K):J)%p)*ci a (k+1)) O,zb];exact m _ ⟨j+1+1,W,O⟩ (by show X a-(((j+1:K):J)+1).toNat<X a-((j+1:K):J).toNat;lia)
   ·obtain rfl:i=0:=W
    rw[zA,zb];exact m _ ⟨1,W,O⟩ (by show X a-(((0:K):J)+1).toNat<X a-((0:K):J).toNat;lia)
  ·rw[zA,U O];simp only[xaj,wP];obtain rfl:i=X a:=W
   rfl
def Ha(hp:wB p=I)(c:Fp p a)(hd:X a<=90000)(g:3000000<=fu):Jg fu a p=Z (drv p a,0):=by
 have⟨m,d⟩:=zp hp;unfold Jg;have j:∀k:K,0<=((k:J)%p)*ci a k/\((k:J)%p)*ci a k<=4293001441:=λk=>by
  have b:=yz (a:=(k:J)) (p:=p);exact Yo d b.1 b.2 (c.nn k)<|c.lt k
 rw[U<|vo hp,S O,U<|W4 hp c,U (v:=zl (X a-1)<|λk=>dvp (ci a) k%p)]
 ·have e:∀k,X a-1<=k->dvp (ci a) k%p=0:=λk o=>by rw[DM,xae]
  have b:Rl (zl (X a-1)<|λk=>dvp (ci a) k%p):=λk=>by
   rw[qP e];have:=yz (a:=dvp (ci a) k) (p:=p);lia
  rw[U<|vE W d b (by rw[zF];lia) g];congr 2;refine(mj W _).ext (rU W _) λk=> ?_;rw[E4,qP e,CY,xay]
 ·by_cases hl:X a=0
  ·have⟨n,hn⟩:∃n,fu=n+1:=⟨fu-1,W⟩;obtain rfl:a=[]:=xbs.1 hl;have h1:zg (XF fu p []) (n+1) ([],1)=Z []:=by
    rw[w6];unfold XF;simp only;rw[ir YL]
   rw[<-hn]at h1;exact h1
  ·refine zt (λs:N J×J=>∃i:K,i+1<=X a/\s=(zl i<|λk=>dvp (ci a) k%p,((i+1:K):J))) (λs=>X a-s.2.toNat) _ ?_ _ _ ⟨0,W,O⟩ (by show X a-1<fu;lia);rintro s L ⟨i,hi,rfl⟩ l;unfold XF;simp only;by_cases h:i+1<X a
   ·have hc:=j<|i+1;rw[zS,yM,Q,kZ,zo h,Q,YU,zb,yM,Q,kZ hc.1,xi (by rw[zF];simp;lia),Q,oC (f:=λk=>dvp (ci a) k%p) (by
     show _=(((i+1:K):J)*ci a (i+1))%p;rw[xaY,xay,<-xaY]),zb]
    exact l _ ⟨i+1,W,O⟩ (by show X a-(((i+1:K):J)+1).toNat<X a-((i+1:K):J).toNat;lia)
   ·rw[zA];obtain rfl:i=X a-1:=W
    rfl
end
section
variable{p:zI}{m g d:zC zI}{A:Pz}{fu:zV}
structure xZ(p:J)(m:N J):Prop where
 fm:Fp p m
 ln:0<m.length
 top:ci m (m.length-1)=1
def xZ.mn(h:xZ p m):Mn (ci m) (X m-1):=⟨h.top,λk a=>zW W⟩
def xZ.one(h:xZ p m)(hl:X m=1):m=[1]:=by
 match m,hl with
 |[x],_=>have:=h.top;exact wF (λy=>[y]) this
def zmL(hp:2<=p):xZ p [1]:=⟨ZA,YL,O⟩
def Gi{q r:N J}(hp:2<=p)(a:xZ p m)(f:xZ p g)(w:Fs A)(hd:Cg p (ci m) (A*ci g))(o:Fp p q)(C:Fp p r)(t:Cg p (ci m) (ci q*ci g+ci r))(D:X r<X g):
 xZ p q/\Cg p (ci m) (ci q*ci g)/\X m+1=X q+X g:=by
 have E:=f.ln;have h1:Cg p ((A-ci q)*ci g) (ci r):=by
  rw[ji];refine((hd.symm.trans t).sub Cg.rfl).trans<|Cg.of ?_;funext k;rw[yT,zG];lia
 have y:=f.mn.zero hp (w.subt<|Fs.ci q) λk u=>by rw[h1 k,zW W,xae]
 have F:Cg p (ci r) (pc 0):=h1.symm.trans<|y.mul_zero_r _;have b:Cg p (ci m) (ci q*ci g):=by
  refine t.trans<|Cg.iff_sub.2 ?_;have e:ci q*ci g+ci r-ci q*ci g=ci r:=by
   funext k;rw[yT,zG];lia
  simp_all
 have hl:=a.ln;have q0:0<X q:=by
  refine xcm λe=> ?_;have v:=b<|X m-1;rw[a.top,qt,xz λi hi=>by rw[zW (l:=q) W,xaK],xae,xax YL W]at v;cases v
 have z:=f.mn.top (x:=ci q) (n:=X q-1) λk u=>zW W;have c:=b<|X q-1+(X g-1);rw[z,a.fm.mod,o.mod]at c;have hc:ci q (X q-1)≠0:=by
  obtain h|h:=o.nl
  ·lia
  ·exact h
 have B:X m+1=X q+X g:=by
  have G:X q-1+(X g-1)<X m:=xcT λh=>by
   rw[zW h]at c;exact hc c.symm
  have H:X m<=X q-1+(X g-1)+1:=a.fm.nl.le λk u=>by rw[<-a.fm.mod,b,ug (n:=X q) (m:=X g) (λj s=>zW s)<|λj s=>zW s,xae]
  lia
 refine⟨⟨o,q0,?_⟩,b,B⟩;rw[<-c,(W:X q-1+(X g-1)=X m-1),a.top]
def AQ(hp:wB p=I)(b:xZ p m)(a:xZ p g)(hc:X m<=290)(l:X g<=290)(c:Fs A)(hd:Cg p (ci m) (A*ci g))(e:3000000<=fu):
 ∃q,aI fu m g p=Z q/\xZ p q/\Cg p (ci m) (ci q*ci g)/\X m+1=X q+X g:=by
 have⟨f,n⟩:=zp hp;have⟨q,r,e1,h,i,j,k,hi⟩:=pX hp b.fm a.fm a.ln W W e;refine⟨q,?_,Gi f b a c hd h i j k⟩;unfold aI;rw[U e1]
def Na{h s t:N J}{S:K}(hp:2<=p)(b:xZ p g)(a:BzR p g h d s t S)(hd:X d=0\/ci d (X d-1)=1):xZ p d:=by
 have⟨A,C,c,z2,d1,d2⟩:=a.dv;have hl:0<X d:=by
  refine xcm λe=> ?_;have h1:=d1<|X g-1;rw[b.top,qt,xz λi hi=>by rw[zW W,xaw],xax YL W]at h1;cases h1
 exact⟨a.df,hl,hd.resolve_left W⟩
def dm{a:N J}(hp:2<=p)(c:xZ p a)(hd:xZ p d)(e:Fs A)(h:Cg p (ci a) (A*ci d)):X d<=X a:=by
 refine xbl λi=> ?_;have f:∀k,X d-1<=k->(A*ci d) k%p=0:=λk j=>by rw[<-h k,zW W,xae]
 have h0:=hd.mn.zero hp e f;have b:=(h.trans<|h0.mul_zero_r _)<|X a-1;rw[c.top,zE,xax YL W]at b;cases b
def B5{w:N J}(hp:wB p=I)(k:xZ p g)(r:Fp p w)(hc:X g<=290)(u:X w<=290)(n:3000000<=fu):
 ∃x,XE fu g w p=Z x/\xZ p x/\X x<=X g/\(jj p (ci g) (ci w)->x=g)/\(¬jj p (ci g) (ci w)->X x<X g):=by
 have⟨j,T⟩:=zp hp;unfold XE;have⟨d,s,t,e1,l,hd⟩:=aa (fu:=fu) hp k.fm r hc u n;rw[U e1];simp only;have hi:=Na j k l hd;have D:=Fa j l hd
 have⟨x,l1,E,F,G,H⟩:=yb (f:=VQ fu w p) (λz:N J×N J=>∃a d:N J,z=(a,d)/\xZ p a/\X a<=X g/\xZ p d/\X d<=290/\(∃A:Pz,Fs A/\Cg p (ci a) (A*ci d))/\((a=g/\(X d=1↔jj p (ci g) (ci w)))\/(X a<X g/\¬jj p (ci g) (ci w))))
  (λz=>X z.1) (λx=>xZ p x/\X x<=X g/\(jj p (ci g) (ci w)->x=g)/\(¬jj p (ci g) (ci w)->X x<X g)) (by
   rintro z L ⟨a,d,rfl,v,hl,hd,K,⟨A,M,P⟩,c⟩ Q;unfold VQ;simp only;by_cases h1:1<X d
   ·have⟨q,q1,q2,V,Y⟩:=AQ (fu:=fu) hp v hd W K M P n;have⟨R,s',t',o,y,hn⟩:=aa (fu:=fu) hp q2.fm r W u n;have B:=Na j q2 y hn;rw[zS,U q1,U o];have⟨S,C',i,z2,d1,d2⟩:=y.dv;have ho:=dm j q2 B i d1;refine Q _ ⟨q,R,O,q2,W,B,W,⟨S,i,d1⟩,.inr ⟨W,?_⟩⟩ (by show X q<X a;lia);rcases c with⟨e,b⟩|⟨e,b⟩
    ·exact λh=>by have:=b.2 h;lia
    ·exact b
   ·have hq:=hd.ln;rw[zA];refine⟨_,O,v,hl,λh=> ?_,λh=> ?_⟩
    ·rcases c with⟨e,b⟩|⟨e,b⟩
     ·exact e
     ·exact wl h b
    ·rcases c with⟨e,b⟩|⟨e,b⟩
     ·exact wl (b.1 W) h
     ·exact e) fu (g,d) ⟨g,d,O,k,eZ _,hi,by have⟨A,C,i,z2,d1,d2⟩:=l.dv;exact PX (dm j k hi i d1) hc,by have⟨A,C,i,z2,d1,d2⟩:=l.dv;exact⟨A,i,d1⟩,.inl ⟨O,D⟩⟩ (by show X g<fu;lia)
 rw[U l1];exact⟨x,O,E,F,G,H⟩
end
section
variable{fu P:zV}{a m:zC zI}{p:zI}
def L3(d:2<=P)(e:P<=65521)(hl:X a<=290)(g:3000000<=fu):Uz fu a (P:J)=Z (zl ((X a+P-1)/P)<|λk=>ci a<|k*P):=by
 unfold Uz;have⟨n,hn⟩:∃n,n=(X a+P-1)/P:=⟨_,O⟩;have hc:n<=65900:=by
  rw[hn];refine PX (xcd _ _) W
 rw[<-hn,U (v:=zl n<|λk=>ci a<|k*P)];refine zt (λs:N J×J=>∃i:K,i<=n/\s=(zl i<|λk=>ci a<|k*P,((i*P:K):J))) (λs=>X a-s.2.toNat) _ ?_ _ _ ⟨0,sB _,by rw[xcs];rfl⟩ (by show X a-0<fu;lia);rintro s L ⟨i,hi,rfl⟩ b;unfold re;simp only;by_cases h:i*P<X a
 ·have c:i+1<=n:=by
   rw[hn,xcn W,xaT,xbL];lia
  rw[zS,zo h,Q,YU,xi (by rw[zF];simp;lia),Q,oC (f:=λk=>ci a<|k*P) O,show((i*P:K):J)+(P:J)=(((i+1)*P:K):J)by rw[xaT,xbL];lia,fT ⟨W,by rw[xaT,xbL];lia⟩];exact b _ ⟨i+1,c,O⟩ (by
   show X a-(((i+1)*P:K):J).toNat<X a-((i*P:K):J).toNat;rw[xaT,xbL];lia)
 ·rw[zA];have j:n<=i:=by
   have l:n<i+1:=by
    rw[hn,xaM W,xaT,xbL];lia
   lia
  obtain rfl:i=n:=W
  rfl
def zmM(hp:wB (P:J)=I)(b:xZ (P:J) m)(h1:1<X m)(hd:X (drv (P:J) m)=0):
 xZ (P:J) (zl ((X m+P-1)/P)<|λk=>ci m<|k*P)/\X (zl ((X m+P-1)/P)<|λk=>ci m<|k*P)<X m:=by
 have⟨o,q⟩:=zp hp;have h:=Wa hp;rw[xaJ]at h;have i:∀k,(((k+1:K):J)*ci m (k+1))%(P:J)=0:=λk=>by
  have:=CY (P:J) m k;rw[zW W]at this;exact this.symm
 have l:P∣X m-1:=by
  have⟨j,n⟩:∃j,X m-1=j+1:=⟨X m-2,W⟩;have f:=i j;rw[<-n,b.top,xci]at f;exact xde.1<|xaA f
 have⟨c,hc⟩:=l;have r:1<=c:=xcm λe=>by rw[e,xcG]at hc;lia
 have hn:(X m+P-1)/P=c+1:=by
  rw[show X m+P-1=(c+1)*P by rw[xaT,xbL,xaH];lia];exact xeu _ W
 rw[hn];have hi:2*c<=P*c:=xaf _ W;have g:ci (zl (c+1)<|λk=>ci m<|k*P) c=1:=by rw[km W,xaH,<-hc,b.top]
 refine⟨⟨⟨λk=> ?_,λk=> ?_,.inr ?_⟩,by rw[zF];lia,?_⟩,by rw[zF];lia⟩
 ·by_cases d:k<c+1
  ·rw[km d];exact b.fm.nn _
  ·rw[zW<|by rw[zF];lia];lia
 ·by_cases d:k<c+1
  ·rw[km d];exact b.fm.lt _
  ·rw[zW<|by rw[zF];lia];lia
 ·rw[zF,xdv,g];decide
 ·rw[zF,xdv,g]
theorem Pa(hp:0<p)(b:Fp p m):yS p m [1]=m:=by grind [Fp.ext,vv,jD,va,yp]
def H5(hp:wB p=I)(b:xZ p m)(hl:X m<=90000:=by lia)(c:3000000<=fu:=by lia):w8 fu m p=Z (m,0):=by
 have⟨d,e⟩:=zp hp;rw[QG (x:=1) hp b.fm b.ln hl YL W (by rw[b.top];exact xax YL W),Pa W b.fm]
def zfq{f:Pz}(hp:2<=p)(b:xZ p m)(c:Cg p f (pc 0))(h:jj p (ci m) f):X m=1:=by
 have⟨s,t,d,z2,h⟩:=h;refine Sj hp d b.ln b.top<|Cg.trans ?_ h;refine Cg.trans (Cg.of ?_)<|Cg.add Cg.rfl (c.mul_zero_l t).symm;funext k;rw[zG,zE,xby]
def zgV(hp:wB (P:J)=I):∀(n:K) {fu:K}{m:N J},X m=n->n<=290->3000001+n<=fu->xZ (P:J) m->
 ∃r,vk fu m (P:J)=Z r/\xZ (P:J) r/\X r<=X m/\(jj (P:J) (ci m) (dvp<|ci m)->r=m)/\(¬jj (P:J) (ci m) (dvp<|ci m)->X r<X m):=by
 intro n
 induction n using xcY with
 |_ n H=>
 intro fu m hn hC hD b;have⟨c,p2⟩:=zp hp;obtain⟨F,rfl⟩:∃F,fu=F+1:=⟨fu-1,W⟩;have d:3000000<=F:=W
 have ho:=b.ln;unfold vk;rw[U<|H5 hp b];simp only;by_cases h1:X m=1
 ·have hl:=b.one h1;rw[zS];refine⟨[1],O,zmL c,by simp;lia,λ_=>hl.symm,λh=>wl ?_ h⟩;rw[hl,va];exact jj.one _ _
 ·rw[zA,U<|Ha hp b.fm W d];simp only;have z:=S5 (P:J) m;by_cases hd:X (drv (P:J) m)=0
  ·have⟨hq,hE⟩:=zmM hp b W hd;have⟨r,e1,j,e3,L,M⟩:=H _ W (fu:=F) O W W hq;rw[zS,U<|L3 W W W d,U e1];have l:Cg (P:J) (dvp<|ci m) (pc 0):=z.symm.trans (Cg.of<|funext λk=>by rw[zW W,zE]);exact⟨r,O,j,W,λh=>wl (zfq c b l h) h1,λ_=>by lia⟩
  ·have hF:=zul (p:=(P:J)) W ho;have⟨g,s,t,g1,D,Q⟩:=aa (fu:=F) hp b.fm (rU (p:=(P:J)) W m) W W d;have o:=Na c b D Q;have hr:=Fa c D Q;have R:jj (P:J) (ci m) (dvp<|ci m)↔X g=1:=by
    rw[hr];exact⟨λh=>h.congr Cg.rfl z.symm,λh=>h.congr Cg.rfl z⟩
   have⟨A,C,z1,z2,d1,d2⟩:=D.dv;have hG:=o.ln;have hH:X g<=X (drv (P:J) m):=by
    have hs:=(rU (p:=(P:J)) W m).nl;refine xbl λhI=> ?_;have l:∀k,X g-1<=k->(C*ci g) k%(P:J)=0:=λk S=>by rw[<-d2 k,zW W,xae]
    have h0:=o.mn.zero c z2 l;have T:=(d2.trans<|h0.mul_zero_r _)<|X (drv (P:J) m)-1;rw[(rU (p:=(P:J)) W m).mod,zE,xae]at T;obtain h|h:=hs
    ·exact hd h
    ·exact h T
   have⟨w,w1,i,V,w4⟩:=AQ (fu:=F) hp b o W W z1 d1 d;have⟨x,x1,E,x3,Y,x5⟩:=B5 (fu:=F) hp o i.fm W W d;have⟨r,e1,j,e3,L,M⟩:=H _ (W:X x<n) (fu:=F) O W W E;have ht:=i.ln;have hu:=j.ln;have⟨f1,f2⟩:=zgE c ht i.top hu j.top;rw[zA,U g1];simp only;rw[U w1,U x1,U e1,U<|YB hp i.fm j.fm W W d];refine⟨_,O,⟨vv W _ _,W,by rw[f1];exact f2⟩,W,λh=> ?_,λh=> ?_⟩
   ·have hi:=R.1 h;have hc:=o.one hi;have B:x=g:=Y (by rw[hc,va];exact jj.one _ _);have hv:r=x:=L (by rw[B,hc,va];exact jj.one _ _);rw[hv,B,hc,Pa W i.fm];refine(i.fm.ext b.fm ?_);have h6:=V;rw[hc,va,yp]at h6;exact h6.symm
   ·have hi:X g≠1:=λe=>h<|R.2 e;have hJ:X r<X g:=by
     by_cases G:jj (P:J) (ci g) (ci w)
     ·have B:=Y G;subst B;refine M λhw=> ?_;have hx:Cg (P:J) (dvp<|ci m) (dvp (ci w)*ci x+ci w*dvp (ci x)):=by
       have:=zhK V;rw[Uk]at this;exact this
      have hy:Cg (P:J) (dvp<|ci m) (C*ci x):=z.symm.trans d2;have hA:Cg (P:J) (ci w*dvp (ci x)) ((C-dvp (ci w))*ci x):=by
       rw[ji];refine Cg.trans (Cg.of ?_)<|(hx.symm.trans hy).sub Cg.rfl;funext k;simp only[yT,zG];lia
      have⟨u,v,zu,zv,hB⟩:=G;have hX:Cg (P:J) (dvp<|ci x) ((u*dvp (ci x)+v*(C-dvp (ci w)))*ci x):=by
       have a1:Cg (P:J) (dvp<|ci x) ((u*ci x+v*ci w)*dvp (ci x)):=by
        have:=hB.symm.mul<|Cg.rfl (f:=dvp<|ci x);rw[zB]at this;exact this
       refine a1.trans ?_;rw[yu,yu];refine Cg.add (Cg.of ?_) ?_
       ·simp only[zd,zk,zD]
       ·rw[zd,zd];exact Cg.rfl.mul hA
      have q:∀y:N J,Fs (dvp<|ci y):=λy=>⟨X y,λk S=>DM⟩;have l:=E.mn.zero c ((zu.mul<|q x).add<|zv.mul<|z2.subt<|q w) λk S=>by rw[<-hX k,DM,xae]
      exact hi<|zfq c E (hX.trans<|l.mul_zero_r _) hw
     ·have:=x5 G;lia
    lia
theorem zdt{b:N J}(h:X a≠X b):YA fu a b=Z yL:=by grind [YA]
def znY(hp:wB p=I)(d:Fp p a)(hl:X a<=290)(A:3000300<=fu):∃b e,Zq fu a p=Z (b,e)/\lU fu a p=Z (b,e):=by
 have⟨k,B⟩:=zp hp;obtain⟨P,rfl⟩:=xat (W:0<=p);unfold Zq lU WO dP;by_cases h0:X a=0
 ·obtain rfl:a=[]:=xbs.1 h0;refine⟨yL,8,?_,?_⟩
  ·rw[U<|EH hp W];rfl
  ·rw[U<|vo hp,S O,U<|W4 hp d];rfl
 ·have⟨x,x0,l,j,e1⟩:=YQ (fu:=fu) hp d;have f:=DN k d W j;have⟨m,hd⟩:∃m,m=yS (P:J) a [x]:=⟨_,O⟩;rw[<-hd]at f e1;have i:xZ (P:J) m:=⟨f.fm,by have:=f.ln;lia,f.top⟩;have C:=f.ln;have⟨g,s,t,g1,n,o⟩:=VA (fu:=fu) hp i.fm (rU (p:=(P:J)) W m) W (by have:=zoH (P:J) m;lia);have q:=Fa k n o;have hc:jj (P:J) (ci m) (dvp<|ci m)↔X g=1:=by
   rw[q];exact⟨λh=>h.congr Cg.rfl (S5 (P:J) m).symm,λh=>h.congr Cg.rfl<|S5 (P:J) m⟩
  have u:w8 fu a (P:J)=Z (m,0):=by rw[QG hp d W W x0 l j,hd]
  have⟨r,r1,r2,D,v,w⟩:=zgV hp (X m) (fu:=fu) O W W i;have y:vk fu a (P:J)=Z r:=by
   obtain⟨F,rfl⟩:∃F,fu=F+1:=⟨fu-1,W⟩;rw[<-r1];unfold vk;have z:w8 F a (P:J)=Z (m,0):=by rw[QG hp d W W x0 l j,hd]
   rw[U z,U<|H5 hp i]
  refine⟨decide<|X g=1,0,?_,?_⟩
  ·rw[U e1];simp only[wN];rw[zA,U O];simp only[wN];rw[U<|gm hp i.fm];simp only;rw[U g1];simp only;by_cases c:X g=1
   ·rw[zS,wU c]
   ·rw[zA,wS c]
  ·rw[U<|vo hp,S O,U<|W4 hp d,zA,U O,S O,U u];simp only;rw[U y];by_cases c:X g=1
   ·rw[v<|hc.2 c,U (zcl O W W),wU c]
   ·have:=w<|λh=>c<|hc.1 h;rw[U (zdt W),wS c]
end
end Go.Proofs.YtdpdofimolhigaaGreat
