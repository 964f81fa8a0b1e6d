/- What a proof needs: rules of walking, mirrors of functions and their plain laws. No condition. -/
import Derived.Test.YtoegnnjcmlghhaaGreatZm5
set_option linter.all false
namespace Go.Proofs.YtoegnnjcmlghhaaGreat
open Bool renaming false->I,true->wL
open Go renaming Deferred->lm
open Go.Proofs.YtoegnnjcmlghhaaGreat renaming Zr->M,bd->Y,za->U,nm->B,cC->D,zp->F,ze->A,iq->S
open List renaming length->X,length->pM
open Nat renaming beq->E
open Option renaming some->Z
open _root_ renaming rfl->O,List->N,Int->J,Nat->K,Option->V,List->xS,Int->wn,Nat->wr,Option->ww,trivial->wR,absurd->wS,Rat->qR,funext->kW,congrArg->uL,if_false->uP,if_true->uS,True->Xs,decide_eq_false->Wl,of_decide_eq_true->Wr,congrFun->Ww,Decidable->QR,False->KW
open Bool renaming false_eq_true->xai
open Classical renaming byContradiction->xak
open Int renaming add_emod->xej,add_zero->xbW,dvd_mul_left->xcJ,dvd_mul_right->xbY,dvd_of_emod_eq_zero->xaF,dvd_refl->xek,dvd_sub->xdu,dvd_trans->xbu,dvd_zero->xdD,emod_emod->xaQ,emod_emod_of_dvd->xcA,emod_eq_emod_iff_emod_sub_eq_zero->xaL,emod_eq_of_lt->xaH,emod_eq_zero_of_dvd->xax,emod_lt_of_pos->xdK,emod_nonneg->xcH,eq_ofNat_of_zero_le->xaC,le_of_lt->xdF,le_refl->xfW,mul_add->xfx,mul_assoc->xcY,mul_comm->xbJ,mul_dvd_mul->xfV,mul_emod->xcd,mul_eq_zero->xeQ,mul_le_mul_of_nonneg_right->xbA,mul_nonneg->xcx,mul_one->xcQ,mul_zero->xaA,natAbs_dvd_natAbs->xcl,natAbs_ediv_le_natAbs->xbB,natAbs_mul->xcw,natAbs_natCast->xaG,natAbs_neg->xfB,natCast_add->xfm,natCast_dvd_natCast->xcO,natCast_mul->xfi,natCast_nonneg->xdl,ofNat_dvd_left->xfn,one_mul->xdd,pow_succ->xbP,pow_zero->xce,sub_self->xel,sub_zero->xdh,tdiv->xdx,tmod->xcB,toNat_natCast->xaZ,toNat_of_nonneg->xdc,zero_add->xcI,zero_ediv->xem,zero_emod->xap,zero_mul->xba
open List renaming drop->xdO,drop_eq_getElem_cons->xbV,drop_eq_nil_of_le->xbR,ext_getElem->xed,ext_getElem?->xcv,getD_eq_getElem?_getD->UV,getElem?_eq_getElem->xab,getElem?_eq_none->xbn,getElem?_map->xbX,getElem?_set_ne->xeW,getElem?_take->xbD,getElem_mem->xbG,length_append->xat,length_cons->xaw,length_drop->xch,length_eq_zero_iff->xbE,length_nil->xbT,length_range->xex,length_replicate->xaM,length_set->xbg,length_take->xar,map_append->xaR,map_congr_left->xcc,map_take->xfl,mem_cons_of_mem->FS,mem_cons_self->IR,mem_iff_getElem->xcq,mem_map->xas,mem_of_mem_drop->xfN,mem_of_mem_take->xes,mem_range->xbd,mem_singleton->xac,nil_append->xbN,pairwise_append->xdn,pairwise_iff_getElem->xcU,range->xaO,range_succ->xdj,replicate->Nm,take->xdB,take_add_one->xeU,take_append_drop->xby,take_length->xca,take_of_length_le->xaW
open Nat renaming add_assoc->xcK,add_comm->xdR,add_mul->xbi,add_zero->xbM,div_add_mod->xbs,div_div_eq_div_mul->xaD,div_eq_of_lt->xbh,div_le_self->xcD,div_lt_iff_lt_mul->xaX,div_mul_le_self->xcG,div_one->xer,eq_zero_of_not_pos->xfs,gcd->xdq,gcd_comm->xdE,gcd_dvd_left->xfL,gcd_dvd_right->xdv,le_add_right->xbI,le_antisymm->xcF,le_div_iff_mul_le->xct,le_max_left->xew,le_max_right->xec,le_of_lt->xdC,le_of_not_lt->xbx,le_refl->So,le_succ->xbz,le_trans->xal,lt_irrefl->xfR,lt_of_le_of_lt->xaK,lt_of_lt_of_le->xag,lt_of_not_le->xdp,lt_or_ge->xbS,lt_trans->xff,lt_trichotomy->xfy,min_eq_left->xck,mod_eq_of_lt->xao,mod_lt->xaN,mul_add->xco,mul_assoc->xbl,mul_comm->xaS,mul_div_mul_right->xfG,mul_le_mul->xcf,mul_le_mul_left->xaE,mul_le_mul_right->xaj,mul_left_comm->xfw,mul_lt_mul''->xci,mul_lt_mul_of_pos_right->xbO,mul_mod_mul_right->xei,mul_one->xeI,mul_pos->xdL,mul_zero->xdo,not_lt_zero->xbc,one_mul->xcP,pos_of_ne_zero->xcR,pow_add->xbj,pow_le_pow_right->xam,pow_lt_pow_right->xfO,pow_mul->xcg,pow_pos->xaY,pow_succ->xbw,pow_succ'->xdQ,pow_zero->xfe,strongRecOn->xdA,sub_le->xfd,sub_self->xcE,succ_mul->xeB,two_pow_pos->xdZ,zero_add->xaJ,zero_le->xae,zero_mul->xcC
open Rat renaming add_zero->xfg,intCast_add->xfX,intCast_mul->xcu,natCast_inj->xey,natCast_mul->xdG,pow_succ->xeD,pow_zero->xeC,zero_mul->xeR
def zaY{fu u w v1 v0:K}(h1:9223372036854775808<=v1)(i:v1<18446744073709551616)(h0:v0<18446744073709551616)(e:u<v1*18446744073709551616+v0)(j:w<18446744073709551616)(b:u/v1<18446744073709551616)(k:10<fu):
 zg (Ur fu w v1 v0) fu (u/v1,u%v1)=Z ((u*18446744073709551616+w)/(v1*18446744073709551616+v0)):=by
 have hv:0<v1*18446744073709551616+v0:=W
 refine zA (λs:K×K=>∃q r,s=(q,r)/\q<18446744073709551616/\r<18446744073709551616/\q*v1+r=u/\(u*18446744073709551616+w)/(v1*18446744073709551616+v0)<=q) (λs=>2-s.2/9223372036854775808) _ ?_ _ _ ⟨_,_,O,b,?_,?_,?_⟩ (by show 2-u%v1/9223372036854775808<fu;lia);rintro s L ⟨q,r,rfl,b,l,c,hc⟩ f;have m:q*v0<18446744073709551616*18446744073709551616:=xci b h0;have a:∀(hd:18446744073709551616*r+w<q*v0),(if((0:K):J)<(((r+v1+0)/18446744073709551616:K):J)then Z ((q+18446744073709551616-1)%18446744073709551616)else L ((q+18446744073709551616-1)%18446744073709551616,(r+v1+0)%18446744073709551616))=Z ((u*18446744073709551616+w)/(v1*18446744073709551616+v0)):=by
  intro hd;have⟨d1,d2,d3⟩:=zhM hv c hd;have g:(q+18446744073709551616-1)%18446744073709551616=q-1:=W
  rw[g];by_cases d:18446744073709551616<=r+v1;rw[yg,<-sP hv d3 d1<|S8 (zab e h0 d3 d) h0 d];rw[zD];exact f _ ⟨_,_,O,W,W,by rw[(W:(r+v1+0)%18446744073709551616=r+v1)];exact d3,d1⟩ (by show 2-(r+v1+0)%18446744073709551616/9223372036854775808<2-r/9223372036854775808;lia)
 unfold Ur;simp only;rw[U<|Vh b h0];simp only[B];by_cases c1:q*v0/18446744073709551616<r;rw[yg,<-sP hv c hc];rw[zD];by_cases c2:q*v0/18446744073709551616=r;rw[yg];by_cases n:q*v0%18446744073709551616<=w;rw[yg,<-sP hv c hc];rw[zD,y8];exact a W
 rw[zD,y8];exact a W
 have:=xaN u (W:0<v1);lia;rw[xaS];exact xbs u v1;rw[xct W];have h:(u*18446744073709551616+w)/(v1*18446744073709551616+v0)*(v1*18446744073709551616+v0)<=u*18446744073709551616+w:=xcG _ _;generalize(u*18446744073709551616+w)/(v1*18446744073709551616+v0)=Q at*
 rw[xco,<-xbl]at h;generalize Q*v1=A at*
 lia
def C1{fu a b c v1 v0:K}(h1:9223372036854775808<=v1)(d:v1<18446744073709551616)(h0:v0<18446744073709551616)(b1:b<18446744073709551616)(b0:c<18446744073709551616)(e:10<fu):
 Kl fu a b c v1 v0=Z (if v1<=a then 18446744073709551615 else((a*18446744073709551616+b)*18446744073709551616+c)/(v1*18446744073709551616+v0)):=by
 unfold Kl;by_cases h:v1<=a;simp_all;have f:(a*18446744073709551616+b)/v1<18446744073709551616:=by rw[xaX W];lia
 rw[zD,ir h,U<|VG b1 d W e];simp only;rw[U<|zaY h1 d h0 ?_ b0 f e];lia
def zk7{u v d q:K}(hd:0<d)(hv:0<v/d)(h:q*v<=u):q<=u/d/(v/d):=by refine(xct hv).2<|(xct hd).2 ?_;refine xal ?_ h;rw[xbl];exact xaE _<|xcG v d
def zi6{u v d x B:K}(hd:0<d)(a:x*(v/d)<=u/d)(b:x<=B)(hv:B*d<=v):x*v<=u+v:=by
 have h1:x*v<=x*(v/d*d+d):=xaE _ (by have h:=xbs v d;have:=xaN v hd;rw[xaS d]at h;lia);have c:x*(v/d*d+d)=x*(v/d)*d+x*d:=by rw[xco,xbl]
 have e:=xal (xaj _ a)<|xcG u d;have f:x*d<=B*d:=xaj _ b;lia
def zau{U V D:K}(b:0<D)(d:9223372036854775808*(18446744073709551616*D)<=V)(j:V<18446744073709551616*(18446744073709551616*D))(e:U<V*18446744073709551616){x:K}
 (a:x=if V/D/18446744073709551616<=U/D/18446744073709551616/18446744073709551616 then 18446744073709551615 else U/D/(V/D)):U/V<=x/\x<=U/V+1/\x<18446744073709551616:=by
 have hc:0<V:=W
 have k:U/V<18446744073709551616:=by rw[xaX hc,xaS];exact e
 have l:9223372036854775808*18446744073709551616<=V/D:=by rw[xct b,xbl];exact d
 have up:∀{x:K},x*V<=U+V->x<=U/V+1:=λ{x} h=>by
  have:x<=(U+V)/V:=(xct hc).2 h;simp_all
 by_cases h:V/D/18446744073709551616<=U/D/18446744073709551616/18446744073709551616;rw[S h]at a;subst a;refine⟨W,up ?_,mD⟩;have e1:V/D/18446744073709551616=V/(D*18446744073709551616):=xaD ..;have f:U/D/18446744073709551616/18446744073709551616=U/(D*18446744073709551616*18446744073709551616):=by rw[xaD,xaD,<-xbl]
 rw[e1,f]at h;have g:0<D*18446744073709551616:=W
 have k1:=xcG U<|D*18446744073709551616*18446744073709551616;have k2:V<(V/(D*18446744073709551616)+1)*(D*18446744073709551616):=by have h1:=xbs V<|D*18446744073709551616;have m:=xaN V g;rw[xbi,xcP,xaS];lia
 have k3:V/(D*18446744073709551616)*(D*18446744073709551616*18446744073709551616)<=U:=xal (xaj _ h) k1;rw[<-xbl]at k3;have k4:18446744073709551615*V<=18446744073709551615*((V/(D*18446744073709551616)+1)*(D*18446744073709551616)):=xaE _<|xdC k2;rw[xbi,xcP]at k4;generalize V/(D*18446744073709551616)*(D*18446744073709551616)=A at*
 lia;rw[ir h]at a;have hd:x<=18446744073709551616:=by
  rw[a];have c:U/D/18446744073709551616/18446744073709551616<V/D/18446744073709551616:=xdp h;have h1:U/D<(V/D)*18446744073709551616+18446744073709551616*18446744073709551616:=W
  have:U/D<=18446744073709551616*(V/D)+(V/D):=W
  refine Nat.le_of_lt_succ<|(xaX W).2 ?_;rw[xeB];lia
 have i:U/V<=x:=by rw[a];exact zk7 b W<|xcG U V
 have c:x<18446744073709551616:=by rw[a,xaX W];have c:U/D/18446744073709551616/18446744073709551616<V/D/18446744073709551616:=xdp h;lia
 refine⟨i,up<|zi6 b (B:=18446744073709551616) ?_ hd ?_,c⟩;rw[a];exact xcG _ _;lia
section
variable{fu V k y:wr}{s:wn}{v:xS wr}
def Ff{n P x0:K}{t:N K}(hv:zm v)(a:X v=n)(b:nv v=V)(ht:zm t)(o:X t=n+1)(d:nv t=P)(hd:0<V)(h1:P/V<=x0)(e:x0<=P/V+1)(f:x0<18446744073709551616)(hn:n<=500000)(p:2000000<fu):
 zg (fU fu v) fu (s,(n:J),x0,t)=Z (s,(n:J),P/V,t):=by
 have g:V<18446744073709551616^n:=by rw[<-b,<-a];exact vn hv
 refine zA (λq:J×J×K×N K=>∃x,q=(s,(n:J),x,t)/\P/V<=x/\x<=P/V+1/\x<18446744073709551616) (λq=>q.2.2.1-P/V) _ ?_ _ _ ⟨x0,O,h1,e,f⟩ (by show x0-P/V<fu;lia);rintro q L ⟨x,rfl,g1,r,i⟩ j;unfold fU;simp only;have l:V*x<18446744073709551616^(n+1):=by
  rw[xbw]
  calc V*x<=V*18446744073709551616:=xaE _ W
   _<_:=xbO g mD
 rw[U<|aV hv i,U (bW (wq _ _) ht<|by rw[zZ];lia),kV,b,a,xao l,d];have u:=xbs P V;have hl:=xaN P hd;by_cases h:x=P/V;have w:V*x<=P:=by rw[h];lia
 have m:¬(0:J)<kh ((V*x:K):J) (P:J):=by
  rcases xbS (V*x) P with hh|hh
  rw[qI W];decide;rw[kP W];decide
 rw[ir m,h];have c:x=P/V+1:=W
 have hi:P<V*x:=by rw[c,xco,xeI];lia
 have z:0<x:=by rw[c];exact Nat.succ_pos _
 have hc:(P:J)<((V*x:K):J):=Int.ofNat_lt.2 hi;rw[vJ hc,S mD,A,(W:(x+18446744073709551616-1)%18446744073709551616=x-1)];exact j _ ⟨x-1,O,W,W,W⟩ (by show x-1-P/V<x-P/V;lia)
def zhB{t:N K}{j:K}(ht:zm t)(hl:X t<=k)(a:k<=j):(t++Nm j 0).take k=vu k (nv t):=by refine tJ ((ht.append<|zm.replicate _).take _) (wq _ _) (by rw[zZ,xar,xat,xaM];lia) ?_;rw[B2<|ht.append<|zm.replicate _,ux,QN,xdo,xbM,kV]
def zdG{n e a:K}{t:N K}{L:N K×J×N K×N K->ww (N K×N K)}(hv:zm v)(hl:X v=n)(m:nv v=V)(hS:2<=n)(hc:9223372036854775808*18446744073709551616^(n-1)<=V)(ht:zm t)(hU:X t=e+n)(hk:k<e)(hb:e+n<=500000)(hf:2000000<fu)(hT:nv t=a/18446744073709551616^(k+1)%V*18446744073709551616^(k+1)+a%18446744073709551616^(k+1)):
 ∃o,zm o/\X o=e+n/\nv o=a/18446744073709551616^k%V*18446744073709551616^k+a%18446744073709551616^k/\
  Vt fu s v L (v,(k:J),t,Nm (k+1) 0++vu (e-(k+1)) (a/18446744073709551616^(k+1)/V))=L (v,(k:J)-1,o,Nm k 0++vu (e-k) (a/18446744073709551616^k/V)):=by
 have hd:V<18446744073709551616^n:=by rw[<-m,<-hl];exact vn hv
 have M:0<18446744073709551616^k:=xaY mD;have g:0<V:=by have:0<18446744073709551616^(n-1):=xaY mD;lia
 have⟨T,hn⟩:∃T,T=a/18446744073709551616^(k+1)%V:=⟨_,O⟩;have⟨f,u⟩:∃f,f=a/18446744073709551616^k%18446744073709551616:=⟨_,O⟩;have hp:f<18446744073709551616:=by rw[u];exact xaN _ mD
 have hJ:T<V:=by rw[hn];exact xaN _ g
 have⟨P,Q⟩:∃P,P=T*18446744073709551616+f:=⟨_,O⟩;have R:=tj a k;rw[<-u]at R;have⟨k1,k2⟩:=nC (x:=0) (b:=18446744073709551616) (y:=V) (w1:=a/18446744073709551616^(k+1)) (w0:=f) g mD hp;rw[xcC,xaJ,<-R,<-hn,<-Q]at k1 k2;have hA:a%18446744073709551616^(k+1)=f*18446744073709551616^k+a%18446744073709551616^k:=by rw[xbw,Nat.mod_mul,u,xaS];lia
 have q:P<V*18446744073709551616:=by have:(T+1)*18446744073709551616<=V*18446744073709551616:=xaj _ hJ;lia
 have S:nv t=P*18446744073709551616^k+a%18446744073709551616^k:=by rw[hT,<-hn,hA,Q,xbi,xbw,xaS<|18446744073709551616^k,xbl];lia
 have hC:=xaN a M;have z:nv t/18446744073709551616^k=P:=by rw[S,xdR,Nat.add_mul_div_right _ _ M,xbh hC,xaJ]
 have hK:nv t%18446744073709551616^k=a%18446744073709551616^k:=by rw[S,xdR,Nat.add_mul_mod_self_right,Nat.mod_mod]
 have⟨D,r⟩:∃D,D=18446744073709551616^(n-2):=⟨_,O⟩;have hL:0<D:=by rw[r];exact xaY mD
 have c:18446744073709551616^(n-1)=18446744073709551616*D:=by rw[r,<-xdQ,(W:(n-2).succ=n-1)]
 have Y:18446744073709551616^n=18446744073709551616*(18446744073709551616*D):=by rw[<-c,<-xdQ,(W:(n-1).succ=n)]
 rw[c]at hc;have B:=hd;rw[Y]at B;have C:∀j,t.getD (k+j) 0=P/18446744073709551616^j%18446744073709551616:=λj=>by rw[KZ ht,xbj,<-xaD,z]
 have gv:∀j,v.getD j 0=V/18446744073709551616^j%18446744073709551616:=λj=>by rw[KZ hv,m]
 have h:P/18446744073709551616^n=P/D/18446744073709551616/18446744073709551616:=by rw[Y,xaD,xaD];congr 1;lia
 have i:P/18446744073709551616^(n-1)=P/D/18446744073709551616:=by rw[c,xaD,xaS D]
 have d:V/18446744073709551616^(n-1)=V/D/18446744073709551616:=by rw[c,xaD,xaS D]
 have hM:P/D/18446744073709551616/18446744073709551616<18446744073709551616:=by rw[<-h,xaX (xaY mD),xaS];exact xff q<|xbO hd mD
 have hE:V/D/18446744073709551616<18446744073709551616:=by rw[<-d,xaX (xaY mD),c];exact B
 have hr:9223372036854775808<=V/D/18446744073709551616:=by rw[<-d,xct (xaY mD),c];exact hc
 have m1:t.getD (k+n) 0=P/D/18446744073709551616/18446744073709551616:=by rw[C,h,xao hM]
 have m2:t.getD (k+n-1) 0=P/D/18446744073709551616%18446744073709551616:=by rw[(W:k+n-1=k+(n-1)),C,i]
 have m3:t.getD (k+n-2) 0=P/D%18446744073709551616:=by rw[(W:k+n-2=k+(n-2)),C,<-r]
 have m4:v.getD (n-1) 0=V/D/18446744073709551616:=by rw[gv,d,xao hE]
 have m5:v.getD (n-2) 0=V/D%18446744073709551616:=by rw[gv,<-r]
 have eg:((P/D/18446744073709551616/18446744073709551616*18446744073709551616+P/D/18446744073709551616%18446744073709551616)*18446744073709551616+P/D%18446744073709551616)/(V/D/18446744073709551616*18446744073709551616+V/D%18446744073709551616)=P/D/(V/D):=by generalize P/D=p;generalize V/D=w;rw[(W:(p/18446744073709551616/18446744073709551616*18446744073709551616+p/18446744073709551616%18446744073709551616)*18446744073709551616+p%18446744073709551616=p),(W:w/18446744073709551616*18446744073709551616+w%18446744073709551616=w)]
 have⟨x0,hF⟩:∃x0,x0=if V/D/18446744073709551616<=P/D/18446744073709551616/18446744073709551616 then 18446744073709551615 else P/D/(V/D):=⟨_,O⟩;have⟨n1,n2,n3⟩:=zau hL hc B q hF;have hG:zm (xdB (k+n+1-k)<|xdO k t):=(ht.drop k).take _;have E:X (xdB (k+n+1-k)<|xdO k t)=n+1:=by rw[xar,xch];lia
 have F:P<18446744073709551616^(n+1):=by rw[xbw];exact xff q<|xbO hd mD
 have hi:nv (xdB (k+n+1-k)<|xdO k t)=P:=by rw[B2<|ht.drop k,NS ht,z,(W:k+n+1-k=n+1),xao F]
 have G:P/V<18446744073709551616:=by rw[xaX g,xaS];exact q
 have hH:V*(P/V)<=P:=Nat.mul_div_le P V;have hI:nv (vu (n+1)<|V*(P/V))=V*(P/V):=by rw[kV,xao W]
 have hN:P-V*(P/V)=P%V:=by have:=xbs P V;lia
 have hQ:=xaN P g;have hR:X (yH<|P%V)<=n:=(zJ _ _).2 W;refine⟨xdB k t++vu (n+1) (P%V)++xdO (k+(n+1)) t,((ht.take _).append<|wq _ _).append<|ht.drop _,?_,?_,?_⟩;rw[xat,xat,xar,zZ,xch];lia;have hz:nv (xdO (k+(n+1)) t)=0:=by rw[NS ht,xbj,<-xaD,z,xbh F]
 have hO:P%V<18446744073709551616^(n+1):=xaK (Nat.mod_le _ _) F;rw[ux,hz,xdo,xbM,ux,B2 ht,hK,kV,xao hO,xar,(W:min k (X t)=k),<-k2,xaS];lia;unfold Vt;simp only;have c1:(k:J)+(X v:J)=((k+n:K):J):=W
 have c2:((k+n:K):J)-1=((k+n-1:K):J):=W
 have c3:((k+n:K):J)-2=((k+n-2:K):J):=W
 have c4:(X v:J)-1=((n-1:K):J):=W
 have c5:(X v:J)-2=((n-2:K):J):=W
 have c6:((k+n:K):J)+1=((k+n+1:K):J):=W
 rw[yg,c1,zb,yo,A,zb,c2,zb,yo,A,zb,c3,zb,yo,A,c4,zb,yo,A,c5,zb,yo,A];rw[m1,m2,m3,m4,m5,U (C1 hr hE (xaN _ mD) (xaN _ mD) (xaN _ mD) W),eg,<-hF];rw[zb,c6,zb,yI,yI,wM ⟨W,W⟩,A,wM (by rw[E];simp;lia),A,xbN];rw[hl,U<|Ff hv hl m hG E hi g n1 n2 n3 W hf];simp only;have c7:(n:J)+1=((n+1:K):J):=W
 rw[zn (by simp;lia),A,zbf,yI,y8,U<|aV hv G,hl,m,U (Ua hG (wq _ _) W (by rw[zZ];lia) (by rw[E,zZ];lia)<|by rw[hi,hI];exact hH),hi,hI,hN];rw[c7,zb,yI,y8,A,zb,yI,wM mK,A,zhB (zt _) W<|So _,zV,A,zb];have H:lF k (X t-k) t (vu (n+1)<|P%V)=xdB k t++vu (n+1) (P%V)++xdO (k+(n+1)) t:=by unfold lF;rw[zZ,(W:min (n+1) (X t-k)=n+1),xaW (l:=vu (n+1)<|P%V)<|by rw[zZ];exact So _]
 rw[H];have e2:e-k=(e-(k+1))+1:=W
 have e3:vu (e-k) (a/18446744073709551616^k/V)=P/V::vu (e-(k+1)) (a/18446744073709551616^(k+1)/V):=by rw[e2,HK,k1,(rY G).1,(rY G).2]
 rw[e3]
theorem zaI(h:0<y):2^(bl y-1)<=y:=by refine xbx λa=> ?_;have h1:=af a;grind
theorem zla{n s:K}(a:0<y)(hn:n=X (yH y))(f:s=64-bl ((yH y).getD (n-1) 0)):s<=63/\9223372036854775808*18446744073709551616^(n-1)<=y*2^s/\y*2^s<18446744073709551616^n/\X (yH<|y*2^s)=n:=by
 have hc:=qg a;have c:=NX a;rw[<-hn]at c;have ht:(yH y).getD (n-1) 0≠0:=by rw[hn];exact zhC a
 have d:=(zt y).getD<|n-1;have⟨b1,_,_⟩:=SK (y:=(yH y).getD (n-1) 0) W d;have b2:1<=bl ((yH y).getD (n-1) 0):=by rw[dI];lia
 have e1:18446744073709551616^n=2^bl y*2^s:=by rw[<-Hi,<-xcg,<-xbj];grind
 have e:9223372036854775808*18446744073709551616^(n-1)=2^(bl y-1)*2^s:=by rw[<-Hi,<-xcg,<-xbj,(mD:(9223372036854775808:K)=2^63),<-xbj];grind
 have g1:9223372036854775808*18446744073709551616^(n-1)<=y*2^s:=by rw[e];exact xaj _<|zaI a
 have b:y*2^s<18446744073709551616^n:=by rw[e1];exact xbO (DG y)<|xaY mD
 refine⟨W,g1,b,xcF ((zJ _ _).2 b)<|xbx λh=> ?_⟩;have:=(zJ (n-1)<|y*2^s).1 W;have hp:0<18446744073709551616^(n-1):=xaY mD;lia
def pX{a b:N K}(r:zm a)(u:zm b)(hD:X a<=200000)(hE:X b<=200000)(hf:3000000<=fu):
 ae fu a b=Z (if nv b=0 then([],[],3)else(yH<|nv a/nv b,yH<|nv a%nv b,0)):=by
 unfold ae;have h1:=xd r;have h2:=xd u;rw[za (xZ r W W),za<|xZ u W W];generalize nv a=x at*
 generalize nv b=y at*
 by_cases h0:y=0
 subst h0;rw[S O];rfl;have hF:=qg (n:=y) W;rw[zD,za O,ir h0];simp only[xai,uP];rw[za<|bW (zt x)<|zt y,zV,zV];by_cases w:x<y;rw[qI W,S mD,za O];simp only[uS];rw[za<|Vb<|zt x,zV,xbh w,xao w];rfl;have hv:¬kh (x:J) (y:J)<0:=by
  obtain h|h:=xbS y x
  rw[vJ W];decide;rw[kP W];decide
 rw[ir hv,za O];simp only[xai,uP];have⟨n,hn⟩:∃n,n=X (yH y):=⟨_,O⟩;have hi:=(zt y).getD<|n-1;by_cases hB:n=1
 have M:(yH y).getD 0 0=y:=by rw[VQ,xfe,xer,xao];have:=(zJ 1 y).1 W;simpa using this
 have P:y<18446744073709551616:=by have:=(zJ 1 y).1 W;simpa using this
 rw[yg,show(0:J)=((0:K):J)from O,yo,A,M,za (CT (zt x) P W W W),zV];simp only;have Q:=xaN x (W:0<y);rw[za (xm (dj W) mK<|by simp;lia),tH];have⟨s,z⟩:∃s,s=64-bl ((yH y).getD (n-1) 0):=⟨_,O⟩;have⟨f,v1,B,v3⟩:=zla W hn z;have⟨V,g⟩:∃V,V=y*2^s:=⟨_,O⟩;have⟨U,e⟩:∃U,U=x*2^s:=⟨_,O⟩;have⟨d,R⟩:∃d,d=X (yH x):=⟨_,O⟩;have hC:n<=d:=by rw[hn,R];exact J5 W
 have C:x<18446744073709551616^d:=(zJ d x).1 W;have hl:2^s<=9223372036854775808:=by rw[(mD:(9223372036854775808:K)=2^63)];exact xam mD f
 have T:U<18446744073709551616^(d+1):=by rw[e,xbw];exact xag (xbO C<|xaY mD)<|xaE _ W
 have hG:X (yH U)<=d+1:=(zJ _ _).2 T;rw[<-g]at v1 B v3;have e1:(((X (yH y):K):J))-1=((n-1:K):J):=W
 rw[zD,e1,zb,yo,A,za<|ky hi,<-z,za<|QQ<|zt y,zV,<-g];simp only;rw[za<|QQ<|zt x,zV,<-e];simp only;have Y:(((X (yH x):K):J))+1=((d+1:K):J):=W
 have e3:((d+1:K):J)-((X (yH U):K):J)=((d+1-X (yH U):K):J):=W
 rw[Y,zb,e3,zb,yI,y8,A];have⟨t8,hc⟩:∃t8,t8=yH U++Nm (d+1-X (yH U)) 0:=⟨_,O⟩;have i:zm t8:=by rw[hc];exact(zt U).append<|zm.replicate _
 have a0:X t8=d+1:=by rw[hc,xat,xaM];lia
 have j:nv t8=U:=by rw[hc,ux,QN,xdo,xbM,zV]
 have⟨c,hH⟩:∃c,c=d+1-n:=⟨_,O⟩;have e4:(X t8:J)-((X (yH V):K):J)=(c:J):=W
 rw[<-hc,e4,zb,yI,y8,A,xaM,zb];have D:0<V:=by have:0<18446744073709551616^(n-1):=xaY mD;lia
 have hA:0<18446744073709551616^c:=xaY mD;have E:U<18446744073709551616^c*V:=by
  have k1:18446744073709551616^c*(9223372036854775808*18446744073709551616^(n-1))<=18446744073709551616^c*V:=xaE _ v1;have k2:18446744073709551616^c*(9223372036854775808*18446744073709551616^(n-1))=18446744073709551616^d*9223372036854775808:=by rw[xaS 9223372036854775808,<-xbl,<-xbj];congr 2;lia
  have k3:U<18446744073709551616^d*9223372036854775808:=by rw[e];exact xag (xbO C<|xaY mD)<|xaE _ hl
  lia
 have F:U/18446744073709551616^c<V:=by rw[xaX hA,xaS];exact E
 have l:∃t,zm t/\X t=c+n/\nv t=U%V/\zg (Vt fu (s:J)<|yH V) fu (yH V,(c:J)-1,t8,Nm c 0)=Z (t,vu c<|U/V):=by
  refine⟨vu (c+n)<|U%V,wq _ _,zZ _ _,?_,?_⟩;rw[kV,xao];have h5:=xaN U D;exact xag (xff h5 B)<|xam mD W
  refine zA (λq:N K×J×N K×N K=>∃(m:K) (t:N K),m<=c/\zm t/\X t=c+n/\nv t=U/18446744073709551616^m%V*18446744073709551616^m+U%18446744073709551616^m/\q=(yH V,(m:J)-1,t,Nm m 0++vu (c-m) (U/18446744073709551616^m/V))) (λq=>(q.2.1+1).toNat) _ ?_ _ _ ⟨c,t8,So _,i,W,?_,?_⟩ (by show((c:J)-1+1).toNat<fu;lia);rintro q L ⟨m,t,Q,ht,G,hd,rfl⟩ ih
  cases m with
  |zero=>
   unfold Vt;simp only;rw[zD];rw[xfe,xeI,Nat.mod_one,xbM,xer]at hd;have:=gZ ht;rw[G,hd]at this;rw[this];simp
  |succ m=>
   have⟨t',g1,H,o,p⟩:=zdG (fu:=fu) (k:=m) (s:=(s:J)) (L:=L) (zt V) v3 (zV V) W v1 ht G W W W hd;rw[(W:((m+1:K):J)-1=(m:J)),p];exact ih _ ⟨m,t',W,g1,H,o,O⟩ (by show((m:J)-1+1).toNat<(((m+1:K):J)-1+1).toNat;lia)
  rw[j,xao F,xaS];exact(xbs U _).symm;rw[xbh F,xcE];simp[vu]
 have⟨t,g1,H,o,p⟩:=l;rw[za p];simp only;have he:U/V<18446744073709551616^c:=by rw[xaX D];exact E
 have hp:0<2^s:=xaY mD;rw[za (xm (wq _ _) (by rw[zZ];lia)<|by rw[zZ];lia),kV,xao he,za (n8 g1 W W W),o];rw[e,g,xfG _ _ hp,xei,Nat.mul_div_cancel _ hp]
end
section
variable{i d0 fu U y j r:wr}
theorem My{x t:N K}{c:K}(ht:X t=i)(h:nw t+4294967296^i*c=2*nw (x.take i)+d0):
 nw (t++[(x.getD i 0*2+c)%4294967296])+4294967296^(i+1)*((x.getD i 0*2+c)/4294967296)=2*nw (x.take<|i+1)+d0:=by
 rw[B0,kM];have:=xbs (x.getD i 0*2+c) 4294967296;grind
def zi5{x t1 t2:N K}(f:xj x)(hl:X x<=1000000)(hd:d0<=1)(u:2000000<fu):
 ∃t d,zg (Ux fu x) fu (t1,t2,[],d0,0)=Z (t1,t2,t,d)/\xj (t++[d])/\X t=X x/\nw (t++[d])=2*nw x+d0:=by
 have v:=QG f;have⟨T,b⟩:∃T,T=kY (X x+1) (2*nw x+d0):=⟨_,O⟩;have m:2*nw x+d0<4294967296^(X x+1):=by rw[xbw];lia
 have n:X T=X x+1:=by rw[b,yV]
 have g:nw T=2*nw x+d0:=by rw[b,XP,xao m]
 have h:xj T:=by rw[b];exact qQ _ _
 have k:T=T.take (X x)++[T.getD (X x) 0]:=by
  have e:=(xby (X x) T).symm;have a:T.drop (X x)=[T.getD (X x) 0]:=by rw[xbV W,xbR W,UV,xab W];rfl
  rw[a]at e;exact e
 refine⟨T.take (X x),T.getD (X x) 0,?_,by rw[<-k];exact h,by rw[xar];lia,by rw[<-k];exact g⟩;refine zA (λs:N K×N K×N K×K×J=>∃(t:N K) (c i:K),s=(t1,t2,t,c,(i:J))/\i<=X x/\X t=i/\xj t/\c<=1/\nw t+4294967296^i*c=2*nw (x.take i)+d0) (λs=>X x-s.2.2.2.2.toNat) _ ?_ _ _ ⟨[],d0,0,O,W,O,xj.nil,hd,by simp[nw]⟩ (by show X x-0<fu;lia);rintro s L ⟨t,c,i,rfl,hi,ht,l,hc,hv⟩ o;unfold Ux;simp only;by_cases h1:i<X x;have b1:=f.getD i;have a:(x.getD i 0*2%18446744073709551616+c)%18446744073709551616=x.getD i 0*2+c:=W
 have p:x.getD i 0/2^(min (((31:K)):J).toNat 64)=(x.getD i 0*2+c)/4294967296:=by rw[(mD:min (((31:K)):J).toNat 64=31)];lia
 rw[yg,zn h1,A,A,A,a,A,C6,wM (by simp[ht];lia),A,zn h1,A,A,p,zb];exact o _ ⟨_,_,i+1,O,W,by simp[ht],l.append<|xj.cons (xaN _ mD) xj.nil,W,My ht hv⟩ (by show X x-((i:J)+1).toNat<X x-(i:J).toNat;lia);rw[zD];obtain rfl:i=X x:=W
 rw[xca]at hv;have q:xj (t++[c]):=l.append<|xj.cons W xj.nil;have:T=t++[c]:=by refine Ev h q (by simp[ht,n]) ?_;rw[g,B0,ht,hv]
 have e1:T.take (X x)=t:=by rw[this,<-ht];simp
 have a:T.getD (X x) 0=c:=by rw[this,<-ht];simp[UV]
 rw[e1,a]
theorem zn0(b:0<y):(y<=2*(U/2^(i+1)%y)+U/2^i%2->U/2^i/y=2*(U/2^(i+1)/y)+1/\U/2^i%y=2*(U/2^(i+1)%y)+U/2^i%2-y)/\(2*(U/2^(i+1)%y)+U/2^i%2<y->U/2^i/y=2*(U/2^(i+1)/y)/\U/2^i%y=2*(U/2^(i+1)%y)+U/2^i%2):=by
 have d:U/2^(i+1)=U/2^i/2:=by rw[xbw,xaD]
 rw[d];generalize U/2^i=V;have h1:=xbs (V/2) y;have e:=xaN (V/2) b;generalize V/2/y=q at*
 generalize V/2%y=r at*
 have a:∀Q R,V=y*Q+R->R<y->V/y=Q/\V%y=R:=λQ R h c=>by
  rw[h];exact⟨by rw[Nat.mul_add_div b,xbh c,xbM],by rw[Nat.mul_add_mod,xao c]⟩
 refine⟨λh=>a _ _ ?_ W,λh=>a _ _ ?_ W⟩;grind;grind
def zrW(x:K):x &&& 1=x%2:=Nat.and_two_pow_sub_one_eq_mod x 1
def zdR(a:r<32):U/4294967296^j%4294967296/2^r%2=U/2^(32*j+r)%2:=by rw[xbj,xcg,(mD:2^32=4294967296),<-xaD];rw[show 4294967296=2^r*2^(32-r)by rw[<-xbj,(W:r+(32-r)=32)],Nat.mod_mul_right_div_self,show 2^(32-r)=2*2^(31-r)by rw[<-xdQ,(W:(31-r).succ=32-r)],Nat.mod_mul_right_mod]
def zml{Q:K}(d:r<32):(Q*2^(32*j+r+1)/4294967296^j%4294967296)|||1*2^r%18446744073709551616=Q*2^(32*j+r+1)/4294967296^j%4294967296+2^r/\Q*2^(32*j+r+1)/4294967296^j%4294967296+2^r<4294967296:=by
 have e1:Q*2^(32*j+r+1)/4294967296^j=Q*2^(r+1):=by rw[xcK,xbj,xcg,(mD:(2:K)^32=4294967296),xfw,Nat.mul_div_cancel_left _<|xaY mD]
 have b:Q*2^(r+1)%4294967296=Q%2^(31-r)*2^(r+1):=by rw[show(4294967296:K)=2^(31-r)*2^(r+1)by rw[<-xbj,(W:31-r+(r+1)=32)],xei]
 have h1:2^r<2^(r+1):=xfO mD W;have e:2^r<=2147483648:=by rw[(mD:(2147483648:K)=2^31)];exact xam mD W
 rw[e1,b,xcP,xao (a:=2^r) W,MC h1];refine⟨O,?_⟩;have c:(Q%2^(31-r)+1)*2^(r+1)<=2^(31-r)*2^(r+1):=xaj _ (xaN _<|xaY mD);rw[<-xbj,(W:31-r+(r+1)=32),xbi,xcP]at c;lia
def zgR(k:0<y)(Y:X (Vg U)<=80000)(ht:X (Vg y)<=80000)(hf:3000000<=fu):
 zg (Uo fu (Vg y)<|Vg U) fu ([],32*((X (Vg U):K):J)-1,Nm (X (Vg U)) 0)=Z (Vg<|U%y,kY (X (Vg U))<|U/y):=by
 have⟨n,hn⟩:∃n,n=X (Vg U):=⟨_,O⟩;have c:U<2^(32*n):=by rw[xcg,(mD:(2:K)^32=4294967296)];exact(va _ _).1 W
 rw[<-hn];refine zA (λs:N K×J×N K=>∃(m:K),m<=32*n/\s=(Vg<|U/2^m%y,(m:J)-1,kY n<|U/2^m/y*2^m)) (λs=>(s.2.1+1).toNat) _ ?_ _ _ ⟨32*n,So _,?_⟩ (by show(32*(n:J)-1+1).toNat<fu;lia);rintro s L ⟨m,hm,rfl⟩ l;unfold Uo;simp only
 cases m with
 |zero=>rw[zD,xfe,xer,xeI]
 |succ i=>
  have⟨j,z⟩:∃j,j=i/32:=⟨_,O⟩;have⟨r,B⟩:∃r,r=i%32:=⟨_,O⟩;have hd:r<32:=W
  have hi:i=32*j+r:=W
  have C:((i+1:K):J)-1=(i:J):=W
  have D:xdx (i:J) (32:J)=(j:J):=by rw[z];rfl
  have E:xcB (i:J) (32:J)=(r:J):=by rw[B];rfl
  have b:j<n:=W
  have a:min (r:J).toNat 64=r:=W
  have hv:(Vg U).getD j 0=U/4294967296^j%4294967296:=by rw[bu<|qC U,qO]
  have F:(Vg U).getD j 0/2^r%2=U/2^i%2:=by rw[hv,zdR hd,<-hi]
  have o:=xaN (U/2^(i+1)) k;have⟨R,e⟩:∃R,R=U/2^(i+1)%y:=⟨_,O⟩;rw[<-e]at o;have G:y<4294967296^X (Vg y):=(va _ _).1<|So _;have hB:X (Vg R)<=80000:=xal ((va (X (Vg y)) R).2<|xff o G) ht;have hl:X (Vg<|2*R+U/2^i%2)<=1000000:=by refine xal ((va (X (Vg y)+1) _).2 ?_) (W:X (Vg y)+1<=1000000);rw[xbw];lia
  have⟨t,d,g1,H,f,p⟩:=zi5 (fu:=fu) (d0:=U/2^i%2) (t1:=Vg y) (t2:=Vg U) (qC R) W W W;rw[qO]at p;have⟨q,u⟩:=zn0 (U:=U) (i:=i) k;rw[<-e]at q u;have M:U/2^(i+1)/y*2^(i+1)<4294967296^n:=by rw[show(4294967296:K)^n=2^(32*n)by rw[xcg,(mD:(2:K)^32=4294967296)]];refine xaK ?_ c;exact xal (xaj _<|xcD _ _)<|xcG _ _
  have v:2*(U/2^(i+1)/y)*2^i=U/2^(i+1)/y*2^(i+1):=by rw[xbw,xaS<|2^i,<-xbl,xaS 2]
  rw[C,<-e,yg,wM mD,D,zb,yo,A,wM mD,E,A,y8,A,a,A,zrW,F];rw[za g1];simp only;rw[wM (by simp[f];lia),A,za (JE H (by simp[f];lia)<|by simp[f];lia),p,za (J6 (fu:=fu) (qC _) (qC y) ?_ W W),qO,qO];by_cases hc:y<=2*R+U/2^i%2;have⟨w1,g⟩:=q hc;have P:(0:J)<=kh ((2*R+U/2^i%2:K):J) (y:J):=by
   rcases xbS y (2*R+U/2^i%2)with h|h
   rw[vJ<|Int.ofNat_lt.2 h];decide;rw[kP<|by rw[xcF h hc]];decide
  have⟨o1,o2⟩:=zml (Q:=U/2^(i+1)/y) (j:=j) hd;rw[<-hi]at o1 o2;have w:(kY n<|U/2^(i+1)/y*2^(i+1)).getD j 0=U/2^(i+1)/y*2^(i+1)/4294967296^j%4294967296:=GK _ _ _ b;have hp:(kY n<|U/2^(i+1)/y*2^(i+1)).set j (U/2^(i+1)/y*2^(i+1)/4294967296^j%4294967296+2^r)=kY n (U/2^i/y*2^i):=by
   refine Ev ((qQ _ _).set j o2) (qQ _ _) (by rw[xbg,yV,yV]) ?_;have h1:=IU (kY n<|U/2^(i+1)/y*2^(i+1)) j (U/2^(i+1)/y*2^(i+1)/4294967296^j%4294967296+2^r) (by rw[yV];exact b);rw[w,XP,xao M,xco]at h1;have h2:4294967296^j*2^r=2^i:=by rw[hi,xbj,xcg,(mD:(2:K)^32=4294967296)]
   have T:U/2^i/y*2^i=U/2^(i+1)/y*2^(i+1)+2^i:=by rw[w1,xbi,xcP,v]
   have V:U/2^i/y*2^i<4294967296^n:=by rw[show(4294967296:K)^n=2^(32*n)by rw[xcg,(mD:(2:K)^32=4294967296)]];refine xaK ?_ c;exact xal (xaj _<|xcD _ _)<|xcG _ _
   rw[XP,xao V,T];lia
  rw[S P,za O,S O,za (cD (fu:=fu) (qC _) (qC y) hl W<|by rw[qO,qO];exact hc),qO,qO];rw[wM mD,zb,wM mD,zb,zn (by rw[yV];exact b),A,wM mD,A,y8,a,A,A,w,o1,zn (by rw[yV];exact b),A,hp,zb,<-g];exact l _ ⟨i,W,O⟩ (by show((i:J)-1+1).toNat<(((i+1:K):J)-1+1).toNat;lia);have x:=xdp hc;have⟨w1,g⟩:=u x;rw[qI<|Int.ofNat_lt.2 x,ir mD,za O];simp only[xai,uP];rw[zb,<-g,<-v,<-w1];exact l _ ⟨i,W,O⟩ (by show((i:J)-1+1).toNat<(((i+1:K):J)-1+1).toNat;lia);exact hl
 rw[xbh c,Nat.zero_mod,Nat.zero_div,xcC,tF,gh,(W:(32:J)*(n:J)-1=((32*n:K):J)-1)]
def Cy{a b:N K}(c:zm a)(d:zm b)(hd:X a<=40000)(h:X b<=40000)(e:3000000<=fu):
 Kq fu a b=Z (if nv b=0 then([],[],3)else(yH<|nv a/nv b,yH<|nv a%nv b,0)):=by
 unfold Kq;have l1:=Vq c;have k:=Vq d;have f:=xR (fu:=fu) c;rw[za<|xR d];generalize nv a=U at*
 generalize nv b=y at*
 by_cases h0:y=0
 subst h0;rfl;have l:=Oa (n:=y) W;have hc:U<4294967296^X (Vg U):=(va _ _).1<|So _;have hi:X (Vg<|U%y)<=X (Vg y):=(va _ _).2<|xff (xaN _ W)<|(va _ _).1<|So _;rw[zD,ir h0,za f,yI,y8,A,zb,zb,za<|zgR W W W e];simp only;have g:U/y<4294967296^X (Vg U):=xaK (xcD _ _) hc;rw[za (jM (qQ _ _) (by rw[yV];lia)<|by rw[yV];lia),XP,xao g,za (jM (qC _) W W),qO]
end
section
variable{k fu:wr}{y:wn}{a b m:Zr}
def gy(z:M):Prop:=zm z.2/\X z.2<=40000
theorem gy.ok{z:M}(h:gy z):iU z:=⟨h.1,xal h.2 mD⟩
def Bz.okS{x:J}(h:Bz k x)(c:k<=40000):gy (yG x):=⟨yN x,xal ((zJ _ _).2 h) c⟩
def Bz.len{x:J}(h:Bz k x):(yG x).2.length<=k:=(zJ _ _).2 h
theorem zbD{x q r:J}(c:y≠0)(h:y*q+r=x)(h0:0<=r:=by lia)(h1:r<(y.natAbs:J):=by lia):x/y=q/\x%y=r:=by grind [Int.ediv_emod_unique',Int.ediv_emod_unique]
def MU(x y:J):M×M×J:=if y=0 then((I,[]),(I,[]),3)else(yG<|x/y,yG<|x%y,0)
theorem Rk{q0 r0:K}(n:nv b.2≠0)(j:q0=nv a.2/nv b.2)(f:r0=nv a.2%nv b.2):
 (¬(a.1=wL/\0<r0)->zv a/zv b=(if(!(a.1==b.1))=wL then-(q0:J)else(q0:J))/\zv a%zv b=(r0:J))/\
 (a.1=wL/\0<r0->zv a/zv b=(if(!(a.1==b.1))=wL then-((q0+1:K):J)else((q0+1:K):J))/\zv a%zv b=((nv b.2-r0:K):J)):=by
 have hd:=xbs (nv a.2)<|nv b.2;have l:=xaN (nv a.2) (W:0<nv b.2);rw[<-j,<-f]at hd;rw[<-f]at l;have g:zv b≠0:=by have:=vI b;lia
 have o:=vI b;have hc:((nv b.2:K):J)*(q0:J)+(r0:J)=((nv a.2:K):J):=by rw[<-hd];simp
 refine⟨λh=> ?_,λh=> ?_⟩;refine zbD g ?_;rcases xX a with⟨h1,e⟩|⟨h1,e⟩<;>rcases xX b with⟨c,d⟩|⟨c,d⟩<;>rw[h1,c,e,d]
 grind;grind;rw[S mD,Int.neg_mul_neg];lia;rw[ir mD];lia;refine zbD g ?_;have⟨h1,hp⟩:=h;have e1:((nv b.2-r0:K):J)=((nv b.2:K):J)-(r0:J):=W
 have i:((nv b.2:K):J)*(((q0+1:K)):J)=((nv b.2:K):J)*(q0:J)+((nv b.2:K):J):=by rw[xfm,xfx];simp
 rcases xX a with⟨_,e⟩|⟨h,_⟩
 rcases xX b with⟨c,d⟩|⟨c,d⟩<;>rw[h1,c,e,d,e1]
 rw[ir mD,Int.neg_mul,i];lia;rw[S mD,Int.mul_neg,i];lia;rw[h1]at h;cases h
theorem BY:zv b=0↔nv b.2=0:=by have:=vI b;lia
theorem Ud(d:gy a)(c:gy b)(j:3000000<=fu):WG fu a b=Z (MU (zv a)<|zv b):=by
 unfold WG MU;have l:=d.2;have i:=c.2;rw[U<|pX d.1 c.1 W W j];by_cases h0:nv b.2=0
 rw[S h0,S<|BY.2 h0];rfl;rw[ir h0,ir<|λh=>h0<|BY.1 h];simp only[uS];have⟨q0,e⟩:∃q0,q0=nv a.2/nv b.2:=⟨_,O⟩;have⟨r0,f⟩:∃r0,r0=nv a.2%nv b.2:=⟨_,O⟩;have n:X (yH q0)<=40000:=by refine xal ((zJ (X a.2) q0).2 ?_) l;rw[e];exact xaK (xcD _ _)<|vn d.1
 have hd:r0<nv b.2:=by rw[f];exact xaN _ W
 have q:X (yH r0)<=40000:=xal ((zJ (X b.2) r0).2<|xff hd<|vn c.1) i;have o:X (yH<|nv b.2-r0)<=40000:=xal ((zJ (X b.2) _).2<|xaK (xfd _ _)<|vn c.1) i;have⟨k1,k2⟩:=Rk h0 e f;rw[<-e,<-f];have p:X (yH<|q0+1)<=40001:=uX (y:=1) n mD;by_cases hc:a.1=wL/\0<r0;have⟨w1,g⟩:=k2 hc;have:=qg hc.2;rw[S hc.1,yg,U (v:=(yH<|q0+1,yH<|nv b.2-r0))];rw[w1,g];simp only;rw[A,U (yM (zt _) W W),U (yM (zt _) W W),zV,zV];rfl;rw[U (ZG (zt _) (dj mD) W mK<|by simp;lia),zV,tH,U (Q4 c.1 (zt _) W W W),zV,zD];have⟨w1,g⟩:=k1 hc;rw[U (v:=(yH q0,yH r0))];rw[w1,g];simp only;rw[A,U (yM (zt _) W W),U (yM (zt _) W W),zV,zV];rfl;by_cases h1:a.1=wL;have:r0=0:=xfs λhp=>hc ⟨h1,hp⟩;subst this;rw[S h1,ir mD];rw[ir h1]
def dk(e:gy a)(c:gy b)(d:3000000<=fu):Vs fu a b=Z (MU (zv a)<|zv b):=by
 unfold Vs MU;have l:=e.2;have j:=c.2;rw[U<|Cy e.1 c.1 W W d];by_cases h0:nv b.2=0
 rw[S h0,S<|BY.2 h0];rfl;rw[ir h0,ir<|λh=>h0<|BY.1 h];simp only[uS];have⟨q0,f⟩:∃q0,q0=nv a.2/nv b.2:=⟨_,O⟩;have⟨r0,g⟩:∃r0,r0=nv a.2%nv b.2:=⟨_,O⟩;have n:X (yH q0)<=40000:=by refine xal ((zJ (X a.2) q0).2 ?_) l;rw[f];exact xaK (xcD _ _)<|vn e.1
 have hd:r0<nv b.2:=by rw[g];exact xaN _ W
 have q:X (yH r0)<=40000:=xal ((zJ (X b.2) r0).2<|xff hd<|vn c.1) j;have o:X (yH<|nv b.2-r0)<=40000:=xal ((zJ (X b.2) _).2<|xaK (xfd _ _)<|vn c.1) j;have⟨k1,k2⟩:=Rk h0 f g;rw[<-f,<-g];have p:X (yH<|q0+1)<=40001:=uX (y:=1) n mD;by_cases hc:a.1=wL/\0<r0;have⟨w1,i⟩:=k2 hc;have:=qg hc.2;rw[S hc.1,yg,U (v:=(yH<|q0+1,yH<|nv b.2-r0))];rw[w1,i];simp only;rw[A,U<|xf (zt _) (by show(yH _).length<=_;lia) d,U<|xf (zt _) (by show(yH _).length<=_;lia) d,EB,EB];rfl;rw[U (fL (zt _) (dj mD) W mK W),zV,tH,U (JW c.1 (zt _) W W W),zV,zD];have⟨w1,i⟩:=k1 hc;rw[U (v:=(yH q0,yH r0))];rw[w1,i];simp only;rw[A,U<|xf (zt _) (by show(yH _).length<=_;lia) d,U<|xf (zt _) (by show(yH _).length<=_;lia) d,EB,EB];rfl;by_cases h1:a.1=wL;have:r0=0:=xfs λhp=>hc ⟨h1,hp⟩;subst this;rw[S h1,ir mD];rw[ir h1]
def GM(x m:J):M×J:=if m<=0 then((I,[]),1)else(yG<|x%m,0)
def near(x m:J):J:=if m<x%m+x%m then x%m-m else x%m
def zgj(x m:J):M×J:=if m<=0 then((I,[]),1)else(yG<|near x m,0)
theorem Bz.emod{x m:J}(c:Bz k m)(h0:0<m):Bz k (x%m):=by have h1:=xcH x (W:m≠0);have d:=xdK x h0;exact c.le W
theorem Bz.near{k:K}{x m:J}(c:Bz k m)(h0:0<m):Bz k (near x m):=by have h1:=xcH x (W:m≠0);have d:=xdK x h0;refine c.le ?_;unfold Go.Proofs.YtoegnnjcmlghhaaGreat.near;lia
theorem Mr{x:J}:kh x 0<=0↔x<=0:=by grind [qI,kP,vJ]
theorem SG{x:J}:0<kh x y↔y<x:=by grind [qI,kP,vJ]
theorem xL{x:J}:kh x y=0↔x=y:=by grind [qI,kP,vJ]
theorem Yr(c:gy a)(d:gy m)(e:3000000<=fu):q6 fu a m=Z (GM (zv a)<|zv m):=by grind [q6,MU,GM,U,xe,gy.ok,Mr,Ud]
def Be(g:gy a)(d:gy m)(f:3000000<=fu):Y8 fu a m=Z (zgj (zv a)<|zv m):=by
 unfold Y8 zgj;rw[U<|Yr g d f];unfold GM;by_cases h:zv m<=0
 simp_all;have c:Bz 40000 (zv a%zv m):=Bz.emod ((Bz.of d.1).mono d.2) W;rw[ir h,ir h];simp only[uS];have hl:=d.2;have i:=(c.add c).ok W;have j:=(c.add c).len;rw[U<|vZ (c.okS W).ok (c.okS W).ok f,zo,U<|Yd i d.ok f,zo];unfold near;by_cases hc:zv m<zv a%zv m+zv a%zv m;rw[S<|SG.2 hc,S hc,U<|qd (c.okS W).ok d.ok f,zo];rw[ir<|λe=>hc<|SG.1 e,ir hc]
end
section
variable{f g:wr->wn}{j m k fu:wr}{p:xS Zr}
def zi(n:K)(f:K->J):N M:=(xaO n).map λk=>yG<|f k
def cf(p:N M)(k:K):J:=zv<|p.getD k (I,[])
def dg(f:K->J):K->K
 |0=>0
 |n+1=>if f n=0 then dg f n else n+1
def wK(n:K)(f:K->J):N M:=zi (dg f n) f
def xa(k:K)(p:N M):Prop:=∀z∈p,zm z.2/\X z.2<=k
def XI(f:K->J)(j:K)(v:J):K->J:=λk=>if k=j then v else f k
theorem Vn(p:N M)(k:K):zv (p.getD k (I,[]))=cf p k:=O
theorem yz(n:K)(f:K->J):X (zi n f)=n:=by unfold zi;simp
theorem Yq{n:K}(h:j<n):(zi n f).getD j (I,[])=yG (f j):=by simp_all [zi]
theorem y9{n:K}(h:∀k,k<n->f k=g k):zi n f=zi n g:=by simp_all [zi]
theorem bU{n:K}{v:J}:(zi n f).set j (yG v)=zi n (XI f j v):=by refine xcv λi=> ?_;unfold zi XI;by_cases h:j=i;grind;grind
theorem zgn:yG 0=(I,[]):=O
theorem bf(n:K):Nm n (I,[])=zi n (λ_=>0):=by grind [zi,zgn,List.map_const',xex]
theorem B5{n:K}:zi n f++[yG<|f n]=zi (n+1) f:=by grind [zi,xdj]
theorem O1{n:K}(h:j<n):cf (zi n f) j=f j:=by unfold cf;rw[Yq h,zo]
theorem yn(h:X p<=j):cf p j=0:=by unfold cf;rw[UV,xbn h];rfl
theorem KD{n:K}(h:∀k,n<=k->f k=0)(j:K):cf (zi n f) j=f j:=by grind [O1,yn,yz]
theorem qJ(f:K->J):∀n,dg f n<=n
 |0=>So _
 |n+1=>by unfold dg;split;exact xal (qJ f n)<|xbz _;exact So _
theorem VS(f:K->J):∀n k,dg f n<=k->k<n->f k=0
 |0,k,_,h=>wS h<|xbc _
 |n+1,k,h1,a=>by
  unfold dg at h1;split at h1;rename_i h0;by_cases b:k=n;simp_all;exact VS f n k h1 W
  lia
theorem Qj(f:K->J):∀n,dg f n≠0->f (dg f n-1)≠0
 |0,h=>wS O h
 |n+1,h=>by
  unfold dg at h⊢;split;rename_i h0;rw[S h0]at h;exact Qj f n h;simp_all
theorem K1{n d:K}(h1:d<=n)(b:∀k,d<=k->k<n->f k=0)(h3:d=0\/f (d-1)≠0):dg f n=d:=by
 have a:=qJ f n;rcases xfy (dg f n) d with h|h|h
 obtain h3|h3:=h3
 lia;exact wS (VS f n (d-1) W W) h3;exact h;exact wS (b (dg f n-1) W W)<|Qj f n W
theorem Y9{n:K}(b:∀k,n<=k->f k=0)(c:∀k,m<=k->g k=0)(h:∀k,f k=g k):wK n f=wK m g:=by
 have e:dg f n=dg g m:=by
  refine K1 ?_ ?_ ?_;refine xbx λd=> ?_;have:=Qj g m W;grind;intro k h1 i;rw[h];by_cases a:k<m;exact VS g m k h1 a;simp_all;by_cases h0:dg g m=0
  lia;right;rw[h];exact Qj g m h0
 unfold wK;rw[e];exact y9 λk _=>h k
theorem xC(n:K)(f:K->J):X (wK n f)=dg f n:=yz _ _
def jO{n:K}(h:∀k,n<=k->f k=0)(j:K):cf (wK n f) j=f j:=by refine KD (λk a=> ?_) j;by_cases hn:k<n;exact VS f n k a hn;simp_all
def xa.get(h:xa k p)(j:K):zm (p.getD j (I,[])).2/\(p.getD j (I,[])).2.length<=k:=by rw[UV];by_cases a:j<X p;rw[xab a];exact h _<|xbG a;rw[xbn W];exact⟨zm.nil,xae _⟩
theorem xa.okZ(h:xa k p)(a:k<=100000)(j:K):iU (p.getD j (I,[])):=⟨(h.get j).1,xal (h.get j).2 a⟩
def xa.okS(h:xa k p)(a:k<=40000)(j:K):gy (p.getD j (I,[])):=⟨(h.get j).1,xal (h.get j).2 a⟩
theorem xa.bz(h:xa k p)(j:K):Bz k (cf p j):=(Bz.of (h.get j).1).mono (h.get j).2
def xa.mono(h:xa j p)(b:j<=k):xa k p:=λz a=>⟨(h z a).1,xal (h z a).2 b⟩
theorem Bz.zero(k:K):Bz k 0:=xaY mD
def XH{n:K}(h:∀j,Bz k<|f j):xa k (zi n f):=λz a=>by
 obtain⟨j,_,rfl⟩:=xas.1 a;exact⟨yN _,(h j).len⟩
def BH{a:J->M->V M}(hl:X p<=1000000)(l:2000000<fu)(h:∀j:K,j<X p->a (j:J) (p.getD j (I,[]))=Z (yG<|g j)):
 zH fu p a=Z (zi (X p) g):=by
 unfold zH;rw[yI,y8,A,bf,U];refine zA (λs:J×N M=>∃i:K,i<=X p/\s=((i:J),zi (X p) (λk=>if k<i then g k else 0))) (λs=>X p-s.1.toNat) _ ?_ _ _ ⟨0,xae _,by rw[y9 (g:=λk=>if k<0 then g k else 0)<|λk _=>by rw[zD]];rfl⟩ (by show X p-0<fu;lia);rintro s L ⟨i,hi,rfl⟩ c;unfold w9;simp only;by_cases h1:i<X p;rw[yg,U O];simp only[uS];rw[zn h1,A,U<|h i h1,zn (by rw[yz];exact h1),A,bU,zb];refine c _ ⟨i+1,W,?_⟩ (by show X p-((i:J)+1).toNat<X p-(i:J).toNat;lia);congr 1;refine y9 λk d=> ?_;unfold XI;by_cases e:k=i;rw[S e,yg,e];rw[ir e];show(if k<i then g k else 0)=_;by_cases b:k<i;rw[S b,yg];rw[ir b,zD];rw[zD,U O];simp only[xai,uP];congr 1;exact y9 λk d=>by rw[yg]
def pO(h:f m=0):dg f (m+1)=dg f m:=by conv=>lhs;unfold dg;rw[S h]
def dE(h:f m≠0):dg f (m+1)=m+1:=by conv=>lhs;unfold dg;rw[ir h]
theorem H4(h:j<m):(p.take m).getD j (I,[])=p.getD j (I,[]):=by grind
theorem zI(h:xa k p)(c:k<=100000)(hl:X p<=1000000)(d:3000000<=fu):zQ fu p=Z (wK (X p)<|cf p):=by
 unfold zQ;have hd:=qJ (cf p) (X p);rw[U (v:=p.take<|dg (cf p) (X p))];have a:X (p.take<|dg (cf p) (X p))=dg (cf p) (X p):=by rw[xar];lia
 rw[U<|BH (g:=cf p) W W ?_,a];rfl;intro j i;rw[a]at i;unfold JF;rw[H4 i,U<|uf (h.okZ c j) d];rfl;refine zA (λt:N M=>∃m,m<=X p/\t=p.take m/\dg (cf p) m=dg (cf p) (X p)) (λt=>X t) _ ?_ _ _ ⟨X p,So _,xca.symm,O⟩ W;rintro t L ⟨m,n,rfl,b⟩ l;have a:X (p.take m)=m:=by rw[xar];lia
 unfold fS
 cases m with
 |zero=>
  rw[zD,<-b];rfl
 |succ m=>
  rw[yg,a,(W:((m+1:K):J)-1=(m:J)),zb,yo,A,H4 W,U<|xe (h.okZ c m) d,Vn];by_cases h0:cf p m=0
  rw[S<|xL.2 h0,zb,yI,y8,A,List.take_take,(W:min m (m+1)=m)];exact l _ ⟨m,W,O,by rw[<-pO h0,b]⟩<|by rw[a,xar];lia
  rw[ir<|λe=>h0<|xL.1 e,<-b,dE h0]
theorem vN(h:xa k p)(d:k<=100000)(hl:X p<=1000000)(c:3000000<=fu):vz fu p=Z (wK (X p)<|cf p):=by
 unfold vz;have hd:=qJ (cf p) (X p);rw[U (v:=((dg (cf p) (X p):K):J))];rw[U (v:=wK (X p)<|cf p)];unfold wK;refine zA (λs:N M×J=>∃i:K,i<=dg (cf p) (X p)/\s=(zi i<|cf p,(i:J))) (λs=>X p-s.2.toNat) _ ?_ _ _ ⟨0,xae _,O⟩ (by show X p-0<fu;lia);rintro s L ⟨i,hi,rfl⟩ a;unfold cX;simp only;by_cases h1:i<dg (cf p) (X p);rw[yg,yo,A,U<|xf (h.get i).1 (by have:=(h.get i).2;lia) c,wM (by rw[yz];simp;lia),A,zb];exact a _ ⟨i+1,W,by rw[<-B5];rfl⟩ (by show X p-((i:J)+1).toNat<X p-(i:J).toNat;lia);grind;refine zA (λi:J=>∃m:K,i=(m:J)/\m<=X p/\dg (cf p) m=dg (cf p) (X p)) (λi=>i.toNat) _ ?_ _ _ ⟨X p,O,So _,O⟩ W;rintro i L ⟨m,rfl,l,b⟩ a;unfold dF
 cases m with
 |zero=>rw[zD,<-b];rfl
 |succ m=>
  rw[yg,(W:((m+1:K):J)-1=(m:J)),zb,yo,A,U<|VW (h.okZ d m) c,Vn];by_cases h0:cf p m=0
  rw[S<|xL.2 h0,zb];exact a _ ⟨m,O,W,by rw[<-pO h0,b]⟩ W
  rw[ir<|λe=>h0<|xL.1 e,<-b,dE h0]
end
section
variable{a b p:xS Zr}{k fu j l:wr}{h g:wr->Zr}
theorem VE(h:max (X a) (X b)<=k:=by lia):cf a k+cf b k=0:=by grind [yn]
theorem zah(c:xa k a)(d:xa k b)(e:k<=100000)(f:3000000<=fu)(hc:X b<=1000000)(j:K)(i:j<X b):
 ur fu (j:J) (b.getD j (I,[])) a=Z (if j<X a then yG (cf a j+cf b j)else b.getD j (I,[])):=by grind [ur,zn,A,U,vZ,xa.okZ,Vn]
def Ax(a b:N M):N M:=(xaO (X b)).map λj=>if j<X a then yG (cf a j+cf b j)else b.getD j (I,[])
theorem zfI{n:K}(c:j<n):((xaO n).map h).getD j (I,[])=h j:=by grind
theorem map_set{n i:K}:((xaO n).map h).set i (g i)=(xaO n).map (λk=>if k=i then g k else h k):=by refine xcv λm=> ?_;by_cases e:i=m;grind;grind
def zin{c:J->M->V M}(hl:X p<=1000000)(n:2000000<fu)(h:∀j:K,j<X p->c (j:J) (p.getD j (I,[]))=Z (g j)):
 zH fu p c=Z ((xaO (X p)).map g):=by
 unfold zH;have e0:Nm (X p) ((I,[]):M)=(xaO (X p)).map (λk=>if k<0 then g k else(I,[])):=by rw[bf];rfl
 rw[yI,y8,A,e0,U];refine zA (λs:J×N M=>∃i:K,i<=X p/\s=((i:J),(xaO (X p)).map (λk=>if k<i then g k else(I,[])))) (λs=>X p-s.1.toNat) _ ?_ _ _ ⟨0,xae _,O⟩ (by show X p-0<fu;lia);rintro s L ⟨i,hi,rfl⟩ m;unfold w9;simp only;by_cases h1:i<X p;rw[yg,U O];simp only[uS];rw[zn h1,A,U<|h i h1,zn (by simp;exact h1),A,map_set,zb];refine m _ ⟨i+1,W,?_⟩ (by show X p-((i:J)+1).toNat<X p-(i:J).toNat;lia);congr 1;refine xcc λk d=> ?_;by_cases e:k=i;rw[S e,yg,e];rw[ir e];by_cases f:k<i;rw[S f,yg];rw[ir f,zD];rw[zD,U O];simp only[xai,uP];congr 1;refine xcc λk d=> ?_;have:=xbd.1 d;rw[yg]
theorem zhS(i:xa k a)(d:xa k b)(o:k+1<=100000)(hd:X b<=1000000)(m:3000000<=fu)(hl:X a<=X b):
 Y (zH fu b<|λe f=>ur fu e f a) (λt1=>Y (zQ fu t1) λt2=>Z t2)=Z (wK (max (X a) (X b))<|λj=>cf a j+cf b j):=by
 have q:X (Ax a b)=X b:=by unfold Ax;simp
 have r:∀j,j<X b->(Ax a b).getD j (I,[])=if j<X a then yG (cf a j+cf b j)else b.getD j (I,[]):=λj c=>by unfold Ax;rw[zfI c]
 have hc:∀j,cf (Ax a b) j=cf a j+cf b j:=λj=>by
  by_cases c:j<X b;conv=>lhs;unfold cf
  rw[r j c];by_cases h:j<X a;rw[S h,zo];rw[ir h,yn (p:=a) W,xcI];rfl;rw[yn W,yn W,yn W];rfl
 have s:xa (k+1) (Ax a b):=λz n=>by
  unfold Ax at n;obtain⟨j,c,rfl⟩:=xas.1 n;split;exact⟨yN _,((i.bz j).add<|d.bz j).len⟩;exact(d.mono<|xbz k).get j
 rw[U<|zin (g:=λj=>if j<X a then yG (cf a j+cf b j)else b.getD j (I,[])) hd W λj c=>zah i d W m hd j c];show Y (zQ fu<|Ax a b) _=_;rw[U<|zI s o W m,q];congr 1;refine Y9 (λj c=>yn W) (λj c=>VE c) hc
theorem fM(c:xa k a)(d:xa k b)(e:k+1<=100000)(hc:X a<=1000000)(hd:X b<=1000000)(f:3000000<=fu):
 qc fu a b=Z (wK (max (X a) (X b))<|λj=>cf a j+cf b j):=by grind [qc,zhS]
theorem lU:JI fu p (j:J)=Z (p.getD j (I,[])):=by grind [JI,zn,A]
def ey(c:xa k a)(d:xa k b)(m:k+1<=100000)(hc:X a<=1000000)(hd:X b<=1000000)(e:3000000<=fu):
 VB fu a b=Z (wK (max (X a) (X b))<|λj=>cf a j+cf b j):=by
 unfold VB;have⟨n,hn⟩:∃n,n=max (X a) (X b):=⟨_,O⟩;have r:n<=1000000:=W
 have o:xa (k+1) (zi n<|λj=>cf a j+cf b j):=XH λj=>(c.bz j).add<|d.bz j;rw[U (v:=zi n<|λj=>cf a j+cf b j)];rw[U<|vN o m (by rw[yz];lia) e,yz,<-hn];congr 1;exact Y9 (λj f=>yn<|by rw[yz];lia) (λj f=>VE)<|λj=>KD (λj f=>VE) j;refine zA (λs:N M×J=>∃i:K,i<=n/\s=(zi i<|λj=>cf a j+cf b j,(i:J))) (λs=>n-s.2.toNat) _ ?_ _ _ ⟨0,xae _,O⟩ (by show n-0<fu;lia);rintro s L ⟨i,hi,rfl⟩ q;unfold mi;simp only;rw[A];by_cases h1:i<n;rw[yg,U lU,U lU,U<|gw (c.okZ W i) (d.okZ W i) e,Vn,Vn,wM (by rw[yz];simp;lia),A,zb];exact q _ ⟨i+1,W,by rw[<-B5];rfl⟩ (by show n-((i:J)+1).toNat<n-(i:J).toNat;lia);rw[zD];obtain rfl:i=n:=W
 rfl
def Wo{c:J}(h:X a<=k):cf a k*c=0:=by rw[yn h,xba]
def iU.of{z:M}(h:zm z.2/\X z.2<=k)(c:k<=100000):iU z:=⟨h.1,xal h.2 c⟩
def jX{c:M}(e:xa k a)(hc:zm c.2/\X c.2<=l)(i:k+l<=100000)(hd:X a<=1000000)(f:3000000<=fu):
 qf fu a c=Z (wK (X a)<|λj=>cf a j*zv c):=by
 unfold qf;have m:xa (k+l) (zi (X a)<|λj=>cf a j*zv c):=XH λj=>(e.bz j).mul<|(Bz.of hc.1).mono hc.2;rw[U<|BH hd W ?_];rw[U<|zI m i (by rw[yz];lia) f,yz];congr 1;exact Y9 (λj d=>yn<|by rw[yz];lia) (λj d=>Wo d)<|λj=>KD (λj d=>Wo d) j;intro j d;unfold Qo;rw[U<|yj (e.okZ W j) (iU.of hc W) f,Vn]
theorem tG{c:M}(e:xa k a)(hc:zm c.2/\X c.2<=l)(m:k+l<=100000)(hd:X a<=1000000)(f:3000000<=fu):
 W1 fu a c=Z (wK (X a)<|λj=>cf a j*zv c):=by
 unfold W1;have n:xa (k+l) (zi (X a)<|λj=>cf a j*zv c):=XH λj=>(e.bz j).mul<|(Bz.of hc.1).mono hc.2;rw[U (v:=zi (X a)<|λj=>cf a j*zv c)];rw[U<|vN n m (by rw[yz];lia) f,yz];congr 1;exact Y9 (λj d=>yn<|by rw[yz];lia) (λj d=>Wo d)<|λj=>KD (λj d=>Wo d) j;refine zA (λs:N M×J=>∃i:K,i<=X a/\s=(zi i<|λj=>cf a j*zv c,(i:J))) (λs=>X a-s.2.toNat) _ ?_ _ _ ⟨0,xae _,O⟩ (by show X a-0<fu;lia);rintro s L ⟨i,hi,rfl⟩ o;unfold cr;simp only;by_cases h1:i<X a;rw[yg,zn h1,A,U<|b6 (e.okZ W i) (iU.of hc W) f,Vn,wM (by rw[yz];simp;lia),A,zb];exact o _ ⟨i+1,W,by rw[<-B5];rfl⟩ (by show X a-((i:J)+1).toNat<X a-(i:J).toNat;lia);grind
def aG(a b:N M):N M:=wK (max (X a) (X b))<|λj=>cf a j-cf b j
def xi{n:K}{f:K->J}(h:∀j,Bz k<|f j):xa k (wK n f):=XH h
theorem SH{m:K}(d:m=dg (λj=>cf b j* -1) (X b)):wK (max (X a) (X (wK (X b)<|λj=>cf b j* -1))) (λj=>cf a j+cf (wK (X b)<|λj=>cf b j* -1) j)=aG a b:=by have e:∀j,cf (wK (X b)<|λj=>cf b j* -1) j=cf b j* -1:=jO λj c=>Wo c;refine Y9 (λj c=>VE c) (λj c=> ?_)<|λj=> ?_;rw[yn W,yn W];rfl;grind
theorem Bz.one:∀{k:K},1<=k->Bz k (-1):=by grind [Bz]
def Zh(e:xa k a)(d:xa k b)(i:k+2<=100000)(hc:X a<=1000000)(f:X b<=1000000)(c:3000000<=fu):
 kv fu a b=Z (aG a b):=by
 unfold kv;have hd:=qJ (λj=>cf b j* -1) (X b);rw[U<|yw mD c,U<|jX d ⟨yN _,(Bz.one<|So _).len⟩ W f c,zo,U<|fM (e.mono W) (xi λj=>(d.bz j).mul<|Bz.one<|So _) W hc (by rw[xC];lia) c,SH O]
def Dt(e:xa k a)(c:xa k b)(i:k+2<=100000)(hc:X a<=1000000)(f:X b<=1000000)(d:3000000<=fu):
 KQ fu a b=Z (aG a b):=by
 unfold KQ;have hd:=qJ (λj=>cf b j* -1) (X b);rw[U (lQ mD),U<|tG c ⟨yN _,(Bz.one<|So _).len⟩ W f d,zo,U<|ey (e.mono W) (xi λj=>(c.bz j).mul<|Bz.one<|So _) W hc (by rw[xC];lia) d,SH O]
end
section
variable{kb ka fu:wr}{b a:xS Zr}
def Rj(b:N M)(i k:K):J:=if i<=k then cf b (k-i)else 0
def YZ(a b:N M):K->K->J
 |0,_=>0
 |n+1,k=>YZ a b n k+cf a n*Rj b n k
def Yu(a b:N M)(i j k:K):J:=YZ a b i k+if i<=k/\k<i+j then cf a i*cf b (k-i)else 0
def xb(a b:N M):N M:=wK (X a+X b)<|YZ a b (X a)
theorem zfA(c:xa kb b)(i k:K):Bz kb (Rj b i k):=by grind [Rj,Bz.zero,xa.bz]
def oU{ka kb:K}{a b:N M}(c:xa ka a)(d:xa kb b):∀n k,Bz (ka+kb+n) (YZ a b n k)
 |0,k=>Bz.zero _
 |n+1,k=>by
  have h:=((c.bz n).mul<|zfA d n k).mono (W:ka+kb<=ka+kb+n);exact Bz.add (oU c d n k) h
def DF(c:xa ka a)(d:xa kb b)(i j k:K):Bz (ka+kb+i+1) (Yu a b i j k):=by
 refine Bz.add (oU c d i k) ?_;split;exact((c.bz i).mul<|d.bz _).mono W
 exact Bz.zero _
def N2{a b:N M}{k:K}:∀{n},n+X b<=k+1->YZ a b n k=0
 |0,_=>rfl
 |n+1,h=>by
  unfold YZ Rj;rw[N2 W,yg,yn (p:=b) W,xaA];rfl
def UQ{k:K}(h:X a+X b<=k:=by lia):YZ a b (X a) k=0:=N2 W
def rm(a b:N M)(i k:K):Yu a b i 0 k=YZ a b i k:=by unfold Yu;lia
theorem oV(a b:N M)(i k:K):Yu a b i (X b) k=YZ a b (i+1) k:=by rw[show YZ a b (i+1) k=YZ a b i k+cf a i*Rj b i k from O];unfold Yu Rj;by_cases h:i<=k;rw[S h];by_cases c:k<i+X b;lia;rw[ir<|λe=>c e.2,yn (p:=b) W,xaA];grind
def rb(a b:N M)(i j k:K):XI (Yu a b i j) (i+j) (Yu a b i j (i+j)+cf a i*cf b j) k=Yu a b i (j+1) k:=by unfold XI;by_cases h:k=i+j;subst h;unfold Yu;simp_all;skip;unfold Yu;by_cases c:i<=k/\k<i+j;lia;lia
def xY(c:xa ka a)(d:xa kb b)(o:ka+kb+X a+1<=100000)(hc:X b<=100000)(g:3000000<=fu):wI fu a b=Z (xb a b):=by
 unfold wI;rw[zb,(W:(X a:J)+(X b:J)=((X a+X b:K):J)),yI,y8,A,bf];have⟨n,hn⟩:∃n,n=X a+X b:=⟨_,O⟩;rw[<-hn,U (v:=zi n<|YZ a b (X a))];rw[U<|zI (XH<|oU c d (X a)) W (by rw[yz];lia) g,yz];congr 1;unfold xb;exact Y9 (λj f=>yn<|by rw[yz];lia) (λj f=>UQ f)<|λj=>KD (λj f=>UQ) j;refine zA (λs:J×N M=>∃i:K,i<=X a/\s=((i:J),zi n<|YZ a b i)) (λs=>X a-s.1.toNat) _ ?_ _ _ ⟨0,xae _,O⟩ (by show X a-0<fu;lia);rintro s L ⟨i,hi,rfl⟩ l;unfold lZ;simp only;by_cases h1:i<X a;rw[yg,U O];simp only[uS];rw[zn h1,A,U (v:=zi n<|YZ a b<|i+1),zb];exact l _ ⟨i+1,W,O⟩ (by show X a-((i:J)+1).toNat<X a-(i:J).toNat;lia);refine zA (λs:J×N M×M=>∃j:K,j<=X b/\s=((j:J),zi n<|Yu a b i j,a.getD i (I,[]))) (λs=>X b-s.1.toNat) _ ?_ _ _ ⟨0,xae _,by rw[y9 λk _=>(rm a b i k).symm];rfl⟩ (by show X b-0<fu;lia);rintro s p ⟨j,f,rfl⟩ h;unfold lS;simp only;by_cases m:j<X b;rw[yg,U O];simp only[uS];have e:(i:J)+(j:J)=((i+j:K):J):=W
 have hp:=DF c d i j<|i+j;rw[zn m,A,e,zb,zb,zn (by rw[yz];lia),A,Yq W,U<|yj (c.okZ W i) (d.okZ W j) g,Vn,Vn,U<|vZ (hp.ok W) (((c.bz i).mul<|d.bz j).ok W) g,zo,zo,zn (by rw[yz];lia),A,bU,zb];exact h _ ⟨j+1,W,by rw[y9 λk _=>rb a b i j k];rfl⟩ (by show X b-((j:J)+1).toNat<X b-(j:J).toNat;lia);rw[zD,U O];simp only[xai,uP];obtain rfl:j=X b:=W
 rw[y9 λk _=>oV a b i k];rw[zD,U O];simp only[xai,uP];obtain rfl:i=X a:=W
 rfl
def CP(c:xa ka a)(d:xa kb b)(o:ka+kb+X a+1<=100000)(hc:X b<=100000)(g:3000000<=fu):KR fu a b=Z (xb a b):=by
 unfold KR;rw[zb,(W:(X a:J)+(X b:J)=((X a+X b:K):J)),yI,y8,A,bf];have⟨n,hn⟩:∃n,n=X a+X b:=⟨_,O⟩;rw[<-hn,U (v:=zi n<|YZ a b (X a))];rw[U<|vN (XH<|oU c d (X a)) W (by rw[yz];lia) g,yz];congr 1;unfold xb;exact Y9 (λj f=>yn<|by rw[yz];lia) (λj f=>UQ f)<|λj=>KD (λj f=>UQ) j;refine zA (λs:J×N M=>∃i:K,i<=X a/\s=((i:J),zi n<|YZ a b i)) (λs=>X a-s.1.toNat) _ ?_ _ _ ⟨0,xae _,O⟩ (by show X a-0<fu;lia);rintro s L ⟨i,hi,rfl⟩ l;unfold mx;simp only;by_cases h1:i<X a;rw[yg,U (v:=(a,b,zi n<|YZ a b<|i+1))];simp only;rw[zb];exact l _ ⟨i+1,W,O⟩ (by show X a-((i:J)+1).toNat<X a-(i:J).toNat;lia);refine zA (λs:N M×N M×J×N M=>∃j:K,j<=X b/\s=(a,b,(j:J),zi n<|Yu a b i j)) (λs=>X b-s.2.2.1.toNat) _ ?_ _ _ ⟨0,xae _,by rw[y9 λk _=>(rm a b i k).symm];rfl⟩ (by show X b-0<fu;lia);rintro s p ⟨j,f,rfl⟩ h;unfold ll;simp only;by_cases m:j<X b;rw[yg];have e:(i:J)+(j:J)=((i+j:K):J):=W
 have hp:=DF c d i j<|i+j;rw[e,zb,zb,zn (by rw[yz];lia),A,Yq W,zn h1,A,zn m,A,U<|b6 (c.okZ W i) (d.okZ W j) g,Vn,Vn,U<|gw (hp.ok W) (((c.bz i).mul<|d.bz j).ok W) g,zo,zo,zn (by rw[yz];lia),A,bU,zb];exact h _ ⟨j+1,W,by rw[y9 λk _=>rb a b i j k];rfl⟩ (by show X b-((j:J)+1).toNat<X b-(j:J).toNat;lia);rw[zD];obtain rfl:j=X b:=W
 rw[y9 λk _=>oV a b i k];rw[zD];obtain rfl:i=X a:=W
 rfl
def Y2(c:xa ka a)(d:xa kb b):xa (ka+kb+X a) (xb a b):=xi<|oU c d (X a)
theorem MM(a b:N M)(k:K):cf (xb a b) k=YZ a b (X a) k:=jO (λj c=>UQ c) k
def ug(a b:N M):X (xb a b)<=X a+X b:=by unfold xb;rw[xC];exact qJ _ _
end
section
variable{f g:wr->wn}{fu k:wr}{a:xS Zr}{m:Zr}{a2:Zr->Zr->ww (Zr×wn)}
theorem CX{f g:K->J}:∀{n},(∀k,k<n->f k=g k)->dg f n=dg g n
 |0,_=>rfl
 |n+1,h=>by
  unfold dg;rw[h n W,CX λk b=>h k W]
theorem Wg{n:K}(h:∀k,k<n->f k=g k):wK n f=wK n g:=by grind [wK,CX,qJ,y9]
def C9{n:K}:wK n (cf<|zi n f)=wK n f:=Wg λk b=>O1 b
def N0{l:K}{c:J}(n:gy m)(h0:0<zv m)(r:X a<=1000000)(hl:l<=100000)(o:∀j,Bz l<|g j)(b:3000000<=fu)(h:∀j,j<X a->a2 (a.getD j (I,[])) m=Z (yG<|g j,c)):
 qH fu a m a2=Z (wK (X a) g,0):=by
 unfold qH;rw[U<|xe n.ok b,ir (λe=>by have:=Mr.1 e;lia),yI,y8,A,bf,U (v:=zi (X a) g)];rw[U<|zI (XH o) hl (by rw[yz];lia) b,yz,C9];refine zA (λs:J×N M=>∃i:K,i<=X a/\s=((i:J),zi (X a) (λk=>if k<i then g k else 0))) (λs=>X a-s.1.toNat) _ ?_ _ _ ⟨0,xae _,by rw[y9 (g:=λk=>if k<0 then g k else 0)<|λk _=>by rw[zD]];rfl⟩ (by show X a-0<fu;lia);rintro s L ⟨i,hi,rfl⟩ p;unfold UM;simp only;by_cases h1:i<X a;rw[yg,U O];simp only[uS];rw[zn h1,A,U<|h i h1];simp only;rw[zn (by rw[yz];exact h1),A,bU,zb];refine p _ ⟨i+1,W,?_⟩ (by show X a-((i:J)+1).toNat<X a-(i:J).toNat;lia);congr 1;refine y9 λk q=> ?_;unfold XI;by_cases e:k=i;rw[S e,yg,e];rw[ir e];show(if k<i then g k else 0)=_;by_cases d:k<i;rw[S d,yg];rw[ir d,zD];rw[zD,U O];simp only[xai,uP];congr 1;exact y9 λk q=>by rw[yg]
theorem Iu(b:gy m)(h0:zv m<=0)(c:3000000<=fu):qH fu a m a2=Z ([],1):=by grind [qH,U,xe,gy.ok,Mr]
def vF(a:N M)(m:J):N M:=wK (X a)<|λj=>cf a j%m
def pK(a:N M)(m:J):N M:=wK (X a)<|λj=>near (cf a j) m
def zdS(a:N M)(m:J):N M×J:=if m<=0 then([],1)else(vF a m,0)
def S6(a:N M)(m:J):N M×J:=if m<=0 then([],1)else(pK a m,0)
def gy.bz{z:M}(h:gy z):Bz 40000 (zv z):=(Bz.of h.1).mono h.2
theorem cB(e:xa k a)(h:k<=40000)(b:gy m)(hc:X a<=1000000)(d:3000000<=fu):Xh fu a m=Z (zdS a<|zv m):=by
 unfold Xh zdS;by_cases h0:zv m<=0
 rw[U<|Iu b h0 d,S h0];have⟨K,i⟩:∃K,K=40000:=⟨_,O⟩;have l:Bz K (zv m):=by rw[i];exact b.bz
 rw[ir h0,U<|N0 (c:=0) b W hc (W:K<=100000) (λj=>l.emod W) d λj n=> ?_];rfl;show q6 fu _ _=_;rw[Yr (e.okS h j) b d];unfold GM;rw[ir h0];rfl
def Ai(e:xa k a)(h:k<=40000)(b:gy m)(hc:X a<=1000000)(d:3000000<=fu):WO fu a m=Z (S6 a<|zv m):=by
 unfold WO S6;by_cases h0:zv m<=0
 rw[U<|Iu b h0 d,S h0];have⟨K,i⟩:∃K,K=40000:=⟨_,O⟩;have l:Bz K (zv m):=by rw[i];exact b.bz
 rw[ir h0,U<|N0 (c:=0) b W hc (W:K<=100000) (λj=>l.near W) d λj n=> ?_];rfl;show Y8 fu _ _=_;rw[Be (e.okS h j) b d];unfold zgj;rw[ir h0];rfl
def Br{c d:K}{b:N M}(e:xa c a)(h:xa d b)(l:c+d+X a+1<=40000)(hc:X b<=40000)(j:gy m)(i:3000000<=fu):Jh fu a b m=Z (zdS (xb a b)<|zv m):=by unfold Jh;have:=ug a b;rw[U<|xY e h W W i,U<|cB (Y2 e h) W j W i]
end
section
def NZ(n:K)(f:K->J):wK (X (wK n f)) (cf<|wK n f)=wK n f:=by
 have e:∀k,k<dg f n->cf (wK n f) k=f k:=λk a=>O1 a;have h:dg (cf<|wK n f) (X (wK n f))=dg f n:=by
  rw[xC];refine K1 (So _) (λk h1 b=>by lia) ?_;by_cases h0:dg f n=0
  lia;right;rw[e _ W];exact Qj f n h0
 show zi (dg (cf<|wK n f) (X (wK n f))) (cf<|wK n f)=wK n f;rw[h];exact y9 e
theorem zh1{p:N M}(h:p=wK (X p) (cf p)):p=zi (X p) (cf p):=by grind [wK,xC]
def Xq{p:N M}(h:p=wK (X p) (cf p))(h0:X p≠0):cf p (X p-1)≠0:=by grind [xC,Qj]
def De{p:N M}(h:p=wK (X p) (cf p)){j:K}(a:j<X p:=by lia):p.getD j (I,[])=yG (cf p j):=by grind [zh1,Yq]
def QY(n:K)(f:K->J):wK n f=wK (X (wK n f)) (cf<|wK n f):=(NZ n f).symm
def NC{p:N M}(h:p=wK (X p) (cf p)){l:K}(a:∀k,l<=k->cf p k=0):X p<=l:=by refine xbx λb=> ?_;exact Xq h W<|a _ W
def dvF(r d:N M)(m:J)(qn:K):K->K->J
 |0=>cf r
 |s+1=>λk=>dvF r d m qn s k-(dvF r d m qn s (qn-(s+1)+(X d-1))%m)*Rj d (qn-(s+1)) k
def Fb(r d:N M)(m:J)(qn i:K):K->J:=dvF r d m qn<|qn-i
def TU(r d:N M)(m:J)(qn i:K):J:=Fb r d m qn (i+1) (i+(X d-1))%m
section
variable{r d:xS Zr}{m:wn}{qn:wr}
def BL:Fb r d m qn qn=cf r:=by unfold Fb;rw[xcE];rfl
theorem DV{i:K}(h:i<qn)(k:K):Fb r d m qn i k=Fb r d m qn (i+1) k-TU r d m qn i*Rj d i k:=by unfold TU Fb;have⟨s,a⟩:∃s,s=qn-(i+1):=⟨_,O⟩;rw[(W:qn-i=s+1)];show dvF r d m qn s k-(dvF r d m qn s (qn-(s+1)+(X d-1))%m)*Rj d (qn-(s+1)) k=_;grind
def LX{K:wr}(a:xa K r)(hd:xa K d)(b:Bz K m)(h0:0<m):∀s k,Bz (2*K+s) (dvF r d m qn s k)
 |0,k=>(a.bz k).mono W
 |s+1,k=>by
  have h:=((Bz.emod (x:=dvF r d m qn s<|qn-(s+1)+(X d-1)) b h0).mul<|zfA hd (qn-(s+1)) k).mono (W:K+K<=2*K+s);exact Bz.sub (LX a hd b h0 s k) h
def zaz{K:wr}(a:Bz K m)(h0:0<m)(i:wr):Bz K (TU r d m qn i):=Bz.emod a h0
end
def Xe{fu k:K}{a:N M}{m:M}(b:xa k a)(c:k<=40000)(d:gy m)(h0:0<zv m)(hc:X a<=1000000:=by lia)(e:3000000<=fu:=by lia):xq fu a m=Z (vF a<|zv m):=by grind [xq,zdS,U,cB]
def ay{K:wr}{a:N M}{m:J}(b:Bz K m)(h0:0<m):xa K (vF a m):=xi λj=>Bz.emod b h0
theorem Xo(a:N M)(m:J):X (vF a m)<=X a:=by unfold vF;rw[xC];exact qJ _ _
def uM(a:N M)(m:J)(k:K):cf (vF a m) k=cf a k%m:=jO (λj b=>by rw[yn b,xap]) k
def U7(a:N M)(m:J):vF a m=wK (X (vF a m)) (cf<|vF a m):=QY _ _
def dvQ(r d:N M)(m:J)(qn:K):K->J:=λk=>if k<qn then TU r d m qn k else 0
def Gq(r d:N M)(m:J):N M:=wK (X r+1-X d)<|λk=>dvQ r d m (X r+1-X d) k%m
def W5(r d:N M)(m:J):N M:=wK (X r)<|λk=>Fb r d m (X r+1-X d) 0 k%m
def BD(r d:N M)(m:J)(qn i j:K):K->J:=λk=>Fb r d m qn (i+1) k-if i<=k/\k<i+j then TU r d m qn i*cf d (k-i)else 0
def zc9{r d:N M}{m:J}{qn i k:K}:BD r d m qn i 0 k=Fb r d m qn (i+1) k:=by unfold BD;lia
def zdc{r d:N M}{m:J}{qn i:K}(h:i<qn)(k:K):BD r d m qn i (X d) k=Fb r d m qn i k:=by rw[DV h];unfold BD Rj;by_cases h:i<=k;rw[S h];by_cases a:k<i+X d;lia;rw[ir<|λe=>a e.2,yn W,xaA];grind
def zdO(r d:N M)(m:J)(qn i j k:K):XI (BD r d m qn i j) (i+j) (BD r d m qn i j (i+j)-TU r d m qn i*cf d j) k=BD r d m qn i (j+1) k:=by unfold XI;by_cases h:k=i+j;subst h;unfold BD;simp_all;skip;unfold BD;by_cases a:i<=k/\k<i+j;lia;lia
def zkZ{K:wr}{r d:N M}{m:J}{qn i j:wr}(b:xa K r)(hd:xa K d)(a:Bz K m)(h0:0<m)(h:i<qn)(k:wr):Bz (2*K+qn+1) (BD r d m qn i j k):=by
 refine Bz.sub ((LX b hd a h0 _ k).mono W) ?_;split;exact((zaz a h0 i).mul<|hd.bz _).mono W
 exact Bz.zero _
def zc5{fu K n i qn:wr}{r d:N M}{m:M}{q:wr->J}(c:xa K r)(hd:xa K d)(a:Bz K (zv m))(h0:0<zv m)(hn:X r=n)(o:qn=n+1-X d)(p:0<X d)(hi:i<qn)(t:2*K+n+5<=40000)(g:q i=TU r d (zv m) qn i)(b:3000000<=fu):
 zg (Yz fu d (i:J)) fu (d,m,0,zi n<|Fb r d (zv m) qn<|i+1,zi qn q)=Z (d,m,zi n<|Fb r d (zv m) qn i,zi qn q):=by
 refine zA (λs:N M×M×J×N M×N M=>∃j:wr,j<=X d/\s=(d,m,(j:J),zi n<|BD r d (zv m) qn i j,zi qn q)) (λs=>X d-s.2.2.1.toNat) _ ?_ _ _ ⟨0,xae _,by rw[y9 (f:=BD r d (zv m) qn i 0) λk _=>zc9];rfl⟩ (by show X d-0<fu;lia);rintro s L ⟨j,u,rfl⟩ h;unfold Yz;simp only;by_cases l:j<X d;rw[yg,U O];simp only[uS];have e:(i:J)+(j:J)=((i+j:wr):J):=W
 have hp:=zkZ (j:=j) c hd a h0 hi<|i+j;have hc:=zaz (r:=r) (d:=d) (qn:=qn) a h0 i;rw[zn l,A,e,zb,zb,zn (by rw[yz];lia),A,Yq W,zn (by rw[yz];lia),A,Yq hi,g,U<|yj (hc.ok W) (hd.okZ W j) b,Vn,zo,U<|qd (hp.ok W) ((hc.mul<|hd.bz j).ok W) b,zo,zo,zn (by rw[yz];lia),A,bU,zb];exact h _ ⟨j+1,W,by rw[y9 λk _=>zdO r d (zv m) qn i j k];rfl⟩ (by show X d-((j:J)+1).toNat<X d-(j:J).toNat;lia);rw[zD,U O];simp only[xai,uP];obtain rfl:j=X d:=W
 rw[y9 λk _=>zdc hi k]
def Mx{fu K n qn:wr}{r d:N M}{m:M}(a:xa K r)(j:r=zi n (cf r))(hd:xa K d)(b:Bz K (zv m))(hc:zm m.2)(v:X m.2<=K)(h0:0<zv m)(hn:X r=n)(l:qn=n+1-X d)(o:0<X d)(p:2*K+n+5<=40000)(w:X d<=1000000)(c:3000000<=fu):
 zg (Yx fu d m) fu ((qn:J)-1,r,Nm qn (I,[]))=Z (zi n<|Fb r d (zv m) qn 0,zi qn<|dvQ r d (zv m) qn):=by
 refine zA (λs:J×N M×N M=>∃i:wr,i<=qn/\s=((i:J)-1,zi n<|Fb r d (zv m) qn i,zi qn (λk=>if i<=k then TU r d (zv m) qn k else 0))) (λs=>(s.1+1).toNat) _ ?_ _ _ ⟨qn,So _,?_⟩ (by show((qn:J)-1+1).toNat<fu;lia);rintro s L ⟨i,hi,rfl⟩ t;unfold Yx;simp only
 cases i with
 |zero=>
  have e0:(zi qn λk=>if 0<=k then TU r d (zv m) qn k else 0)=zi qn (dvQ r d (zv m) qn):=y9 λk e=>by
   rw[S<|xae _];unfold dvQ;lia
  rw[zD,e0]
 |succ i=>
  have e1:((i+1:wr):J)-1=(i:J):=W
  have u:(i:J)+(X d:J)-1=((i+(X d-1):wr):J):=W
  have hp:Bz (2*K+qn) (Fb r d (zv m) qn (i+1)<|i+(X d-1)):=(LX a hd b h0 _ _).mono W;rw[e1,yg,zb,u,zb,zn (by rw[yz];lia),A,Yq W,U<|Yr (hp.okS W) ⟨hc,W⟩ c,zo];unfold GM;rw[zD];simp only;rw[zn (by rw[yz];lia),A,bU,U<|zc5 (q:=XI (λk=>if i+1<=k then TU r d (zv m) qn k else 0) i<|Fb r d (zv m) qn (i+1) (i+(X d-1))%zv m) a hd b h0 hn l o W p ?_ c];simp only;rw[zb];refine t _ ⟨i,W,?_⟩ (by show((i:J)-1+1).toNat<(((i+1:wr):J)-1+1).toNat;lia);congr 2;refine y9 λk e=> ?_;unfold XI;by_cases h:k=i;rw[S h,yg,h];rfl;rw[ir h];show(if i+1<=k then _ else _)=_;by_cases f:i+1<=k;rw[S f,yg];rw[ir f,zD];unfold XI;rw[S O];rfl
 rw[BL,<-j,bf,y9 (g:=λk=>if qn<=k then TU r d (zv m) qn k else 0) λk e=>by rw[zD]]
def QA{fu k K:wr}{a d:N M}{m:M}(i:xa k a)(b:k<=40000)(hd:xa K d)(e:zm m.2)(hi:X m.2<=K)(h0:0<zv m)(l:0<X d)(s:2*K+X a+5<=40000)(hn:X d<=1000000)(o:3000000<=fu):
 jT fu a d m=Z (Gq (vF a<|zv m) d<|zv m,W5 (vF a<|zv m) d<|zv m):=by
 unfold jT;have c:Bz K (zv m):=(Bz.of e).mono hi;have f:gy m:=⟨e,W⟩;have g:=ay (a:=a) c h0;have hl:=Xo a<|zv m;have hc:=zh1<|U7 a<|zv m;rw[U<|Xe i b f h0];generalize vF a (zv m)=r at*
 have⟨qn,h⟩:∃qn,qn=X r+1-X d:=⟨_,O⟩;have e1:max ((X r:J)-(X d:J)+1) 0=(qn:J):=W
 rw[zb,zb,A,e1,yI,y8,A,xaM,zb,U<|Mx g hc hd c e hi h0 O h l W hn o];simp only;have p:∀j,Bz K (dvQ r d (zv m) qn j):=λj=>by
  unfold dvQ;split;exact zaz c h0 j;exact Bz.zero _
 have q:∀j,Bz (2*K+qn) (Fb r d (zv m) qn 0 j):=λj=>(LX g hd c h0 _ _).mono W;rw[U (Xe (XH p) W f h0<|by rw[yz];lia),U<|Xe (XH q) W f h0<|by rw[yz];lia];unfold Gq W5 vF;rw[<-h,yz,yz,Wg λk b=>by rw[O1 b],Wg (n:=X r) λk b=>by rw[O1 b]]
end
def mono(i:K)(c:J):K->J:=λk=>if k=i then c else 0
def zcw(i:K)(c:J)(k:K):cf (zi (i+1)<|mono i c) k=mono i c k:=by grind [mono,KD]
def GF{d:N M}{i:K}{c:J}(k:K):∀n,n<=i->YZ (zi (i+1)<|mono i c) d n k=0
 |0,_=>rfl
 |n+1,h=>by
  unfold YZ;rw[GF k n W,zcw];unfold mono;grind
def zcQ(d:N M)(i:K)(c:J)(k:K):cf (xb (zi (i+1)<|mono i c) d) k=c*Rj d i k:=by simp_all [mono,YZ,MM,yz,GF,zcw]
def zbE(a b:N M)(k:K):cf (aG a b) k=cf a k-cf b k:=jO (λj c=>by rw[yn W,yn W];rfl) k
def UJ(a b:N M):X (aG a b)<=max (X a) (X b):=by unfold aG;rw[xC];exact qJ _ _
def B8{k:K}{a b:N M}(c:xa k a)(d:xa k b):xa (k+1) (aG a b):=xi λj=>(c.bz j).sub<|d.bz j
def Bz.one':∀{k:K},1<=k->Bz k 1:=by grind [Bz]
def zeT{a b:N M}(hl:X a=X b)(h:∀j,j<X a->a.getD j (I,[])=b.getD j (I,[])):a=b:=by grind [xed]
def Hy{d:N M}(h:X d≠0:=by lia):d.drop (X d-1)=[d.getD (X d-1) (I,[])]:=by grind [xbV]
def DS{l:N K}(h:(Ty.l .u).ok l):zm l:=λx a=>h.2 x a
def zj8{p:N M}(h:(Ty.l (.p .b (.l .u))).ok p){k:K}(c:∀z∈p,X z.2<=k):xa k p:=λz a=>⟨DS (h.2 z a).2,c z a⟩
def zde{l:N M}{i:K}(h:i<X l):l.getD i (I,[])∈l:=by grind
def zhY{l:N M}{q:M->Prop}(h:∀j,j<X l->q (l.getD j (I,[]))):∀z∈l,q z:=by grind [xcq]
section
def Hr{a b:N M}(k:K):∀c,YZ a b (X a+c) k=YZ a b (X a) k
 |0=>rfl
 |c+1=>by
  show YZ a b (X a+c) k+cf a (X a+c)*Rj b (X a+c) k=_;rw[Hr k c,yn W,xba,xbW]
def Rs{a b:N M}{n:K}(h:X a<=n)(k:K):YZ a b n k=YZ a b (X a) k:=by have:=Hr (a:=a) (b:=b) k<|n-X a;simp_all
def DR{a b:N M}{m:J}(h:∀k,cf a k%m=cf b k%m):vF a m=vF b m:=by grind [vF,Y9,yn,xap]
section
variable{r d:xS Zr}{m:wn}
theorem zch{qn:K}{q:N M}(a:∀j,j<qn->cf q j=TU r d m qn j)(k:K):∀n,n<=qn->Fb r d m qn n k=Fb r d m qn 0 k+YZ q d n k
 |0,_=>by show _=_+0;lia
 |n+1,h=>by
  have b:=zch a k n W;rw[DV W]at b;show _=_+(YZ q d n k+cf q n*Rj d n k);grind
def zb3(j:K):cf (Gq r d m) j=dvQ r d m (X r+1-X d) j%m:=jO (λk a=>by unfold dvQ;rw[zD,xap]) j
def Dn{qn:K}(hn:X r<=qn+(X d-1))(a:0<X d)(hc:cf d (X d-1)=1):∀c i k,i+c=qn->i+(X d-1)<=k->Fb r d m qn i k%m=0
 |0,i,k,hi,b=>by
  obtain rfl:i=qn:=W
  rw[BL,yn W,xap]
 |c+1,i,k,hi,b=>by
  rw[DV W];by_cases h:k=i+(X d-1);unfold Rj TU;simp_all;have e:=Dn hn a hc c (i+1) k W W;unfold Rj;rw[yg,yn W,xaA,xdh];exact e
def nL(h:X r<=X r+1-X d+(X d-1))(a:0<X d)(hc:cf d (X d-1)=1)(k:K):cf (W5 r d m) k=Fb r d m (X r+1-X d) 0 k%m:=
 jO (λj b=>by
  by_cases c:X d<=X r;exact Dn h a hc _ 0 j (xaJ _) W
  rw[(W:X r+1-X d=0),BL,yn b,xap]) k
def Fq(a:0<X d)(hc:cf d (X d-1)=1):X (W5 r d m)<X d:=by
 have h:X (W5 r d m)<=X d-1:=NC (QY _ _) λk b=>by
  rw[show wK (X r) (λk=>Fb r d m (X r+1-X d) 0 k%m)=W5 r d m from O,nL W a hc];exact Dn W a hc _ 0 k (xaJ _) W
 lia
end
end
section
variable{m:wn}
def yu:K->(K->J)->J
 |0,_=>0
 |n+1,f=>yu n f+f n
def yC{f g:K->J}:∀{n},(∀k,k<n->f k=g k)->yu n f=yu n g
 |0,_=>rfl
 |n+1,h=>by
  show yu n f+f n=yu n g+g n;rw[yC λk a=>h k W,h n W]
def Y5(f g:K->J):∀n,yu n (λk=>f k+g k)=yu n f+yu n g
 |0=>rfl
 |n+1=>by
  show yu n _+(f n+g n)=yu n f+f n+(yu n g+g n);rw[Y5 f g n];lia
theorem Ze(c:J)(f:K->J):∀n,yu n (λk=>c*f k)=c*yu n f
 |0=>by show 0=c*0;lia
 |n+1=>by
  show yu n _+c*f n=c*(yu n f+f n);rw[Ze c f n,xfx]
theorem zdo(c:J)(f:K->J)(n:K):yu n (λk=>f k*c)=yu n f*c:=by grind [Ze,xbJ]
def yZ:∀{n}{f:K->J},(∀k,k<n->f k=0)->yu n f=0
 |0,_,_=>rfl
 |n+1,f,h=>by
  show yu n f+f n=0;rw[yZ λk a=>h k W,h n W];rfl
def Zj(f:K->J):∀n,yu (n+1) f=f 0+yu n (λk=>f<|k+1)
 |0=>by show 0+f 0=f 0+0;lia
 |n+1=>by
  show yu (n+1) f+f (n+1)=f 0+(yu n _+f (n+1));rw[Zj f n];lia
def R0(f:K->J):∀n,yu (n+1) f=yu (n+1) (λk=>f<|n-k)
 |0=>rfl
 |n+1=>by
  rw[Zj (λk=>f<|n+1-k)<|n+1];show yu (n+1) f+f (n+1)=f (n+1-0)+_;rw[R0 f n,Nat.sub_zero,yC (f:=λk=>f<|n+1-(k+1)) λk _=>by rw[(W:n+1-(k+1)=n-k)]];lia
def LV{f:K->J}{n:K}(h:∀k,n<=k->f k=0):∀c,yu (n+c) f=yu n f
 |0=>rfl
 |c+1=>by
  show yu (n+c) f+f (n+c)=_;rw[LV h c,h _ W];lia
theorem Px(G:K->K->J):∀n,yu n (λi=>yu (i+1)<|λj=>G j<|i-j)=yu n (λj=>yu (n-j)<|λl=>G j l)
 |0=>rfl
 |n+1=>by
  show yu n _+yu (n+1) (λj=>G j<|n-j)=yu n _+yu (n+1-n) (λl=>G n l);rw[Px G n,yC (f:=λj=>yu (n+1-j)<|λl=>G j l) (g:=λj=>yu (n-j) (λl=>G j l)+G j (n-j)) λj a=>by rw[(W:n+1-j=(n-j)+1)];rfl,Y5,(W:n+1-n=1)];show _+(yu n (λj=>G j<|n-j)+G n (n-n))=_+(0+G n 0);grind
abbrev Pz:=K->J
instance:_root_.Add Pz:=⟨λf g k=>f k+g k⟩
instance:_root_.Sub Pz:=⟨λf g k=>f k-g k⟩
instance:_root_.Neg Pz:=⟨λf k=> -f k⟩
instance:_root_.Mul Pz:=⟨λf g k=>yu (k+1)<|λi=>f i*g (k-i)⟩
def pc(c:J):Pz:=λk=>if k=0 then c else 0
theorem zP(f g:Pz)(k:K):(f+g) k=f k+g k:=O
theorem y7(f g:Pz)(k:K):(f-g) k=f k-g k:=O
theorem zb8(f:Pz)(k:K):(-f) k= -f k:=O
theorem wV(f g:Pz)(k:K):(f*g) k=yu (k+1) (λi=>f i*g (k-i)):=O
theorem zk(f g:Pz):f*g=g*f:=by funext k;rw[wV,R0];exact yC λi hi=>by rw[(W:k-(k-i)=i),xbJ]
theorem wG(f g h:Pz):f*(g+h)=f*g+f*h:=by funext k;rw[zP,wV,wV,wV,<-Y5];exact yC λi _=>by rw[zP,xfx]
theorem yW(f g h:Pz):(f+g)*h=f*h+g*h:=by grind [zk,wG]
theorem zcS(f g:Pz):f*(-g)= -(f*g):=by grind [zb8,yu,wV,Ze]
theorem Oo(f g:Pz):f-g=f+ -g:=by rfl
theorem qq(f g h:Pz):f*(g-h)=f*g-f*h:=by grind [Oo,wG,zcS]
theorem ke(f g h:Pz):(f-g)*h=f*h-g*h:=by grind [zk,qq]
theorem zd(f g h:Pz):f*g*h=f*(g*h):=by
 funext k;have e1:(f*g*h) k=yu (k+1) (λi=>yu (i+1)<|λj=>(λj l=>f j*g l*h (k-(j+l))) j<|i-j):=by rw[wV];refine yC λi hi=> ?_;rw[wV,<-zdo];exact yC λj a=>by grind
 rw[e1,Px<|λj l=>f j*g l*h (k-(j+l)),wV];refine yC λj a=> ?_;rw[wV,<-Ze,(W:k+1-j=k-j+1)];exact yC λl hl=>by
  show f j*g l*h (k-(j+l))=f j*(g l*h (k-j-l));rw[(W:k-(j+l)=k-j-l),xcY]
theorem zE(f g h:Pz):f*(g*h)=g*(f*h):=by grind [zd,zk]
theorem zU(c:J)(f:Pz)(k:K):(pc c*f) k=c*f k:=by simp_all [pc,wV,Zj,yZ]
def zC(f:Pz):pc 1*f=f:=by funext k;rw[zU,xdd]
def yB(f:Pz):pc 0*f=pc 0:=by funext k;rw[zU,xba];unfold pc;split<;>rfl
def zO(k:K):pc 0 k=0:=by unfold pc;split<;>rfl
def jx(a b:J):pc a*pc b=pc (a*b):=by funext k;rw[zU];unfold pc;split;rfl;lia
def Cg(m:J)(f g:Pz):Prop:=∀k,f k%m=g k%m
def Cg.rfl{f:Pz}:Cg m f f:=λ_=>Eq.refl _
def Cg.of{f g:Pz}(h:f=g):Cg m f g:=λ_=>by rw[h]
def Cg.symm{m:J}{f g:Pz}(h:Cg m f g):Cg m g f:=λk=>(h k).symm
def Cg.trans{m:J}{f g h:Pz}(h1:Cg m f g)(a:Cg m g h):Cg m f h:=λk=>(h1 k).trans<|a k
def Cg.add{f f' g a:Pz}(h1:Cg m f f')(b:Cg m g a):Cg m (f+g) (f'+a):=λk=>by
 rw[zP,zP,xej,h1,b,<-xej]
def Cg.sub{f f' g a:Pz}(h1:Cg m f f')(b:Cg m g a):Cg m (f-g) (f'-a):=λk=>by
 rw[y7,y7,Int.sub_emod,h1,b,<-Int.sub_emod]
def gX{m:J}{f g:K->J}:∀{n},(∀k,k<n->f k%m=g k%m)->yu n f%m=yu n g%m
 |0,_=>Eq.refl _
 |n+1,h=>by
  show(yu n f+f n)%m=(yu n g+g n)%m;rw[xej,gX λk a=>h k W,h n W,<-xej]
def Cg.mul{f f' g a:Pz}(h1:Cg m f f')(b:Cg m g a):Cg m (f*g) (f'*a):=λk=>by
 exact gX λi _=>by rw[xcd,h1,b,<-xcd]
def Cg.down{n:J}{f g:Pz}(h:Cg m f g)(hd:n∣m):Cg n f g:=λk=>by
 have:=h k;rw[<-xcA (f k) hd,this,xcA _ hd]
def Cg.dvd{f:Pz}(h:Cg m f (pc 0))(k:K):m∣f k:=xaF<|by rw[h,zO,xap]
def Cg.of_dvd{f:Pz}(h:∀k,m∣f k):Cg m f (pc 0):=λk=>by rw[zO,xap,xax<|h k]
def fW{m:J}{f:K->J}:∀{n},(∀k,k<n->m∣f k)->m∣yu n f
 |0,_=>xdD _
 |n+1,h=>Int.dvd_add (fW λk a=>h k W)<|h n W
def Cg.mul_zero{n:J}{f g:Pz}(a:Cg m f (pc 0))(b:Cg n g (pc 0)):Cg (m*n) (f*g) (pc 0):=Cg.of_dvd λk=>by
 exact fW λi _=>xfV (a.dvd i)<|b.dvd _
def Cg.mul_zero_l{f:Pz}(g:Pz)(a:Cg m f (pc 0)):Cg m (g*f) (pc 0):=by have:=(Cg.rfl (f:=g)).mul a;rw[zk g<|pc 0,yB]at this;lia
def Cg.iff_sub{f g:Pz}:Cg m f g↔Cg m (f-g) (pc 0):=by constructor;intro h;refine Cg.of_dvd λk=> ?_;exact xaF<|xaL.1<|h k;intro h k;have:=xax<|h.dvd k;exact xaL.2 this
end
section
variable{m:wn}{f g h s:Pz}
theorem yp(f:Pz):f*pc 1=f:=by rw[zk,zC]
def zjv(f g h s t e q:Pz):f-(g+(t*e+q*g))*(h+(s*e-q*h))=(f-g*h-e)+(e*(pc 1-(s*g+t*h))-(t*s)*(e*e)+(t*h-g*s)*(q*e)+(g*h)*(q*q)):=by simp only[wG,qq,yp,zE,zk];funext k;simp only[zP,y7];lia
def zeB(g h s t b c:Pz):(s-(s*b-c*h))*g+(t-(t*b+c*g))*h-pc 1=(s*g+t*h-pc 1-b)-(s*g+t*h-pc 1-b)*b-b*b:=by simp only[wG,qq,yp,zE,zk];funext k;simp only[zP,y7];lia
def Cg.zero_add(a:Cg m f (pc 0))(b:Cg m g (pc 0)):Cg m (f+g) (pc 0):=Cg.of_dvd λk=>by skip;exact Int.dvd_add (a.dvd k)<|b.dvd k
def Cg.zero_sub(a:Cg m f (pc 0))(b:Cg m g (pc 0)):Cg m (f-g) (pc 0):=Cg.of_dvd λk=>by skip;exact xdu (a.dvd k)<|b.dvd k
def Cg.mul_zero_r(g:Pz)(a:Cg m f (pc 0)):Cg m (f*g) (pc 0):=by rw[zk];exact a.mul_zero_l g
def zgN{n:J}(b:m∣n*n)(hn:n∣m){t e q r d i:Pz}(h1:Cg n f (g*h))(p:Cg n (s*g+t*h) (pc 1))(j:Cg m e (f-g*h))(hd:Cg m (s*e) (q*h+r))(c:Cg n q (pc 0))(v:Cg n r (pc 0))(l:Cg m d (g+(t*e+q*g)))(o:Cg m i (h+r)):
 Cg m f (d*i)/\Cg n d g/\Cg n i h:=by
 have a:Cg n e (pc 0):=(j.down hn).trans<|Cg.iff_sub.1 h1;have hc:Cg m r (s*e-q*h):=by
  refine Cg.iff_sub.2<|Cg.of_dvd λk=> ?_;have:=(Cg.iff_sub.1 hd).dvd k;simp only[zP,y7]at this⊢;have e1:r k-((s*e) k-(q*h) k)= -((s*e) k-((q*h) k+r k)):=W
  simp_all
 refine⟨?_,?_,?_⟩;refine Cg.trans ?_<|Cg.symm<|l.mul<|o.trans<|Cg.rfl.add hc;refine Cg.iff_sub.2 ?_;rw[zjv];have u:Cg m (f-g*h-e) (pc 0):=Cg.iff_sub.1 j.symm;have z2:Cg n (pc 1-(s*g+t*h)) (pc 0):=Cg.iff_sub.1 p.symm;exact u.zero_add ((((a.mul_zero z2).down b).zero_sub<|((a.mul_zero a).down b).mul_zero_l _).zero_add (((c.mul_zero a).down b).mul_zero_l _)|>.zero_add (((c.mul_zero c).down b).mul_zero_l _));refine(l.down hn).trans<|Cg.iff_sub.2 ?_;have e1:g+(t*e+q*g)-g=t*e+q*g:=by funext k;simp only[zP,y7];lia
 rw[e1];exact(a.mul_zero_l t).zero_add<|c.mul_zero_r g;refine(o.down hn).trans<|Cg.iff_sub.2 ?_;have e1:h+r-h=r:=by funext k;simp only[zP,y7];lia
 simp_all
def zgP{n:J}(o:m∣n*n)(hn:n∣m){t b c d a e:Pz}(p:Cg n (s*g+t*h) (pc 1))(i:Cg m b (s*g+t*h-pc 1))(hd:Cg m (s*b) (c*h+d))(q:Cg m a (s-d))(ht:Cg m e (t-(t*b+c*g))):
 Cg m (a*g+e*h) (pc 1):=by
 have j:=(i.down hn).trans<|Cg.iff_sub.1 p;have hc:Cg m d (s*b-c*h):=by
  refine Cg.iff_sub.2<|Cg.of_dvd λk=> ?_;have:=(Cg.iff_sub.1 hd).dvd k;simp only[zP,y7]at this⊢;have e1:d k-((s*b) k-(c*h) k)= -((s*b) k-((c*h) k+d k)):=W
  simp_all
 refine((q.trans<|Cg.rfl.sub hc).mul Cg.rfl|>.add (ht.mul Cg.rfl)).trans<|Cg.iff_sub.2 ?_;rw[zeB];have l:=Cg.iff_sub.1 i.symm;exact(l.zero_sub<|l.mul_zero_r b).zero_sub<|(j.mul_zero j).down o
end
section
variable{a p:wn}{fu j m:wr}{f g:Pz}{l:xS wn}
theorem zhL(hp:0<p):(if xcB a p<0 then xcB a p+p else xcB a p)=a%p:=by have h1:=xcH a (W:p≠0);have b:=xdK a hp;by_cases h:0<=a\/p∣a;grind;grind
theorem iH(b:0<=a:=by lia):xcB a p=a%p:=by grind
def xg(hp:0<p:=by lia):0<=a%p/\a%p<p:=⟨xcH a W,xdK a hp⟩
theorem YF(h1:1<=p)(b:p<=65521)(c:XB a):Zn fu a p=Z (a%p):=by unfold Zn;have d:=xg (a:=a) (p:=p);have ht:=zhL (a:=a) (p:=p) W;rw[zD,y8,A];by_cases h:xcB a p<0;rw[S h]at ht;rw[S h,zb,ht];grind
def zl(n:K)(f:Pz):N J:=(xaO n).map f
def ci(l:N J):Pz:=λk=>l.getD k 0
def nl(n:K)(f:Pz):N J:=zl (dg f n) f
def QJ(l:N J)(k:K):l.getD k 0=ci l k:=O
theorem ye(n:K)(f:Pz):X (zl n f)=n:=by unfold zl;simp
def kI{n:K}(h:j<n:=by lia):(zl n f).getD j 0=f j:=by simp_all [zl]
theorem y3{n:K}(h:∀k,k<n->f k=g k):zl n f=zl n g:=by simp_all [zl]
theorem ZW{n:K}{v:J}:(zl n f).set j v=zl n (XI f j v):=by refine xcv λi=> ?_;unfold zl XI;by_cases h:j=i;grind;grind
theorem dD(n:K):Nm n 0=zl n (λ_=>0):=by grind [zl,List.map_const',xex]
theorem zjC{n:K}:zl n f++[f n]=zl (n+1) f:=by grind [zl,xdj]
def zbm{n:K}(h:m<=n:=by lia):(zl n f).take m=zl m f:=by unfold zl;rw[<-xfl,List.take_range,xck h]
theorem Zo{n:K}(h:j<n):ci (zl n f) j=f j:=kI h
theorem yA(h:X l<=j):ci l j=0:=by simp_all [ci]
theorem XM{n:K}(h:∀k,n<=k->f k=0)(j:K):ci (zl n f) j=f j:=by grind [Zo,yA,ye]
theorem Oq(l:N J):zl (X l) (ci l)=l:=by grind [zl,ci,ye,xed]
def zeH(n:K)(f:Pz):X (nl n f)=dg f n:=ye _ _
def Hd(n:K)(f:Pz):X (nl n f)<=n:=by rw[zeH];exact qJ _ _
def DP{n:K}(h:∀k,n<=k->f k=0)(j:K):ci (nl n f) j=f j:=by refine XM (λk b=> ?_) j;by_cases hn:k<n;exact VS f n k b hn;simp_all
theorem zoi{n:K}(c:∀k,n<=k->f k=0)(d:∀k,m<=k->g k=0)(h:∀k,f k=g k):dg f n=dg g m:=by
 refine K1 ?_ ?_ ?_;refine xbx λe=> ?_;have:=Qj g m W;grind;intro k h1 i;rw[h];by_cases b:k<m;exact VS g m k h1 b;simp_all;by_cases h0:dg g m=0
 lia;right;rw[h];exact Qj g m h0
theorem znX{n:K}(b:∀k,n<=k->f k=0)(c:∀k,m<=k->g k=0)(h:∀k,f k=g k):nl n f=nl m g:=by grind [nl,zoi,y3]
theorem PW{n:K}(h:∀k,k<n->f k=g k):nl n f=nl n g:=by grind [nl,CX,qJ,y3]
def Nl(l:N J):Prop:=X l=0\/ci l (X l-1)≠0
def AD(n:K)(f:Pz):Nl (nl n f):=by
 by_cases h:X (nl n f)=0
 exact .inl h;right;rw[zeH]at h⊢;unfold nl;rw[Zo W];exact Qj f n h
def Nl.eq(h:Nl l):l=nl (X l) (ci l):=by have e:=K1 (So _) (λk h1 b=>by lia)<|h.imp id id;unfold nl;rw[e,Oq]
def Nl.ext{a b:N J}(d:Nl a)(e:Nl b)(h:∀k,ci a k=ci b k):a=b:=by rw[d.eq,e.eq];exact znX (λk c=>yA c) (λk c=>yA c) h
theorem Nl.le(h:Nl l){n:K}(b:∀k,n<=k->ci l k=0):X l<=n:=by
 obtain h|h:=h
 lia;grind
def Rl(l:N J):Prop:=∀k,XB<|ci l k
structure Fp(p:J)(l:N J):Prop where
 nn:∀k,0<=ci l k
 lt:∀k,ci l k<p
 nl:Nl l
def pm(p:J)(l:N J):N J:=nl (X l)<|λk=>ci l k%p
def GG(p:J)(l:N J)(k:K):ci (pm p l) k=ci l k%p:=DP (λk b=>by rw[yA b,xap]) k
def zbz(p:J)(l:N J):X (pm p l)<=X l:=Hd _ _
def Dx(hp:0<p)(l:N J):Fp p (pm p l):=⟨λk=>by rw[GG];exact(xg hp).1,λk=>by rw[GG];exact(xg hp).2,AD _ _⟩
def OW(p:J)(l:N J):Cg p (ci<|pm p l) (ci l):=λk=>by rw[GG,xaQ]
def Fp.mod(h:Fp p l)(k:K):ci l k%p=ci l k:=xaH (h.nn k)<|h.lt k
def Fp.pm{p:J}{l:N J}(h:Fp p l):pm p l=l:=by refine Nl.ext (AD _ _) h.nl λk=> ?_;exact(GG p l k).trans<|h.mod k
theorem Fp.ext{p:J}{a b:N J}(c:Fp p a)(d:Fp p b)(h:Cg p (ci a) (ci b)):a=b:=Nl.ext c.nl d.nl λk=>by rw[<-c.mod,h,d.mod]
def Fp.rl(h:Fp p l)(hp:p<=65521):Rl l:=λk=>by
 have h1:=h.nn k;have b:=h.lt k;lia
def zK(h1:1<=p)(n:p<=65521)(o:Rl l)(hl:X l<=1000000)(r:3000000<=fu):yi fu l p=Z (pm p l):=by
 unfold yi;have hd:=qJ (λk=>ci l k%p) (X l);rw[yI,y8,A,dD,U (v:=zl (X l)<|λk=>ci l k%p)];rw[U (v:=pm p l)];refine zA (λt:N J=>∃m,m<=X l/\t=zl m (λk=>ci l k%p)/\dg (λk=>ci l k%p) m=dg (λk=>ci l k%p) (X l)) (λt=>X t) _ ?_ _ _ ⟨X l,So _,O,O⟩ (by rw[ye];lia);rintro t L ⟨m,u,rfl,b⟩ c;unfold cm;rw[ye]
 cases m with
 |zero=>
  rw[zD];unfold pm nl;rw[<-b];rfl
 |succ m=>
  rw[yg,(W:((m+1:K):J)-1=(m:J)),zb,yo,A,kI];by_cases h0:ci l m%p=0
  rw[S h0,zb,yI,y8,A,zbm];exact c _ ⟨m,W,O,by rw[<-pO (f:=λk=>ci l k%p) h0,b]⟩<|by rw[ye,ye];lia
  rw[ir h0];unfold pm nl;rw[<-b,dE (f:=λk=>ci l k%p) h0]
 refine zA (λs:J×N J=>∃i:K,i<=X l/\s=((i:J),zl (X l) (λk=>if k<i then ci l k%p else 0))) (λs=>X l-s.1.toNat) _ ?_ _ _ ⟨0,xae _,by rw[y3 (g:=λk=>if k<0 then ci l k%p else 0)<|λk _=>by rw[zD]];rfl⟩ (by show X l-0<fu;lia);rintro s L ⟨i,hi,rfl⟩ c;unfold cz;simp only;by_cases h:i<X l;rw[yg,zn h,A,QJ,U<|YF h1 n<|o i,zn (by rw[ye];exact h),A,ZW,zb];refine c _ ⟨i+1,W,?_⟩ (by show X l-((i:J)+1).toNat<X l-(i:J).toNat;lia);congr 1;refine y3 λk q=> ?_;unfold XI;by_cases e:k=i;rw[S e,yg,e];rw[ir e];show(if k<i then ci l k%p else 0)=_;by_cases d:k<i;rw[S d,yg];rw[ir d,zD];rw[zD];congr 1;exact y3 λk q=>by rw[yg]
end
section
variable{f g:Pz}{p:wn}{fu:wr}{a b:xS wn}
def sh(g:Pz)(i k:K):J:=if i<=k then g (k-i)else 0
def Te(f g:Pz)(n k:K):J:=yu n<|λi=>f i*sh g i k
theorem Nt{n:K}(d:∀k,n<=k->f k=0)(k:K):Te f g n k=(f*g) k:=by have e1:=LV (f:=λi=>f i*sh g i k) (λi hi=>by rw[d i hi,xba])<|k+1;have c:=LV (f:=λi=>f i*sh g i k) (n:=k+1) (λi hi=>by unfold sh;rw[zD,xaA]) n;rw[xdR]at c;unfold Te;rw[<-e1,c];exact yC λi hi=>by unfold sh;rw[yg]
theorem Ox(a b:N M)(k:K):∀n,YZ a b n k=Te (cf a) (cf b) n k
 |0=>rfl
 |n+1=>by
  show YZ a b n k+cf a n*Rj b n k=Te (cf a) (cf b) n k+cf a n*sh (cf b) n k;rw[Ox a b k n];rfl
theorem uj(a b:N M):cf (xb a b)=(cf a:Pz)*cf b:=by grind [MM,Ox,Nt,yn]
def BF(f g:Pz)(i j k:K):J:=Te f g i k+if i<=k/\k<i+j then f i*g (k-i)else 0
def zdu(f g:Pz)(i k:K):BF f g i 0 k=Te f g i k:=by unfold BF;lia
theorem zdl{n:K}(c:∀k,n<=k->g k=0)(i k:K):BF f g i n k=Te f g (i+1) k:=by show _=Te f g i k+f i*sh g i k;unfold BF sh;by_cases h:i<=k;grind;grind
def zdW(f g:Pz)(p:J)(i j k:K):XI (λk=>BF f g i j k%p) (i+j) ((BF f g i j (i+j)%p+f i*g j)%p) k=BF f g i (j+1) k%p:=by unfold XI;by_cases h:k=i+j;subst h;unfold BF;simp_all;rw[ir h];show BF f g i j k%p=_;unfold BF;congr 2;by_cases c:i<=k/\k<i+j;lia;lia
def xE(p:J)(a b:N J):N J:=nl (X a+X b)<|λk=>(ci a*ci b) k%p
theorem uy{n m:K}(c:∀k,n<=k->f k=0)(d:∀k,m<=k->g k=0){k:K}(h:n+m<=k+1:=by lia):(f*g) k=0:=by refine yZ λi hi=> ?_;by_cases h1:i<n;grind;simp_all
def aA(p:J)(a b:N J)(k:K):ci (xE p a b) k=(ci a*ci b) k%p:=DP (λk d=>by rw[uy (λj c=>yA c)<|λj c=>yA c,xap]) k
theorem ZF(p:J)(a b:N J):Cg p (ci<|xE p a b) (ci a*ci b):=λk=>by rw[aA,xaQ]
theorem jc(hp:0<p)(a b:N J):Fp p (xE p a b):=⟨λk=>by rw[aA];exact(xg hp).1,λk=>by rw[aA];exact(xg hp).2,AD _ _⟩
def jF(p:J)(a b:N J):X (xE p a b)<=X a+X b:=Hd _ _
def dn{x y:J}(e:p<=65521)(d:0<=x)(h:x<p)(c:0<=y)(hc:y<p):0<=x*y/\x*y<=4293001441:=by refine⟨xcx d c,?_⟩;have h1:x*y<=65521*y:=xbA W c;lia
def ve(h1:1<=p)(l:p<=65521)(m:Fp p a)(o:Fp p b)(hc:X a<=100000)(hd:X b<=100000)(q:3000000<=fu):w5 fu a b p=Z (xE p a b):=by
 unfold w5;have⟨n,hn⟩:∃n,n=X a+X b:=⟨_,O⟩;rw[zb,(W:(X a:J)+(X b:J)=(n:J)),yI,y8,A,dD,U (v:=zl n<|λk=>Te (ci a) (ci b) (X a) k%p)];have r:∀k,n<=k->Te (ci a) (ci b) (X a) k%p=0:=λk d=>by rw[Nt<|λj c=>yA c,uy (λj c=>yA c)<|λj c=>yA c,xap]
 have t:Rl (zl n<|λk=>Te (ci a) (ci b) (X a) k%p):=λk=>by
  rw[XM r];have:=xg (a:=Te (ci a) (ci b) (X a) k) (p:=p);exact⟨W,W⟩
 rw[U<|zK h1 l t (by rw[ye];lia) q];congr 1;unfold pm xE;rw[ye,<-hn];exact PW λk d=>by rw[Zo d,xaQ,Nt<|λj c=>yA c]
 refine zA (λs:J×N J=>∃i:K,i<=X a/\s=((i:J),zl n<|λk=>Te (ci a) (ci b) i k%p)) (λs=>X a-s.1.toNat) _ ?_ _ _ ⟨0,xae _,by rw[y3 (g:=λk=>Te (ci a) (ci b) 0 k%p) λk _=>by show(0:J)=0%p;rw[xap]];rfl⟩ (by show X a-0<fu;lia);rintro s L ⟨i,hi,rfl⟩ u;unfold KE;simp only;by_cases w:i<X a;rw[yg,U O];simp only[uS];rw[zn w,A,U (v:=zl n<|λk=>Te (ci a) (ci b) (i+1) k%p),zb];exact u _ ⟨i+1,W,O⟩ (by show X a-((i:J)+1).toNat<X a-(i:J).toNat;lia);refine zA (λs:J×N J=>∃j:K,j<=X b/\s=((j:J),zl n<|λk=>BF (ci a) (ci b) i j k%p)) (λs=>X b-s.1.toNat) _ ?_ _ _ ⟨0,xae _,by rw[y3 λk _=>by rw[<-zdu]];rfl⟩ (by show X b-0<fu;lia);rintro s y ⟨j,c,rfl⟩ h;unfold Kv;simp only;by_cases x:j<X b;rw[yg,U O];simp only[uS];have e:(i:J)+(j:J)=((i+j:K):J):=W
 have r1:=xg (a:=BF (ci a) (ci b) i j<|i+j) (p:=p);have⟨r2,z⟩:=dn l (m.nn i) (m.lt i) (o.nn j)<|o.lt j;rw[zn x,A,e,zb,zb,zn (by rw[ye];lia),A,kI,QJ,QJ,zb,zb,y8,A,iH,zn (by rw[ye];lia),A,ZW,zb];exact h _ ⟨j+1,W,by rw[y3 λk _=>zdW (ci a) (ci b) p i j k];rfl⟩ (by show X b-((j:J)+1).toNat<X b-(j:J).toNat;lia);rw[zD,U O];simp only[xai,uP];obtain rfl:j=X b:=W
 rw[y3 λk _=>by rw[zdl<|λk d=>yA d]];rw[zD,U O];simp only[xai,uP];obtain rfl:i=X a:=W
 rfl
def XV(p:J)(a b:N J)(c:J):N J:=nl (max (X a) (X b))<|λk=>(ci a k+c*ci b k)%p
def Nr(p:J)(a b:N J)(c:J)(k:K):ci (XV p a b c) k=(ci a k+c*ci b k)%p:=DP (λk d=>by rw[yA W,yA W,xaA];exact xap _) k
def Ix(p:J)(a b:N J)(c:J):Cg p (ci<|XV p a b c) (ci a+pc c*ci b):=λk=>by rw[Nr,xaQ,zP,zU]
def aB(hp:0<p)(a b:N J)(c:J):Fp p (XV p a b c):=⟨λk=>by rw[Nr];exact(xg hp).1,λk=>by rw[Nr];exact(xg hp).2,AD _ _⟩
def B6(p:J)(a b:N J)(c:J):X (XV p a b c)<=max (X a) (X b):=Hd _ _
theorem znT{n:K}(h:X a<=n):Hg (Nm n 0) a=zl n (ci a):=by unfold Hg;rw[xaM,xck h,xca,List.drop_replicate];refine xed (by rw[xat,xaM,ye];lia) λj h1 c=> ?_;have d:=Zo (f:=ci a) (by rw[ye]at c;exact c);have e:(zl n<|ci a).getD j 0=a.getD j 0:=d;grind
def J4{c:J}(h1:1<=p)(o:p<=65521)(h:Fp p a)(j:Fp p b)(hc:0<=c)(hd:c<p)(z:X a<=100000)(B:X b<=100000)(q:3000000<=fu):YL fu a b c p=Z (XV p a b c):=by
 unfold YL;have⟨n,hn⟩:∃n,n=max (X a) (X b):=⟨_,O⟩;have r:∀k,n<=k->ci a k+c*ci b k=0:=λk m=>by rw[yA W,yA W,xaA];rfl
 have t:∀k,0<=ci a k+c*ci b k/\ci a k+c*ci b k<=4293066962:=λk=>by
  have⟨r2,u⟩:=dn o hc hd (j.nn k)<|j.lt k;have:=h.nn k;have:=h.lt k;lia
 rw[A,(W:max (X a:J) (X b:J)=(n:J)),yI,y8,A,A,znT W,U (v:=zl n<|λk=>ci a k+c*ci b k)]
 have w:Rl (zl n<|λk=>ci a k+c*ci b k):=λk=>by
  rw[XM r];have:=t k;exact⟨W,W⟩
 rw[U<|zK h1 o w (by rw[ye];lia) q];congr 1;unfold pm XV;rw[ye,<-hn];exact PW λk m=>by rw[Zo m]
 refine zA (λs:J×N J=>∃i:K,i<=X b/\s=((i:J),zl n (λk=>ci a k+if k<i then c*ci b k else 0))) (λs=>X b-s.1.toNat) _ ?_ _ _ ⟨0,xae _,by rw[y3 (f:=ci a) (g:=λk=>ci a k+if k<0 then c*ci b k else 0) λk _=>by rw[zD,xbW]];rfl⟩ (by show X b-0<fu;lia);rintro s L ⟨i,hi,rfl⟩ x;unfold lN;simp only;by_cases y:i<X b;rw[yg,U O];simp only[uS];have⟨r2,u⟩:=dn o hc hd (j.nn i)<|j.lt i;have:=h.nn i;have:=h.lt i;rw[zn y,A,zn (by rw[ye];lia),A,kI,ir<|xfR i,xbW,QJ,zb,zb,zn (by rw[ye];lia),A,ZW,zb];refine x _ ⟨i+1,W,?_⟩ (by show X b-((i:J)+1).toNat<X b-(i:J).toNat;lia);congr 1;refine y3 λk m=> ?_;unfold XI;by_cases e:k=i;rw[S e,yg,e];rw[ir e];show ci a k+(if k<i then c*ci b k else 0)=_;by_cases d:k<i;rw[S d,yg];rw[ir d,zD];rw[zD,U O];simp only[xai,uP];congr 1;refine y3 λk m=> ?_;by_cases d:k<i;rw[S d];rw[ir d,yA (l:=b) W,xaA]
end
section
variable{p a fu:wr}
theorem gQ(hp:2<=p)(h:kz p)(h0:0<a:=by lia)(h1:a<p:=by lia):xdq p a=1:=by
 have⟨g,b⟩:∃g,g=xdq p a:=⟨_,O⟩;have d1:g∣p:=by rw[b];exact xfL _ _
 have d2:g∣a:=by rw[b];exact xdv _ _
 have j:g<=a:=Nat.le_of_dvd h0 d2;have i:0<g:=Nat.pos_of_dvd_of_pos d1 W;rw[<-b];refine xcF (xbx λk=> ?_) i;by_cases c:g*g<=p;exact h g W c<|Nat.mod_eq_zero_of_dvd d1;have⟨d,hd⟩:=d1;have l:d<g:=by refine xdp λf=>c ?_;rw[hd];exact xaE _ f
 have hc:2<=d:=by
  refine xbx λf=> ?_;have:d=0\/d=1:=W
  obtain e|e:=this
  grind;grind
 refine h d hc ?_ ?_;rw[hd];exact xaj _ W
 rw[hd];exact Nat.mul_mod_left _ _
theorem Zu{p:J}(hp:qp p=wL)(b:400<fu:=by lia):vg fu p=Z 0:=by grind [vg,U,WM]
structure IvI(p a:K)(r0 r1:K)(t0 t1:J):Prop where
 lt:r1<r0
 two:2<=r0
 le:r0<=p
 c0:(p:J)∣(r0:J)-t0*a
 c1:(p:J)∣(r1:J)-t1*a
 g:xdq r0 r1=1
 s:∃u0 u1:K,((t0=u0/\t1= -u1)\/(t0= -u0/\t1=u1))/\r0*u1+r1*u0=p
theorem IvI.step{r0 r1:K}{t0 t1:J}(h:IvI p a r0 r1 t0 t1)(k:2<=r1):IvI p a r1 (r0%r1) t1 (t0-((r0/r1:K):J)*t1)/\(((r0/r1:K):J)*t1).natAbs<=p/\(t0-((r0/r1:K):J)*t1).natAbs<=p:=by
 have hd:=xbs r0 r1;have l:=xaN r0 (W:0<r1);have⟨c,b,m,r⟩:=h.s;generalize t:r0/r1=q at*
 generalize n:r0%r1=r2 at*
 have u:=h.le;have hi:=h.lt;have e1:r1*(c+q*b)+r2*b=p:=by grind
 have v:c+q*b<=p:=by have d:1*(c+q*b)<=r1*(c+q*b):=xaj _ W;lia
 have hc:((q*b:K):J)=(q:J)*(b:J):=mK
 have f:((t1=b/\t0-(q:J)*t1= -((c+q*b:K):J))\/(t1= -b/\t0-(q:J)*t1=((c+q*b:K):J)))/\((q:J)*t1).natAbs<=p:=by
  rcases m with⟨i,j⟩|⟨i,j⟩
  grind;rw[i,j,<-hc];exact⟨.inl ⟨O,W⟩,W⟩
 refine⟨⟨l,k,W,h.c1,?_,?_,b,c+q*b,f.1,e1⟩,f.2,by rcases f.1 with⟨_,e⟩|⟨_,e⟩<;>lia⟩;have d:=xdu h.c0<|xbu h.c1<|xcJ (q:J) _;have o:(r0:J)-t0*a-(q:J)*((r1:J)-t1*a)=(r2:J)-(t0-(q:J)*t1)*a:=by
  rw[Int.mul_sub,Int.sub_mul,xcY];have:(r0:J)=(r1:J)*(q:J)+(r2:J):=by rw[<-hd];simp
  rw[this,xbJ (r1:J)];lia
 rw[o]at d;exact d;have d:=h.g;rw[<-n,xdE,<-Nat.gcd_rec,xdE];exact d
def zej(hp:p<=65521)(j:70000<fu){t:J}:∀{r0 r1:K}{t0 t1:J},IvI p a r0 r1 t0 t1->∀n,r1<n->∃x:J,zg (nj fu) n ((r0:J),(r1:J),t0,t1)=Z (.inl x)/\(p:J)∣1-x*a/\x.natAbs<=p:=by
 intro r0 r1
 induction r1 using xdA generalizing r0 with
 |_ r1 c=>
  intro t0 t1 h n hn;obtain⟨n,rfl⟩:∃k,n=k+1:=⟨n-1,W⟩;rw[kF];unfold nj;simp only;have hc:=h.lt;have l:=h.two;have hd:=h.le;by_cases h0:r1=0
  have:=h.g;simp_all;rw[zD];by_cases h1:r1=1
  rw[yg];refine⟨t1,O,?_,?_⟩;have:=h.c1;rw[h1]at this;exact this;have⟨m,b,d,o⟩:=h.s;have q:1*b<=r0*b:=xaj _ W;rcases d with⟨_,e⟩|⟨_,e⟩<;>lia
  have⟨f,r,u⟩:=h.step W;have e1:xdx (r0:J) (r1:J)=((r0/r1:K):J):=O;have v:=xbs r0 r1;have i:((r0/r1:K):J)*(r1:J)=((r1*(r0/r1):K):J):=by rw[xbJ];simp
  have hi:((r0/r1:K):J)<=(r0:J):=Int.ofNat_le.2<|xcD _ _;have w:(0:J)<=((r0/r1:K):J):=xdl _;rw[zD,y8,e1,zb,i,zb,(W:(r0:J)-((r1*(r0/r1):K):J)=((r0%r1:K):J)),zb,zb,zb];exact c (r0%r1) (xaN _ W) f n (by have:=xaN r0 (W:0<r1);lia)
def K0{p a:J}(hp:qp p=wL)(h0:0<a)(h1:a<p)(f:3000000<=fu):∃x,Vy fu a p=Z (x,0)/\0<=x/\x<p/\(x*a)%p=1:=by
 have⟨g,i⟩:=zw hp;have c:kz p.toNat:=by refine xak λh=> ?_;rw[HX<|λe=>h e.2.2]at hp;simp_all
 obtain⟨P,rfl⟩:=xaC (W:0<=p);obtain⟨A,rfl⟩:=xaC (W:0<=a);have d:IvI P A P A 0 1:=⟨W,W,So _,by rw[xba,xdh];exact xek _,by rw[xdd,xel];exact xdD _,gQ W c,0,1,.inr ⟨O,O⟩,W⟩;have⟨x,k1,k2,k3⟩:=zej (fu:=fu) (t:=0) (W:P<=65521) W d fu W;have b:=xg (a:=x) (p:=(P:J));refine⟨x%P,?_,b.1,b.2,?_⟩;unfold Vy;rw[U<|Zu hp,S O,U<|YF W W ⟨W,W⟩,xaH (a:=(A:J)) W W,U k1];simp only;rw[U<|YF W W ⟨W,W⟩];rw[xcd,xaQ,<-xcd];have:=xaL.2<|xax k2;rw[<-this];exact xaH mD W
end
section
variable{p:wn}{fu i qn:wr}{a b:xS wn}{R Q:Pz}
def zX{α β:Type}{f:(β->V α)->β->V α}(j:β->Prop)(m:β->K)(Q:α->Prop)
 (step:∀s L,j s->(∀c,j c->m c<m s->∃r,L c=Z r/\Q r)->∃r,f L s=Z r/\Q r):∀(n:K) (s:β),j s->m s<n->∃r,zg f n s=Z r/\Q r
 |0,s,_,h=>wS h<|xbc _
 |n+1,s,d,h=>step s _ d λc e g=>zX j m Q step n c e W
theorem wy{f:K->J}{i:K}(h:∀k,k≠i->f k=0):∀n,yu n f=if i<n then f i else 0
 |0=>by skip;rfl
 |n+1=>by
  show yu n f+f n=_;rw[wy h n];by_cases h1:i<n;grind;grind
theorem Vx(i:K)(c:J)(g:Pz)(k:K):((mono i c:Pz)*g) k=c*sh g i k:=by rw[wV,wy λj d=>by show mono i c j*_=0;unfold mono;rw[ir d,xba]];unfold sh;by_cases h:i<=k;rw[yg];unfold mono;simp_all;grind
theorem jY(x:J):ci [x]=pc x:=by
 funext k
 cases k with
 |zero=>rfl
 |succ k=>exact yA mK
def Qe{x:J}(h0:0<x:=by lia)(h1:x<p:=by lia):Fp p [x]:=⟨λk=>by rw[jY];unfold pc;split<;>lia,λk=>by rw[jY];unfold pc;split<;>lia,.inr (by show x≠0;lia)⟩
def TM(h:0<p:=by lia):Fp p []:=⟨λk=>by rw[yA<|xae _];lia,λk=>by skip;exact h,.inl O⟩
def zkk{x c:J}(h:0<=x)(d:(x*c)%p=1):0<x:=by
 obtain h|h:=Int.lt_or_eq_of_le h
 exact h;rw[<-h,xba]at d;cases d
def Kt{c:J}(hp:qp p=wL)(h:Fp p a)(h0:0<c)(h1:c<p)(hc:X a<=90000)(d:3000000<=fu):∃x,0<x/\x<p/\(x*c)%p=1/\Vy fu c p=Z (x,0)/\qy fu a c p=Z (xE p a [x]):=by have⟨l,j⟩:=zw hp;have⟨x,e1,k,e,f⟩:=K0 hp h0 h1 d;have g:=zkk k f;refine⟨x,g,e,f,e1,?_⟩;unfold qy;rw[U e1];simp only;rw[U<|ve W j h (Qe g e) W mK d]
def nF(R g:Pz)(p c:J)(i j:K):Pz:=λk=>if i<=k/\k<i+j then(R k+(p-c)*g (k-i))%p else R k
theorem zd3(R g:Pz)(p c:J)(i j k:K):XI (nF R g p c i j) (i+j) ((R (i+j)+(p-c)*g j)%p) k=nF R g p c i (j+1) k:=by grind [nF,XI]
theorem zdb{g:Pz}{c:J}{n:K}(d:∀k,R k%p=R k)(e:∀k,n<=k->g k=0)(k:K):nF R g p c i n k%p=(R k-c*sh g i k)%p:=by unfold nF sh;by_cases h:i<=k/\k<i+n;rw[S h,S h.1,xaQ,Int.sub_mul];refine xaL.2<|xax ⟨g<|k-i,?_⟩;lia;grind
def zdY{n:K}{c x:J}(h1:1<=p)(q:p<=65521)(d:Fp p b)(h:∀k,0<=R k/\R k<p)(hc:0<=c)(r:c<p)(hd:i+X b<=n)(hn:n<=100000)(t:3000000<=fu):
 zg (Xm fu b (i:J) c) fu (b,p,x,0,zl n R,zl qn Q)=Z (b,p,x,zl n<|nF R (ci b) p c i (X b),zl qn Q):=by
 refine zA (λs:N J×J×J×J×N J×N J=>∃j:K,j<=X b/\s=(b,p,x,(j:J),zl n<|nF R (ci b) p c i j,zl qn Q)) (λs=>X b-s.2.2.2.1.toNat) _ ?_ _ _ ⟨0,xae _,by rw[y3 (f:=R) (g:=nF R (ci b) p c i 0) λk _=>by unfold nF;rw[zD]];rfl⟩ (by show X b-0<fu;lia);rintro s L ⟨j,u,rfl⟩ l;unfold Xm;simp only;by_cases m:j<X b;rw[yg,U O];simp only[uS];have e:(i:J)+(j:J)=((i+j:K):J):=W
 have o:nF R (ci b) p c i j (i+j)=R (i+j):=by unfold nF;rw[zD]
 have⟨r1,r2⟩:=h<|i+j;have v:0<=(p-c)*ci b j:=xcx W<|d.nn j;have w:(p-c)*ci b j<=65521*ci b j:=xbA W<|d.nn j;have y:=d.lt j;rw[zn m,A,e,zb,zb,zn (by rw[ye];lia),A,kI,QJ,o,zb,zb,zb,y8,A,iH,zn (by rw[ye];lia),A,ZW,zb];exact l _ ⟨j+1,W,by rw[y3 λk _=>zd3 R (ci b) p c i j k];rfl⟩ (by show X b-((j:J)+1).toNat<X b-(j:J).toNat;lia);rw[zD,U O];simp only[xai,uP];obtain rfl:j=X b:=W
 rfl
structure FdI(p:J)(a b:N J)(qn i:K)(R Q:Pz):Prop where
 hi:i<=qn
 rr:∀k,0<=R k/\R k<p
 qr:∀k,0<=Q k/\Q k<p
 rz:∀k,i+(b.length-1)<=k->R k=0
 ql:∀k,k<i->Q k=0
 qz:∀k,qn<=k->Q k=0
 cg:Cg p (ci a) (Q*ci b+R)
def FdI.step{x:J}(h1:1<=p)(h:FdI p a b qn (i+1) R Q)(s:0<X b)(j:(x*ci b (X b-1))%p=1):
 FdI p a b qn i (nF R (ci b) p (R (i+(X b-1))*x%p) i (X b)) (XI Q i<|R (i+(X b-1))*x%p):=by
 have⟨c,hc⟩:∃c,c=R (i+(X b-1))*x%p:=⟨_,O⟩;have hi:=h.hi;have e:=xg (a:=R (i+(X b-1))*x) (p:=p);rw[<-hc]at e⊢;have m:∀k,R k%p=R k:=λk=>xaH (h.rr k).1 (h.rr k).2;have f:=zdb (g:=ci b) (c:=c) (i:=i) (n:=X b) m<|λk d=>yA d;have hd:∀k,0<=nF R (ci b) p c i (X b) k/\nF R (ci b) p c i (X b) k<p:=λk=>by
  unfold nF;split;exact xg;exact h.rr k
 have o:∀k,XI Q i c k=(Q+(mono i c:Pz)) k:=λk=>by
  rw[zP];unfold XI mono;by_cases d:k=i;rw[S d,S d,h.ql k W,xcI];lia
 refine⟨W,hd,λk=> ?_,λk d=> ?_,λk d=> ?_,λk d=> ?_,?_⟩;unfold XI;split;exact e;exact h.qr k;have q:=xaH (hd k).1 (hd k).2;rw[<-q,f];by_cases r:k=i+(X b-1);unfold sh;rw[yg,(W:k-i=X b-1),hc,r,Int.sub_emod,xcd,xaQ,<-xcd,xcY,xcd _<|x*_,j,xcQ,xaQ,<-Int.sub_emod,xel,xap];unfold sh;rw[h.rz k W,yg,yA (l:=b) W,xaA,xdh,xap];unfold XI;rw[zD];exact h.ql k W
 unfold XI;rw[zD];exact h.qz k d;refine h.cg.trans λk=> ?_;rw[show XI Q i c=Q+(mono i c:Pz)from kW o,yW,zP,zP,zP,Vx,xej<|_+_,f,<-xej];congr 1;lia
def xH(hp:qp p=wL)(g:Fp p a)(c:Fp p b)(m:0<X b)(C:X a<=90000)(ht:X b<=90000)(d:3000000<=fu):
 ∃q r,xJ fu a b p=Z (q,r)/\Fp p q/\Fp p r/\Cg p (ci a) (ci q*ci b+ci r)/\X r<X b/\X q<=X a:=by
 have⟨D,e⟩:=zw hp;unfold xJ;rw[wM (by simp;lia),A,xbN,zb];by_cases hl:X a<X b;rw[yg];refine⟨[],a,O,TM,g,Cg.of ?_,hl,xae _⟩;funext k;rw[zP,show ci []=pc 0 from kW λj=>by rw[yA<|xae _,zO],yB,zO,xcI];have⟨qn,E⟩:∃qn,qn=X a-X b+1:=⟨_,O⟩;have F:ci b (X b-1)≠0:=by
  obtain h|h:=c.nl
  lia;exact h
 have t1:=c.nn<|X b-1;have t2:=c.lt<|X b-1;have⟨x,e1,o,t,u⟩:=K0 (fu:=fu) hp (W:0<ci b (X b-1)) t2 d;have c1:(X b:J)-1=((X b-1:K):J):=W
 have c2:(X a:J)-(X b:J)+1=(qn:J):=W
 rw[zD,c1,zb,yo,A,QJ,U e1];simp only;rw[zb,c2,yI,y8,A]
 have hc:=zX (f:=Xk fu b p x) (λs:J×N J×N J=>∃(i:K) (R Q:Pz),s=((i:J)-1,zl (X a) R,zl qn Q)/\FdI p a b qn i R Q) (λs=>(s.1+1).toNat)
  (λr=>∃R Q:Pz,r=(zl (X a) R,zl qn Q)/\FdI p a b qn 0 R Q) (by
   rintro s L ⟨i,R,Q,rfl,h⟩ v;unfold Xk;simp only
   cases i with
   |zero=>
    rw[zD];exact⟨_,O,R,Q,O,h⟩
   |succ i=>
    have hi:=h.hi;have⟨r1,r2⟩:=h.rr<|i+(X b-1);have⟨w,G⟩:=dn e r1 r2 o t;have hd:=xg (a:=R (i+(X b-1))*x) (p:=p);rw[(W:((i+1:K):J)-1=(i:J)),yg,zb,(W:(i:J)+(X b:J)-1=((i+(X b-1):K):J)),zb,zn (by rw[ye];lia),A,kI,zb,y8,A,iH w,zn (by rw[ye];lia),A,ZW,U<|zdY W e c h.rr hd.1 hd.2 W W d];simp only;rw[zb];exact v _ ⟨i,_,_,O,h.step W m u⟩ (by show((i:J)-1+1).toNat<(((i+1:K):J)-1+1).toNat;lia))
  fu ((X a:J)-(X b:J),a,Nm qn 0) ⟨qn,ci a,λ_=>0,by rw[Oq,dD,(W:(X a:J)-(X b:J)=(qn:J)-1)],So _,λk=>⟨g.nn k,g.lt k⟩,λk=>⟨xfW _,W⟩,λk y=>yA W,λk _=>O,λk _=>O,Cg.of (by funext k;rw[zP,show((λ_=>0:Pz))=pc 0 from kW λj=>(zO j).symm,yB,zO,xcI])⟩ (by show((X a:J)-(X b:J)+1).toNat<fu;lia)
 obtain⟨_,z,R,Q,rfl,h⟩:=hc;rw[U z];simp only;have B:Rl (zl (X a) R):=λk=>by
  rw[XM λj l=>h.rz j W];have:=h.rr k;exact⟨W,W⟩
 have hn:Rl (zl qn Q):=λk=>by
  rw[XM h.qz];have:=h.qr k;exact⟨W,W⟩
 rw[U<|zK W e hn (by rw[ye];lia) d,U<|zK W e B (by rw[ye];lia) d];refine⟨_,_,O,Dx W _,Dx W _,?_,?_,?_⟩;refine h.cg.trans<|Cg.add (Cg.mul (Cg.symm<|(OW p _).trans<|Cg.of<|funext (XM h.qz)) Cg.rfl)<|Cg.symm<|(OW p _).trans<|Cg.of<|funext (XM λj l=>h.rz j W);have:=(Dx (p:=p) W<|zl (X a) R).nl.le (n:=X b-1) λk y=>by rw[GG,XM (λj l=>h.rz j W),h.rz k W,xap]
 lia;have:=zbz p<|zl qn Q;rw[ye]at this;lia
end
section
variable{p:wn}{fu N:wr}{r0 s0 t0 r1 s1 t1 g h:xS wn}{f:Pz}
def znR(f:Pz):Cg p (pc (p-1)*f) (-f):=λk=>by
 rw[zU,zb8,Int.sub_mul];simp_all
def U1(a b:xS J):Cg p (ci<|XV p a b<|p-1) (ci a-ci b):=by refine(Ix p a b<|p-1).trans ?_;exact Cg.rfl.add<|znR _
def AO{S:K}(hp:qp p=wL)(b:Fp p r0)(l:Fp p s0)(m:Fp p t0)(hc:Fp p r1)(hl:Fp p s1)(o:Fp p t1)(h0:0<X r1)(l1:X r0<=N)(D:X r1<=N)(E:X s0<=S)(F:X t0<=S)(G:X s1<=S)(H:X t1<=S)(M:N<=9000)(P:S<=90000)(a:3000000<=fu):
 ∃q,Fp p q/\X q<=N/\Cg p (ci r0) (ci q*ci r1+ci (XV p r0 (xE p q r1)<|p-1))/\X (XV p r0 (xE p q r1)<|p-1)<X r1/\
  Xj fu [r0,s0,t0] [r1,s1,t1] p=Z [XV p r0 (xE p q r1)<|p-1,XV p s0 (xE p q s1)<|p-1,XV p t0 (xE p q t1)<|p-1]:=by
 have⟨Q,c⟩:=zw hp;have⟨q,r,e1,d,s,hd,t,hv⟩:=xH (fu:=fu) hp b hc h0 W W a;have e:XV p r0 (xE p q r1) (p-1)=r:=by refine Fp.ext (aB W _ _ _) s<|(U1 r0<|xE p q r1).trans ?_;refine(hd.sub<|ZF p q r1).trans<|Cg.of ?_;funext k;simp only[zP,y7];lia
 refine⟨q,d,W,by rw[e];exact hd,by rw[e];exact t,?_⟩;unfold Xj;have f1:=jF p q r1;have f2:=jF p q s1;have f3:=jF p q t1;rw[show(0:J)=((0:K):J)from O,zn mD,zn mD,A];show Y (xJ fu r0 r1 p) _=_;rw[U e1];simp only;rw[U (v:=([XV p r0 (xE p q r1)<|p-1,XV p s0 (xE p q s1)<|p-1,XV p t0 (xE p q t1)<|p-1],Nm 3 []))];have⟨n,hn⟩:∃n,fu=n+4:=⟨fu-4,W⟩
 have step:∀(L:xS J×J×xS (xS J)×xS (xS J)->V (xS (xS J)×xS (xS J))) (i:K) (x y z u:xS J) (ts:xS (xS J)),i<3->X ts=3->ts.getD i []=x->[r1,s1,t1].getD i []=y->Fp p x->Fp p y->X x<=90000->X y<=90000->
  Zc fu [r1,s1,t1] p L (q,(i:J),ts,Nm 3 [])=L (q,((i+1:K):J),ts.set i<|XV p x (xE p q y)<|p-1,Nm 3 []):=λL i x y z u ts hi R w B ht C T hA=>by
  unfold Zc;simp only;have f4:=jF p q y;rw[yg,U O];simp only[uS];rw[zn hi,zn hi,A,w,B,U<|ve W c d C W W a,zb,U<|J4 W c ht (jc W _ _) W W W W a,zn hi,A,zb];rfl
 have j:zg (Zc fu [r1,s1,t1] p) (n+4) (q,((0:K):J),[r0,s0,t0],Nm 3 [])=Z ([XV p r0 (xE p q r1)<|p-1,XV p s0 (xE p q s1)<|p-1,XV p t0 (xE p q t1)<|p-1],Nm 3 []):=by rw[kF,step _ 0 r0 r1 [] [] _ mD O O O b hc W W,kF,step _ 1 s0 s1 [] [] _ mD O O O l hl W W,kF,step _ 2 t0 t1 [] [] _ mD O O O m o W W,kF];unfold Zc;simp only;rw[ir mD,U O];rfl
 rw[<-hn]at j;exact j
def Fs(f:Pz):Prop:=∃n,∀k,n<=k->f k=0
def Fs.add{g:Pz}(a:Fs f)(b:Fs g):Fs (f+g):=by have⟨n,hn⟩:=a;have⟨m,c⟩:=b;exact⟨n+m,λk d=>by rw[zP,hn k W,c k W];rfl⟩
def Fs.mul{g:Pz}(a:Fs f)(b:Fs g):Fs (f*g):=by have⟨n,hn⟩:=a;have⟨m,c⟩:=b;exact⟨n+m,λk d=>uy hn c⟩
def Fs.pc(c:J):Fs (pc c):=⟨1,λk a=>by unfold Go.Proofs.YtoegnnjcmlghhaaGreat.pc;rw[zD]⟩
theorem Fs.ci(l:xS J):Fs (ci l):=⟨X l,λk a=>yA a⟩
def Fs.cf(l:xS M):Fs (cf l):=⟨X l,λk a=>yn a⟩
structure BzR(p:J)(g h d s t:xS J)(S:K):Prop where
 df:Fp p d
 sf:Fp p s
 tf:Fp p t
 cg:Cg p (ci d) (ci s*ci g+ci t*ci h)
 dv:∃A C:Pz,Fs A/\Fs C/\Cg p (ci g) (A*ci d)/\Cg p (ci h) (C*ci d)
 dl:d.length<=S
 sl:s.length<=S
 tl:t.length<=S
structure BzI(p:J)(g h r0 s0 t0 r1 s1 t1:xS J)(N:K):Prop where
 f0:Fp p r0
 g0:Fp p s0
 h0:Fp p t0
 f1:Fp p r1
 g1:Fp p s1
 h1:Fp p t1
 c0:Cg p (ci r0) (ci s0*ci g+ci t0*ci h)
 c1:Cg p (ci r1) (ci s1*ci g+ci t1*ci h)
 dv:∃A B C D:Pz,Fs A/\Fs B/\Fs C/\Fs D/\Cg p (ci g) (A*ci r0+B*ci r1)/\Cg p (ci h) (C*ci r0+D*ci r1)
 l0:r0.length<=N
 l1:r1.length<=N
 b0:s0.length<=1+N*(N+1-r1.length)
 b1:t0.length<=1+N*(N+1-r1.length)
 b2:s1.length<=1+N*(N+1-r1.length)
 b3:t1.length<=1+N*(N+1-r1.length)
def BzI.step(a:BzI p g h r0 s0 t0 r1 s1 t1 N)(hp:qp p=wL)(i:N<=290)(j:0<X r1)(l:3000000<=fu):
 ∃r2 c t2,Xj fu [r0,s0,t0] [r1,s1,t1] p=Z [r2,c,t2]/\X r2<X r1/\BzI p g h r1 s1 t1 r2 c t2 N:=by
 have⟨u,v⟩:=zw hp;have m:1+N*(N+1-X r1)<=90000:=by have:N*(N+1-X r1)<=290*290:=xcf i W;lia
 have hd:=a.l0;have d:=a.l1;have n:=a.b0;have hi:=a.b1;have o:=a.b2;have r:=a.b3;have⟨q,w,x,hc,hl,s⟩:=AO (fu:=fu) (S:=1+N*(N+1-X r1)) hp a.f0 a.g0 a.h0 a.f1 a.g1 a.h1 j hd d n hi o r W m l;refine⟨_,_,_,s,hl,a.f1,a.g1,a.h1,aB W _ _ _,aB W _ _ _,aB W _ _ _,a.c1,?_,?_,d,W,?_,?_,?_,?_⟩;refine(U1 _ _).trans<|(a.c0.sub<|(ZF p q r1).trans<|Cg.rfl.mul a.c1).trans ?_;refine Cg.trans (Cg.of ?_)<|Cg.symm (((U1 s0<|xE p q s1).trans<|Cg.rfl.sub<|ZF p q s1).mul (Cg.rfl (f:=ci g))|>.add (((U1 t0<|xE p q t1).trans<|Cg.rfl.sub<|ZF p q t1).mul<|Cg.rfl (f:=ci h)));simp only[wG,yW,qq,ke,zd];funext k;simp only[zP,y7];lia;have⟨A,B,C,D,e,z2,z3,z4,d1,d2⟩:=a.dv;refine⟨A*ci q+B,A,C*ci q+D,C,(e.mul<|Fs.ci q).add z2,e,(z3.mul<|Fs.ci q).add z4,z3,?_,?_⟩;refine d1.trans<|((Cg.rfl (f:=A)).mul hc|>.add Cg.rfl).trans<|Cg.of ?_;simp only[wG,yW,zd];funext k;simp only[zP];lia;refine d2.trans<|((Cg.rfl (f:=C)).mul hc|>.add Cg.rfl).trans<|Cg.of ?_;simp only[wG,yW,zd];funext k;simp only[zP];lia;have:N*(N+1-X r1)<=N*(N+1-X (XV p r0 (xE p q r1)<|p-1)):=xaE _ W;lia;have:N*(N+1-X r1)<=N*(N+1-X (XV p r0 (xE p q r1)<|p-1)):=xaE _ W;lia;have h1:=B6 p s0 (xE p q s1)<|p-1;have t:=jF p q s1;have b:N*(N+1-X r1+1)<=N*(N+1-X (XV p r0 (xE p q r1)<|p-1)):=xaE _ W;rw[xco,xeI]at b;lia;have h1:=B6 p t0 (xE p q t1)<|p-1;have t:=jF p q t1;have b:N*(N+1-X r1+1)<=N*(N+1-X (XV p r0 (xE p q r1)<|p-1)):=xaE _ W;rw[xco,xeI]at b;lia
def ziw(hp:qp p=wL)(e:N<=290)(i:3000000<=fu)(a:BzI p g h r0 s0 t0 r1 s1 t1 N):
 ∃d s t,zg (ZM fu p) fu ([r0,s0,t0],[r1,s1,t1])=Z [d,s,t]/\BzR p g h d s t (1+N*(N+1)):=by
 obtain⟨r,e1,d,s,t,rfl,j⟩:=zX (f:=ZM fu p) (λx:xS (xS J)×xS (xS J)=>∃r0 s0 t0 r1 s1 t1,x=([r0,s0,t0],[r1,s1,t1])/\BzI p g h r0 s0 t0 r1 s1 t1 N) (λx=>X (x.2.getD 0 [])) (λr=>∃d s t,r=[d,s,t]/\BzR p g h d s t (1+N*(N+1))) (by
  rintro x L ⟨r0,s0,t0,r1,s1,t1,rfl,a⟩ n;unfold ZM;simp only;rw[show(0:J)=((0:K):J)from O,zn mD];show∃r,(if((0:K):J)<(X r1:J)then _ else _)=Z r/\_;by_cases h0:0<X r1;have⟨r2,o,t2,l,q,hc⟩:=a.step (fu:=fu) hp e h0 i;rw[yg,U l];simp_all;rw[zD];have b:ci r1=pc 0:=kW λk=>by rw[yA W,zO]
  have c:1+N*(N+1-X r1)<=1+N*(N+1):=by have:N*(N+1-X r1)<=N*(N+1):=xaE _ W;lia
  have hd:=a.l0;have u:N*1<=N*(N+1):=xaE _ W;refine⟨_,O,r0,s0,t0,O,a.f0,a.g0,a.h0,a.c0,?_,W,xal a.b0 c,xal a.b1 c⟩;have⟨A,B,C,D,m,z2,z3,z4,d1,d2⟩:=a.dv;rw[b,zk B,yB]at d1;rw[b,zk D,yB]at d2;refine⟨A,C,m,z3,d1.trans<|Cg.of ?_,d2.trans<|Cg.of ?_⟩<;>funext k<;>rw[zP,zO,xbW]) fu ([r0,s0,t0],[r1,s1,t1]) ⟨_,_,_,_,_,_,O,a⟩ (by have:=a.l1;show X r1<fu;lia)
 exact⟨d,s,t,e1,j⟩
theorem uI(hp:qp p=wL)(o:Fp p g)(q:Fp p h)(hu:X g<=290)(hv:X h<=290)(j:3000000<=fu):
 ∃d s t,Za fu g h p=Z (d,s,t,0)/\BzR p g h d s t (2+max (X g) (X h)*(max (X g) (X h)+1))/\(X d=0\/ci d (X d-1)=1):=by
 have⟨p1,l⟩:=zw hp;unfold Za;rw[U<|Zu hp,iq O,U<|zK W l (o.rl l) W j,U<|zK W l (q.rl l) W j,o.pm,q.pm];have z0:ci ([]:xS J)=pc 0:=kW λk=>by rw[yA<|xae _,zO]
 have c:∀f:Pz,f+pc 0=f:=λf=>kW λk=>by rw[zP,zO,xbW]
 have e:∀f:Pz,pc 0+f=f:=λf=>kW λk=>by rw[zP,zO,xcI]
 have D:BzI p g h g [1] [] h [] [1] (max (X g) (X h)):=by refine⟨o,Qe,TM,q,TM,Qe,Cg.of ?_,Cg.of ?_,⟨pc 1,pc 0,pc 0,pc 1,Fs.pc 1,Fs.pc 0,Fs.pc 0,Fs.pc 1,Cg.of ?_,Cg.of ?_⟩,xew _ _,xec _ _,xbI _ _,xae _,xae _,xbI _ _⟩;rw[jY,z0,zC,yB,c];rw[jY,z0,zC,yB,e];rw[zC,yB,c];rw[zC,yB,e]
 have⟨d,s,t,e1,b⟩:=ziw (fu:=fu) hp W j D;have hS:max (X g) (X h)*(max (X g) (X h)+1)<=290*291:=xcf W W;generalize max (X g) (X h)*(max (X g) (X h)+1)=S at*
 rw[U e1,show(0:J)=((0:K):J)from O,zn mD];show∃r u v,Y (if((0:K):J)<(X d:J)then Z wL else Z I) _=_/\_;by_cases h0:0<X d;have hw:=b.dl;have ht:ci d (X d-1)≠0:=by
  obtain h|h:=b.df.nl
  lia;exact h
 have t1:=b.df.nn<|X d-1;have t2:=b.df.lt<|X d-1;have⟨x,E,G,w,H,x5⟩:=Kt (fu:=fu) hp b.df (W:0<ci d (X d-1)) t2 W j;have sc:∀{a:xS J},Fp p a->X a<=90000->qy fu a (ci d<|X d-1) p=Z (xE p a [x]):=λ{a} M hl=>by
  unfold qy;rw[U H];simp only;rw[U<|ve W l M (Qe E G) W mK j]
 rw[yg,U O,iq O,zn mD];show∃r u v,zf ((X d:J)-1) _=_/\_;rw[(W:(X d:J)-1=((X d-1:K):J)),zb];show∃r u v,zF ((X d-1:K):J) (X d) _=_/\_;rw[yo,ze];show∃r u v,Y (zg (vi fu p<|ci d<|X d-1) fu (((0:K):J),[d,s,t])) _=_/\_;have P:zg (vi fu p<|ci d<|X d-1) fu (((0:K):J),[d,s,t])=Z [xE p d [x],xE p s [x],xE p t [x]]:=by
  have⟨n,hn⟩:∃n,fu=n+4:=⟨fu-4,W⟩
  have step:∀(L:J×xS (xS J)->V (xS<|xS J)) (i:K) (y:xS J) (ts:xS (xS J)),i<3->ts.getD i []=y->Fp p y->X y<=90000->
   vi fu p (ci d<|X d-1) L ((i:J),ts)=L (((i+1:K):J),ts.set i<|xE p y [x]):=λL i y ts hi Q R T=>by
   unfold vi;simp only;rw[yg,zn hi,Q,U<|sc R T,zn hi,ze,zb];rfl
  have z:zg (vi fu p<|ci d<|X d-1) (n+4) (((0:K):J),[d,s,t])=Z [xE p d [x],xE p s [x],xE p t [x]]:=by rw[kF,step _ 0 d _ mD O b.df (xal b.dl W),kF,step _ 1 s _ mD O b.sf (xal b.sl W),kF,step _ 2 t _ mD O b.tf (xal b.tl W),kF];unfold vi;simp only;rw[ir mD];rfl
  rw[<-hn]at z;exact z
 rw[U P];have hc:∀a:xS J,Cg p (ci<|xE p a [x]) (ci a*pc x):=λa=>by
  have:=ZF p a [x];rw[jY]at this;exact this
 have hj:Cg p (pc x*pc (ci d<|X d-1)) (pc 1):=λk=>by
  rw[jx];unfold pc;split;rw[w];exact(xaH mD W).symm;rfl
 have f1:=jF p d [x];have f2:=jF p s [x];have f3:=jF p t [x];have hz:=b.sl;have hA:=b.tl;simp only[xaw,xbT]at f1 f2 f3;have hd:∀k,ci (xE p d [x]) k=(x*ci d k)%p:=λk=>by rw[aA,jY,zk,zU]
 have hm:X (xE p d [x])=X d:=by refine xcF ((jc W _ _).nl.le λk hk=> ?_)<|xbx λhB=> ?_;rw[hd,yA hk,xaA,xap];have B:=hd<|X d-1;rw[w,yA W]at B;cases B
 refine⟨xE p d [x],xE p s [x],xE p t [x],O,⟨jc W _ _,jc W _ _,jc W _ _,?_,?_,W,W,W⟩,.inr ?_⟩;refine(hc d).trans<|(b.cg.mul Cg.rfl).trans<|Cg.trans (Cg.of ?_)<|Cg.symm<|((hc s).mul Cg.rfl).add<|(hc t).mul Cg.rfl;simp only[wG,yW,zd,zk,zE]
 have⟨A,C,z1,z3,d1,d2⟩:=b.dv;have m:∀F:Pz,Cg p (F*ci d) (F*pc (ci d<|X d-1)*ci (xE p d [x])):=λF=>by
  refine Cg.symm<|(Cg.rfl.mul<|hc d).trans<|Cg.trans (Cg.of ?_)<|((Cg.rfl (f:=F*ci d)).mul hj).trans<|Cg.of<|yp _;simp only[zd,zk,zE]
 exact⟨_,_,z1.mul<|Fs.pc _,z3.mul<|Fs.pc _,d1.trans<|m A,d2.trans<|m C⟩;rw[hm,hd,w];rw[zD,U O,ir mD];exact⟨d,s,t,O,⟨b.df,b.sf,b.tf,b.cg,b.dv,xal b.dl W,xal b.sl W,xal b.tl W⟩,.inl W⟩
end
section
variable{fu:wr}{a l b:xS wn}{p:wn}
def zdJ{n:K}(h:n<9223372036854775808):sgn n=(n:J):=by unfold sgn;lia
def AX{x:J}(h0:0<=x)(h:x<9223372036854775808)(f:3000000<=fu):Q9 fu (yG x)=Z (x,wL):=by
 have c:Bz 1 x:=by unfold Bz;lia
 unfold Q9;rw[U<|uf (c.ok mD) f,zo];have g:(yG x).1=I:=by unfold yG;simp;lia
 by_cases d:x=0
 subst d;rfl;have hc:=Cc.2 d;have hd:=c.len;obtain⟨n,rfl⟩:=xaC h0;have e:(yG (n:J)).2.getD 0 0=n:=by show(yH<|(n:J).natAbs).getD 0 0=n;rw[xaG,VQ,xfe,xer,xao W]
 rw[zD,U O,ir mD,zD,U O,ir mD,g,ir mD,U O,ir mD,ir mD,show(0:J)=((0:K):J)from O,yo,A,e,zD,yo,A,e,A,zdJ W]
def EO{a:M}(d:gy a)(h1:1<=p)(g:p<=65521)(c:3000000<=fu):Kz fu a p=Z (zv a%p,0):=by
 unfold Kz;have e:Bz 1 p:=by unfold Bz;lia
 have f:=xg (a:=zv a) (p:=p);rw[U<|yw ⟨W,W⟩ c,U<|Yr d (e.okS mD) c,zo];unfold GM;rw[zD];simp only[uS];rw[U<|AX f.1 W c]
def q9(p:J)(a:N M):N J:=nl (X a)<|λk=>cf a k%p
def Ku(p:J)(a:N M)(k:K):ci (q9 p a) k=cf a k%p:=DP (λk c=>by rw[yn c,xap]) k
def iK(p:J)(a:N M):Cg p (ci<|q9 p a) (cf a):=λk=>by rw[Ku,xaQ]
def Jl(hp:0<p)(a:N M):Fp p (q9 p a):=⟨λk=>by rw[Ku];exact(xg hp).1,λk=>by rw[Ku];exact(xg hp).2,AD _ _⟩
def zjK(p:J)(a:N M):X (q9 p a)<=X a:=Hd _ _
def uZ{k:K}{a:N M}(o:xa k a)(c:k<=40000)(h1:1<=p)(q:p<=65521)(hl:X a<=1000000:=by lia)(r:3000000<=fu:=by lia):Zv fu a p=Z (q9 p a,0):=by
 unfold Zv;have hd:=qJ (λk=>cf a k%p) (X a);rw[zD,U (v:=zl (X a)<|λk=>cf a k%p)];rw[U (v:=q9 p a)];refine zA (λt:N J=>∃m,m<=X a/\t=zl m (λk=>cf a k%p)/\dg (λk=>cf a k%p) m=dg (λk=>cf a k%p) (X a)) (λt=>X t) _ ?_ _ _ ⟨X a,So _,O,O⟩ (by rw[ye];lia);rintro t L ⟨m,u,rfl,d⟩ j;unfold lv;rw[ye]
 cases m with
 |zero=>
  rw[zD];unfold q9 nl;rw[<-d];rfl
 |succ m=>
  rw[yg,(W:((m+1:K):J)-1=(m:J)),zb,yo,A,kI];by_cases h0:cf a m%p=0
  rw[S h0,zb,yI,y8,A,zbm];exact j _ ⟨m,W,O,by rw[<-pO (f:=λk=>cf a k%p) h0,d]⟩<|by rw[ye,ye];lia
  rw[ir h0];unfold q9 nl;rw[<-d,dE (f:=λk=>cf a k%p) h0]
 unfold jw;rw[yI,y8,A,dD,U];refine zA (λs:J×N J=>∃i:K,i<=X a/\s=((i:J),zl (X a) (λk=>if k<i then cf a k%p else 0))) (λs=>X a-s.1.toNat) _ ?_ _ _ ⟨0,xae _,by rw[y3 (g:=λk=>if k<0 then cf a k%p else 0)<|λk _=>by rw[zD]];rfl⟩ (by show X a-0<fu;lia);rintro s L ⟨i,hi,rfl⟩ j;unfold Zs;simp only;by_cases h:i<X a;rw[yg,U O];simp only[uS];have e1:WQ fu (i:J) (a.getD i (I,[])) p=Z (cf a i%p):=by unfold WQ;rw[U<|EO (o.okS c i) h1 q r];rfl
 rw[zn h,A,U e1,zn (by rw[ye];exact h),A,ZW,zb];refine j _ ⟨i+1,W,?_⟩ (by show X a-((i:J)+1).toNat<X a-(i:J).toNat;lia);congr 1;refine y3 λk c=> ?_;unfold XI;by_cases e:k=i;rw[S e,yg,e];rw[ir e];show(if k<i then cf a k%p else 0)=_;by_cases n:k<i;rw[S n,yg];rw[ir n,zD];rw[zD,U O];simp only[xai,uP];congr 1;exact y3 λk c=>by rw[yg]
def um(l:N J):N M:=wK (X l)<|ci l
def jW(l:N J):cf (um l)=ci l:=kW λk=>jO (λk c=>yA c) k
def PZ(l:N J):X (um l)<=X l:=by unfold um;rw[xC];exact qJ _ _
def Rl.bz(h:Rl l)(k:K):Bz 1 (ci l k):=by have⟨h1,c⟩:=h k;unfold Bz;lia
def P3(h:Rl l):xa 1 (um l):=xi h.bz
theorem ud(h:Rl l)(hl:X l<=1000000)(c:3000000<=fu):jg fu l=Z (um l):=by
 unfold jg;rw[U (v:=zi (X l)<|ci l)];rw[U<|zI (XH h.bz) mD (by rw[yz];lia) c,yz,C9];rfl;unfold jq;rw[yI,y8,A,bf,U];refine zA (λs:J×N M=>∃i:K,i<=X l/\s=((i:J),zi (X l) (λk=>if k<i then ci l k else 0))) (λs=>X l-s.1.toNat) _ ?_ _ _ ⟨0,xae _,by rw[y9 (g:=λk=>if k<0 then ci l k else 0)<|λk _=>by rw[zD]];rfl⟩ (by show X l-0<fu;lia);rintro s L ⟨i,hi,rfl⟩ f;unfold Zb;simp only;by_cases h1:i<X l;have e1:XD fu (i:J) (l.getD i 0)=Z (yG<|ci l i):=by unfold XD;rw[QJ,U<|yw (h i) c]
 rw[yg,zn h1,A,U e1,zn (by rw[yz];exact h1),A,bU,zb];refine f _ ⟨i+1,W,?_⟩ (by show X l-((i:J)+1).toNat<X l-(i:J).toNat;lia);congr 1;refine y9 λk j=> ?_;unfold XI;by_cases e:k=i;rw[S e,yg,e];rw[ir e];show(if k<i then ci l k else 0)=_;by_cases d:k<i;rw[S d,yg];rw[ir d,zD];rw[zD];congr 1;exact y9 λk j=>by rw[yg]
theorem FC(h:Rl l)(hl:X l<=1000000)(c:3000000<=fu):J0 fu l=Z (um l):=by grind [J0,U,ud]
def u5(hp:qp p=wL)(d:Fp p a)(e:Fp p b)(hc:X a<=90000:=by lia)(hd:X b<=90000:=by lia)(f:3000000<=fu:=by lia):kq fu a b p=Z (xE p a b,0):=by have⟨g,c⟩:=zw hp;unfold kq;rw[U<|Zu hp,S O,U<|zK W c (d.rl c) W f,U<|zK W c (e.rl c) W f,d.pm,e.pm,U<|ve W c d e W W f]
def fi(hp:qp p=wL)(d:Fp p a)(e:Fp p b)(hc:X a<=90000)(hd:X b<=90000)(f:3000000<=fu):VM fu a b p=Z (XV p a b<|p-1,0):=by have⟨g,c⟩:=zw hp;unfold VM;rw[U<|Zu hp,S O,U<|zK W c (d.rl c) W f,U<|zK W c (e.rl c) W f,d.pm,e.pm,zb,U<|J4 W c d e W W W W f]
def K7(hp:qp p=wL)(c:Fp p a)(d:Fp p b)(hd:X a<=90000)(f:X b<=90000)(g:3000000<=fu):Xv fu a b p=Z (decide<|a=b):=by
 have⟨i,j⟩:=zw hp;unfold Xv;rw[U<|fi hp c d hd f g];simp only;have e:=aB (p:=p) W a b<|p-1;have hc:=U1 (p:=p) a b;by_cases h:a=b
 have hl:X (XV p a b<|p-1)<=0:=e.nl.le λk _=>by
  have:=hc k;rw[e.mod,y7]at this;simp_all
 simp_all;rw[Wl h,if_neg];intro h0;refine h<|c.ext d<|Cg.iff_sub.2<|hc.symm.trans λk=> ?_;rw[yA W,zO]
end
section
variable{p:wn}{l:xS wn}{fu M i:wr}
def SO(p:J)(l:N J):Prop:=(∀j,j<X l->0<=ci l j/\ci l j<p)/\1<X l/\ci l (X l-1)=1
def SO.fp(hp:0<p)(h:SO p l):Fp p l:=by refine⟨λk=> ?_,λk=> ?_,.inr<|by rw[h.2.2];decide⟩;by_cases a:k<X l;exact(h.1 k a).1;rw[yA W];lia;by_cases a:k<X l;exact(h.1 k a).2;rw[yA W];exact hp
theorem K6(hl:X l<=1000000)(n:3000000<=fu):∃b,XT fu l p=Z b/\(b=wL↔SO p l):=by
 unfold XT;have⟨r,e1,g⟩:=zX (f:=X6 fu l p) (λi:J=>∃j:K,i=(j:J)/\j<=X l/\∀t,t<j->0<=ci l t/\ci l t<p) (λi=>X l-i.toNat) (λr=>(r=.inl ()/\∀t,t<X l->0<=ci l t/\ci l t<p)\/(r=.inr ()/\¬∀t,t<X l->0<=ci l t/\ci l t<p)) (by
  rintro i L ⟨j,rfl,o,c⟩ k;unfold X6;by_cases h1:j<X l;rw[yg,zn h1,A,QJ];by_cases a:ci l j<0;grind;rw[ir a];by_cases d:p<=ci l j;rw[S d];exact⟨_,O,.inr ⟨O,λe=>by have:=(e j h1).2;lia⟩⟩;rw[ir d,zb];refine k _ ⟨j+1,O,W,λt ht=> ?_⟩ W;by_cases m:t=j;rw[m];lia;exact c t W
  rw[zD];exact⟨_,O,.inl ⟨O,λt ht=>c t W⟩⟩) fu 0 ⟨0,O,xae _,λt h=>wS h (xbc _)⟩ (by show X l-0<fu;lia)
 rw[U e1];rcases g with⟨rfl,h⟩|⟨rfl,h⟩
 simp only;by_cases h1:1<X l;rw[yg,(W:(X l:J)-1=((X l-1:K):J)),zb,yo,A,QJ];by_cases a:ci l (X l-1)=1
 rw[S a];exact⟨_,O,λ_=>⟨h,h1,a⟩,λ_=>O⟩;rw[ir a];exact⟨_,O,λe=>wS e mD,λe=>wS e.2.2 a⟩;rw[zD];exact⟨_,O,λe=>wS e mD,λe=>wS e.2.1 h1⟩;exact⟨_,O,λe=>wS e mD,λe=>wS e.1 h⟩
def QH(p:J)(fs:N (N J)):N J:=fs.foldl (xE p) [1]
def prZ:N Pz->Pz
 |[]=>pc 1
 |f::r=>f*prZ r
theorem vm:∀(a b:N Pz),prZ (a++b)=prZ a*prZ b
 |[],b=>(zC _).symm
 |f::r,b=>by show f*prZ (r++b)=f*prZ r*prZ b;rw[vm r b,zd]
def zcn(p:J):∀(fs:N (N J)) (t:N J),Cg p (ci<|fs.foldl (xE p) t) (ci t*prZ (fs.map ci))
 |[],t=>by show Cg p (ci t) (ci t*pc 1);rw[yp];exact Cg.rfl
 |f::r,t=>by refine(zcn p r<|xE p t f).trans<|((ZF p t f).mul Cg.rfl).trans<|Cg.of<|zd _ _ _
def nX(p:J)(fs:N (N J)):Cg p (ci<|QH p fs) (prZ<|fs.map ci):=by have:=zcn p fs [1];rw[jY,zC]at this;exact this
def zci{p:J}(hp:0<p):∀(fs:N (N J)) {t:N J},Fp p t->Fp p (fs.foldl (xE p) t)
 |[],_,h=>h
 |f::r,t,h=>zci hp r<|jc hp t f
def db(hp:2<=p)(fs:N (N J)):Fp p (QH p fs):=zci W fs<|Qe
theorem zbV{p:J}{M:K}:∀{fs:N (N J)}{t:N J},(∀f∈fs,X f<=M)->X (fs.foldl (xE p) t)<=X t+X fs*M
 |[],_,_=>by simp
 |f::r,t,h=>by
  have h1:=zbV (p:=p) (t:=xE p t f) λg a=>h g<|FS _ a;have b:=jF p t f;show(r.foldl (xE p)<|xE p t f).length<=X t+(X r+1)*M;grind
def fG{fs:N (N J)}(h:∀f∈fs,X f<=M):X (QH p fs)<=1+X fs*M:=zbV h
theorem Hb{l:N (N J)}(h:i<X l):l.getD i []∈l:=by grind
theorem zd1{l:N (N J)}(h:i<X l):l.take (i+1)=l.take i++[l.getD i []]:=by grind [xeU]
def jD{fs:N (N J)}(hp:qp p=wL)(d:∀f∈fs,Fp p f)(a:∀f∈fs,X f<=M)(g:1+X fs*M<=90000)(h:M<=90000)(hc:X fs<=90000:=by lia)(b:3000000<=fu:=by lia):qk fu fs p=Z (QH p fs):=by have⟨j,k⟩:=zw hp;unfold qk;rw[U (v:=QH p fs)];refine zA (λs:N J×J=>∃i:K,i<=X fs/\s=(QH p<|fs.take i,(i:J))) (λs=>X fs-s.2.toNat) _ ?_ _ _ ⟨0,xae _,O⟩ (by show X fs-0<fu;lia);rintro s L ⟨i,hi,rfl⟩ e;unfold J3;simp only;by_cases h1:i<X fs;have c:=Hb h1;have hl:=fG (p:=p) (fs:=fs.take i) (M:=M) λf b=>a f<|xes b;have hd:X (fs.take i)*M<=X fs*M:=xaj _<|List.length_take_le' ..;have m:=a _ c;rw[yg,zn h1,A,U<|u5 hp (db W _)<|d _ c];simp only;rw[zb];refine e _ ⟨i+1,W,?_⟩ (by show X fs-((i:J)+1).toNat<X fs-(i:J).toNat;lia);congr 1;unfold QH;rw[zd1 h1,List.foldl_append];rfl;rw[zD,xaW W]
def kn(p:J)(f g:Pz):Prop:=∃s t:Pz,Fs s/\Fs t/\Cg p (s*f+t*g) (pc 1)
theorem kn.symm{f g:Pz}(h:kn p f g):kn p g f:=by have⟨s,t,a,z2,h⟩:=h;refine⟨t,s,z2,a,(Cg.of ?_).trans h⟩;funext k;rw[zP,zP,Int.add_comm]
def kn.mul{p:J}{f g h:Pz}(c:Fs g)(d:Fs h)(e:Fs f)(h1:kn p f h)(a:kn p g h):kn p (f*g) h:=by have⟨s,t,b,z2,h1⟩:=h1;have⟨u,v,z3,z4,a⟩:=a;refine⟨s*u,s*f*v+t*(u*g+v*h),b.mul z3,((b.mul e).mul z4).add<|z2.mul<|(z3.mul c).add<|z4.mul d,Cg.trans (Cg.of ?_)<|(h1.mul a).trans<|Cg.of<|zC _⟩;simp only[wG,zE,zk];funext k;simp only[zP];lia
def kn.one(p:J)(h:Pz):kn p (pc 1) h:=⟨pc 1,pc 0,Fs.pc 1,Fs.pc 0,Cg.of (by rw[zC,yB];funext k;rw[zP,zO,xbW])⟩
theorem Fs.prZ:∀{fs:N Pz},(∀f∈fs,Fs f)->Fs (prZ fs)
 |[],_=>Fs.pc 1
 |f::r,a=>(a f<|IR).mul<|Fs.prZ λg b=>a g<|FS _ b
theorem kn.prZ{p:J}{h:Pz}(c:Fs h):∀{fs:N Pz},(∀f∈fs,Fs f)->(∀f∈fs,kn p f h)->kn p (prZ fs) h
 |[],_,_=>kn.one p h
 |f::r,b,d=>kn.mul (Fs.prZ λg a=>b g<|FS _ a) c (b f<|IR) (d f<|IR)<|kn.prZ c (λg a=>b g<|FS _ a) λg a=>d g<|FS _ a
def Lr{g h d s t:N J}{S:K}(a:BzR p g h d s t S)(hl:X d=1)(h1:ci d (X d-1)=1):kn p (ci g) (ci h):=by
 have e:ci d=pc 1:=by
  funext k;unfold pc;by_cases b:k=0
  simp_all;rw[ir b,yA W]
 have:=a.cg;rw[e]at this;exact⟨ci s,ci t,Fs.ci s,Fs.ci t,this.symm⟩
structure eJ(p:J)(a:N Zr)(fs:N (N J)):Prop where
 a0:a.length≠0
 al:(q9 p a).length=a.length
 fl:fs.length<=a.length
 pl:∀i,i<fs.length->(fs.getD i []).length<=a.length/\SO p (fs.getD i [])
 cp:∀i j,i<fs.length->j<i->kn p (ci<|fs.getD i []) (ci<|fs.getD j [])
 pr:xE p (QH p fs) [ci (q9 p a)<|a.length-1]=q9 p a
def O5{f:N J}{fs:N (N J)}(hp:qp p=wL)(hc:Fp p f)(hd:X f<=290)(hi:i<=X fs)(hl:i<=1000000)(c:∀j,j<i->Fp p (fs.getD j [])/\X (fs.getD j [])<=290)(g:3000000<=fu):
 ∃r,zg (jV fu p f<|fs.take i) fu 0=Z r/\(r=.inl ()->∀j,j<i->kn p (ci f) (ci<|fs.getD j [])):=by
 have w:X (fs.take i)=i:=by rw[xar];lia
 have k:∀j,j<i->(fs.take i).getD j []=fs.getD j []:=λj a=>by rw[UV,xbD,S a,<-UV]
 refine zX (λx:J=>∃j:K,x=(j:J)/\j<=i/\∀t,t<j->kn p (ci f) (ci<|fs.getD t [])) (λx=>i-x.toNat) _ ?_ _ _ ⟨0,O,xae _,λt h=>wS h<|xbc _⟩ (by show i-0<fu;lia);rintro x L ⟨j,rfl,a,b⟩ m;unfold jV;by_cases h1:j<i;have⟨k1,k2⟩:=c j h1;have⟨d,s,t,e1,n,o⟩:=uI (fu:=fu) hp hc k1 hd k2 g;rw[yg,yo,A,k j h1];have q:ks fu f (fs.getD j []) p=Z (d,0):=by unfold ks;rw[U e1]
 rw[U q];simp only;by_cases u:X d=1
 rw[yg,zb];refine m _ ⟨j+1,O,W,λt ht=> ?_⟩ W;by_cases v:t=j;rw[v];exact Lr n u<|o.resolve_left W
 exact b t W
 rw[zD];exact⟨_,O,λe=>wS e mK⟩;rw[zD];exact⟨_,O,λ_ t ht=>b t W⟩
def oo{k:K}{a:N Zr}{fs:N (N J)}(hp:qp p=wL)(s:xa k a)(u:k<=40000)(E:X a<=66)(d:3000000<=fu):
 ∃b,vB fu a fs p=Z b/\(b=wL->eJ p a fs):=by
 have⟨F,v⟩:=zw hp;unfold vB;rw[U<|uZ s u W v];simp only;by_cases h0:X a=0
 simp_all;rw[zD];by_cases hl:X (q9 p a)=X a;rw[yg];by_cases hv:X a<X fs;simp_all;rw[zD]
 have⟨r,e1,w⟩:=zX (f:=jI fu a fs p) (λx:J×N J=>∃i:K,x=((i:J),q9 p a)/\i<=X fs/\(∀t,t<i->X (fs.getD t [])<=X a/\SO p (fs.getD t []))/\∀t j,t<i->j<t->kn p (ci<|fs.getD t []) (ci<|fs.getD j [])) (λx=>X fs-x.1.toNat)
  (λr=>r=.inr ()\/(r=.inl (q9 p a)/\(∀t,t<X fs->X (fs.getD t [])<=X a/\SO p (fs.getD t []))/\∀t j,t<X fs->j<t->kn p (ci<|fs.getD t []) (ci<|fs.getD j []))) (by
   rintro x L ⟨i,rfl,hi,g1,g⟩ y;unfold jI;simp only;by_cases h1:i<X fs;rw[yg,U O];simp only[uS];rw[zn h1,A];by_cases G:X a<X (fs.getD i []);rw[yg];exact⟨_,O,.inl O⟩;have⟨b,b1,b2⟩:=K6 (fu:=fu) (l:=fs.getD i []) (p:=p) W d;rw[zD,U b1]
   cases b with
   |false=>
    rw[S mD];exact⟨_,O,.inl O⟩
   |true=>
    have hd:=b2.1 O;rw[ir mD,yI,y8,A];have⟨q,q1,q2⟩:=O5 (fu:=fu) (i:=i) (fs:=fs) hp (hd.fp W) W W W (λj c=>⟨(g1 j c).2.fp W,by have:=(g1 j c).1;lia⟩) d;rw[U q1];obtain q|q:=q
    simp only;rw[zb];refine y _ ⟨i+1,O,W,λt ht=> ?_,λt j ht c=> ?_⟩ (by show X fs-((i:J)+1).toNat<X fs-(i:J).toNat;lia);by_cases n:t=i;rw[n];exact⟨W,hd⟩;exact g1 t W
    by_cases n:t=i;rw[n]at c⊢;exact q2 O j c;exact g t j W c;exact⟨_,O,.inl O⟩
   rw[zD,U O];simp only[xai,uP];exact⟨_,O,.inr ⟨O,λt ht=>g1 t W,λt j ht c=>g t j W c⟩⟩) fu (0,q9 p a) ⟨0,O,xae _,λt h=>wS h (xbc _),λt j h=>wS h (xbc _)⟩ (by show X fs-0<fu;lia)
 rw[U e1];obtain rfl|⟨rfl,g1,g⟩:=w
 exact⟨_,O,λe=>wS e mD⟩
 simp only;have hc:∀{q:N J->Prop},(∀t,t<X fs->q (fs.getD t []))->∀f∈fs,q f:=λ{q} h f d=>by
  obtain⟨j,c,rfl⟩:=xcq.1 d;have:=h j c;rw[UV,xab c]at this;exact this
 have hn:∀f∈fs,Fp p f:=hc λt ht=>(g1 t ht).2.fp W;have o:∀f∈fs,X f<=66:=hc λt ht=>by have:=(g1 t ht).1;lia
 have H:X fs*66<=66*66:=xaj _ W;have hd:=fG (p:=p) o;have m:=Jl (p:=p) W a;have P:ci (q9 p a) (X a-1)≠0:=by
  obtain h|h:=m.nl
  lia;rw[hl]at h;exact h
 have Q:=m.nn<|X a-1;have z:=m.lt<|X a-1;have B:(q9 p a).drop (X a-1)=[ci (q9 p a)<|X a-1]:=by rw[xbV W,xbR W];unfold ci;rw[UV,xab W];rfl
 have C:=Qe (p:=p) (x:=ci (q9 p a)<|X a-1) W z;have D:=jF p (QH p fs) [ci (q9 p a)<|X a-1];simp only[xaw,xbT]at D;rw[U (jD hp hn o W mD),hl,(W:(X a:J)-1=((X a-1:K):J)),zb,yI,y8,A,B,U<|u5 hp (db W fs) C W mK];simp only;rw[U<|K7 hp (jc W _ _) m W W d];exact⟨_,O,λe=>⟨h0,hl,W,g1,g,Wr e⟩⟩;rw[zD];exact⟨_,O,λe=>wS e mD⟩
end
section
variable{k fu K:wr}{a b d f g h s:xS Zr}{m:wn}
def aX(a b:N M):N M:=wK (max (X a) (X b))<|λj=>cf a j+cf b j
def zcu(a b:N M)(k:wr):cf (aX a b) k=cf a k+cf b k:=jO (λj c=>VE c) k
def cY(a b:N M):X (aX a b)<=max (X a) (X b):=by unfold aX;rw[xC];exact qJ _ _
def pQ(c:xa k a)(e:xa k b):xa (k+1) (aX a b):=xi λj=>(c.bz j).add<|e.bz j
def pR(c:xa k a)(e:xa k b)(i:k+1<=100000)(hc:X a<=1000000)(hd:X b<=1000000)(j:3000000<=fu):qc fu a b=Z (aX a b):=fM c e i hc hd j
def Oh:N M:=um [1]
def zje:(cf Oh:Pz)=pc 1:=by unfold Oh;rw[jW,jY]
def zhl:X Oh<=1:=PZ [1]
def zil:Rl [1]:=λk=>by
 rw[jY];unfold pc;split<;>exact⟨mD,mD⟩
def zbA:xa 1 Oh:=P3 zil
def eZ(f g h:N M)(m:J):N M:=vF (aG f<|xb g h) m
def Fa(x d:N M)(m:J):N M:=Gq (vF x m) d m
def BZ(x d:N M)(m:J):N M:=W5 (vF x m) d m
def puG(f g h s t:N M)(m:J):N M:=vF (aX g<|aX (xb t<|eZ f g h m)<|xb (Fa (xb s<|eZ f g h m) h m) g) m
def FE(f g h s:N M)(m:J):N M:=vF (aX h<|BZ (xb s<|eZ f g h m) h m) m
def lH(g h s t:N M)(m:J):N M:=vF (aG (aX (xb s g)<|xb t h) Oh) m
def puS(g h s t:N M)(m:J):N M:=vF (aG s<|BZ (xb s<|lH g h s t m) h m) m
def puT(g h s t:N M)(m:J):N M:=vF (aG t<|aX (xb t<|lH g h s t m)<|xb (Fa (xb s<|lH g h s t m) h m) g) m
def zgJ{x:N M}(c:Bz K m)(h0:0<m):xa K (Fa x d m):=xi λj=>c.emod h0
def zhc{x:N M}(c:Bz K m)(h0:0<m):xa K (BZ x d m):=xi λj=>c.emod h0
theorem zbG(x d:N M)(m:J):X (Fa x d m)<=X x+1:=by grind [Gq,Fa,xC,Xo,qJ]
theorem zcp(x d:N M)(m:J):X (BZ x d m)<=X x:=by grind [W5,BZ,xC,qJ,Xo]
def GH{x:N M}(c:0<X d)(hc:cf d (X d-1)=1):X (BZ x d m)<X d:=Fq c hc
def zbS(i:2<=m)(hl:0<X h)(h1:cf h (X h-1)=1):X (FE f g h s m)=X h/\cf (FE f g h s m) (X h-1)=1:=by
 have j:=GH (x:=xb s<|eZ f g h m) (m:=m) hl h1;have e:∀k,cf (FE f g h s m) k=(cf h k+cf (BZ (xb s<|eZ f g h m) h m) k)%m:=λk=>by unfold FE;rw[uM,zcu]
 have e1:cf (FE f g h s m) (X h-1)=1:=by rw[e,h1,yn (p:=BZ _ _ _) W];exact xaH mD W
 refine⟨xcF (NC (U7 _ _) λk c=> ?_)<|xbx λl=> ?_,e1⟩;have:=e k;unfold FE at this;rw[this,yn c,yn (p:=BZ _ _ _) W,xbW,xap];rw[yn W]at e1;cases e1
def iX{W:wr}{t:N M}{m:M}(F:xa K f)(l:xa K g)(r:xa K h)(e:xa K s)(ht:xa K t)(lf:X f<=W)(lg:X g<=W)(lh:X h<=W)(ls:X s<=W)(lt:X t<=W)(hW:W<=5000)(hi:1<=K)(hK:K<=1000)(hc:zm m.2)(hd:X m.2<=K)(h2:2<=zv m)(hl:0<X h)(h1:cf h (X h-1)=1)(c:3000000<=fu):
 kj fu [g,h,s,t] f m=Z [puG f g h s t<|zv m,FE f g h s<|zv m,puS (puG f g h s t<|zv m) (FE f g h s<|zv m) s t<|zv m,puT (puG f g h s t<|zv m) (FE f g h s<|zv m) s t<|zv m]:=by
 have j:Bz K (zv m):=(Bz.of hc).mono hd;have n:gy m:=⟨hc,lM⟩;have h0:0<zv m:=lM
 unfold kj;rw[CJ (i:=0) mD,A,CJ (i:=1) mD,A,CJ (i:=2) mD,A,CJ (i:=3) mD,A,show[g,h,s,t].getD (Int.toNat 0) []=g from O,show[g,h,s,t].getD (Int.toNat 1) []=h from O,show[g,h,s,t].getD (Int.toNat 2) []=s from O,show[g,h,s,t].getD (Int.toNat 3) []=t from O];have o:=Y2 l r;have l1:=ug g h;have L:=UJ f<|xb g h;rw[U<|xY l r lM lM c,U<|Zh (k:=K+K+X g) (F.mono lM) o lM lM lM c,U<|Xe (B8 (F.mono lM) o) lM n h0,show vF (aG f<|xb g h) (zv m)=eZ f g h (zv m)from O];have u:xa K (eZ f g h<|zv m):=ay j h0;have le:X (eZ f g h<|zv m)<=W+W:=xal (Xo _ _) lM;have v:=Y2 e u;have P:=ug s<|eZ f g h<|zv m;have D:=zgJ (x:=xb s<|eZ f g h<|zv m) (d:=h) j h0;have pr:=zhc (x:=xb s<|eZ f g h<|zv m) (d:=h) j h0;have lq:=zbG (xb s<|eZ f g h<|zv m) h<|zv m;have lr:=zcp (xb s<|eZ f g h<|zv m) h<|zv m;rw[U<|xY e u lM lM c,U<|QA v lM r hc hd h0 hl lM lM c,show Gq (vF (xb s<|eZ f g h<|zv m)<|zv m) h (zv m)=Fa (xb s<|eZ f g h<|zv m) h (zv m)from O,show W5 (vF (xb s<|eZ f g h<|zv m)<|zv m) h (zv m)=BZ (xb s<|eZ f g h<|zv m) h (zv m)from O];simp only;have p:=Y2 ht u;have Q:=ug t<|eZ f g h<|zv m;have w:=Y2 D l;have R:=ug (Fa (xb s<|eZ f g h<|zv m) h<|zv m) g;have q:=pQ (k:=K+K+W+W+W+1) (p.mono lM) (w.mono lM);have S:=cY (xb t<|eZ f g h<|zv m)<|xb (Fa (xb s<|eZ f g h<|zv m) h<|zv m) g;have y:=pQ (k:=K+K+W+W+W+2) (l.mono lM) q;have T:=cY g<|aX (xb t<|eZ f g h<|zv m)<|xb (Fa (xb s<|eZ f g h<|zv m) h<|zv m) g;rw[U<|xY ht u lM lM c,U<|xY D l lM lM c,U<|pR (k:=K+K+W+W+W+1) (p.mono lM) (w.mono lM) lM lM lM c,U<|pR (k:=K+K+W+W+W+2) (l.mono lM) q lM lM lM c,U<|Xe y lM n h0,show vF (aX g<|aX (xb t<|eZ f g h<|zv m)<|xb (Fa (xb s<|eZ f g h<|zv m) h<|zv m) g) (zv m)=puG f g h s t (zv m)from O];have V:=cY h<|BZ (xb s<|eZ f g h<|zv m) h<|zv m;rw[U<|pR r pr lM lM lM c,U<|Xe (pQ r pr) lM n h0,show vF (aX h<|BZ (xb s<|eZ f g h<|zv m) h<|zv m) (zv m)=FE f g h s (zv m)from O];have⟨hj,hk⟩:=zbS (f:=f) (g:=g) (s:=s) h2 hl h1;have B:xa K (puG f g h s t<|zv m):=ay j h0;have E:xa K (FE f g h s<|zv m):=ay j h0;have lG:X (puG f g h s t<|zv m)<=4*W+1:=xal (Xo _ _) lM;clear l1 L P Q R S T V o v p w q y u le D pr lq lr;generalize puG f g h s t (zv m)=G at*
 generalize FE f g h s (zv m)=H at*
 have o:=Y2 e B;have l1:=ug s G;have v:=Y2 ht E;have L:=ug t H;have p:=pQ (k:=K+K+W) (o.mono lM) (v.mono lM);have P:=cY (xb s G)<|xb t H;have Q:=UJ (aX (xb s G)<|xb t H) Oh;have R:=zhl;rw[U<|xY e B lM lM c,U<|xY ht E lM lM c,U<|pR (k:=K+K+W) (o.mono lM) (v.mono lM) lM lM lM c];rw[U<|FC zil mD c,show um [1]=Oh from O,U<|Zh p (zbA.mono lM) lM lM lM c,U<|Xe (B8 p<|zbA.mono lM) lM n h0,show vF (aG (aX (xb s G)<|xb t H) Oh) (zv m)=lH G H s t (zv m)from O];have C:xa K (lH G H s t<|zv m):=ay j h0;have lb:X (lH G H s t<|zv m)<=5*W+2:=xal (Xo _ _) lM;have w:=Y2 e C;have S:=ug s<|lH G H s t<|zv m;have z:=zgJ (x:=xb s<|lH G H s t<|zv m) (d:=H) j h0;have pd:=zhc (x:=xb s<|lH G H s t<|zv m) (d:=H) j h0;have lc:=zbG (xb s<|lH G H s t<|zv m) H<|zv m;have ld:=zcp (xb s<|lH G H s t<|zv m) H<|zv m;have T:=UJ s<|BZ (xb s<|lH G H s t<|zv m) H<|zv m;rw[U<|xY e C lM lM c,U<|QA w lM E hc hd h0 lM lM lM c,show Gq (vF (xb s<|lH G H s t<|zv m)<|zv m) H (zv m)=Fa (xb s<|lH G H s t<|zv m) H (zv m)from O,show W5 (vF (xb s<|lH G H s t<|zv m)<|zv m) H (zv m)=BZ (xb s<|lH G H s t<|zv m) H (zv m)from O];simp only;rw[U<|Zh e pd lM lM lM c,U<|Xe (B8 e pd) lM n h0,show vF (aG s<|BZ (xb s<|lH G H s t<|zv m) H<|zv m) (zv m)=puS G H s t (zv m)from O];have q:=Y2 ht C;have V:=ug t<|lH G H s t<|zv m;have y:=Y2 z B;have l9:=ug (Fa (xb s<|lH G H s t<|zv m) H<|zv m) G;have Y:=pQ (k:=K+K+6*W+3) (q.mono lM) (y.mono lM);have a0:=cY (xb t<|lH G H s t<|zv m)<|xb (Fa (xb s<|lH G H s t<|zv m) H<|zv m) G;have a1:=UJ t<|aX (xb t<|lH G H s t<|zv m)<|xb (Fa (xb s<|lH G H s t<|zv m) H<|zv m) G;rw[U<|xY ht C lM lM c,U<|xY z B lM lM c,U<|pR (k:=K+K+6*W+3) (q.mono lM) (y.mono lM) lM lM lM c,U<|Zh (ht.mono lM) Y lM lM lM c,U<|Xe (B8 (ht.mono lM) Y) lM n h0,show vF (aG t<|aX (xb t<|lH G H s t<|zv m)<|xb (Fa (xb s<|lH G H s t<|zv m) H<|zv m) G) (zv m)=puT G H s t (zv m)from O]
end
section
variable{d f g h s:xS Zr}{m:wn}
def Xz(a:N M)(m:J):Cg m (cf<|vF a m) (cf a):=λk=>by rw[uM,xaQ]
def LD(a b:N M):(cf (aG a b):Pz)=cf a-cf b:=kW λk=>zbE a b k
def Ea(a b:N M):(cf (aX a b):Pz)=cf a+cf b:=kW λk=>zcu a b k
def zfY{x:N M}(b:0<X d)(hc:cf d (X d-1)=1):Cg m (cf x) ((cf (Fa x d m):Pz)*cf d+cf (BZ x d m)):=by
 intro k;unfold Fa BZ;rw[zP,<-uj,nL W b hc,xej,xaQ,<-xej];have c:=uM x m k;generalize vF x m=r at*
 have⟨qn,a⟩:∃qn,qn=X r+1-X d:=⟨_,O⟩;have hd:∀j,j<qn->cf (Gq r d m) j=TU r d m qn j:=λj i=>by
  rw[zb3];unfold dvQ TU;simp_all
 have e:X (Gq r d m)<=qn:=by unfold Gq;rw[xC,<-a];exact qJ _ _
 have h:=zch hd k qn<|So _;rw[BL,Rs e]at h;rw[MM,<-a,Int.add_comm,<-h,c,xaQ]
def fY{n x:J}(hn:n∣m)(a:n∣x):n∣x%m:=by rw[Int.emod_def];exact xdu a<|xbu hn<|xbY _ _
def BQ{r d:N M}{n m:J}{qn:K}(hn:n∣m)(a:∀k,n∣cf r k):∀s k,n∣dvF r d m qn s k
 |0,k=>a k
 |s+1,k=>xdu (BQ hn a s k)<|xbu (fY hn<|BQ hn a s _)<|xbY _ _
def zg7{x:N M}{n:J}(hn:n∣m)(b:Cg n (cf x) (pc 0))(c:0<X d)(hc:cf d (X d-1)=1):Cg n (cf<|Fa x d m) (pc 0)/\Cg n (cf<|BZ x d m) (pc 0):=by
 have a:∀k,n∣cf (vF x m) k:=λk=>by rw[uM];exact fY hn<|b.dvd k
 refine⟨Cg.of_dvd λk=> ?_,Cg.of_dvd λk=> ?_⟩;unfold Fa;rw[zb3];refine fY hn ?_;unfold dvQ;split;exact fY hn<|BQ hn a _ _;simp_all;unfold BZ;rw[nL W c hc];exact fY hn<|BQ hn a _ _
def zow{n:J}(c:m∣n*n)(hn:n∣m){t:N M}(h1:Cg n (cf f) ((cf g:Pz)*cf h))(e:Cg n ((cf s:Pz)*cf g+(cf t:Pz)*cf h) (pc 1))(a:0<X h)(hc:cf h (X h-1)=1):
 Cg m (cf f) ((cf (puG f g h s t m):Pz)*cf (FE f g h s m))/\Cg n (cf<|puG f g h s t m) (cf g)/\Cg n (cf<|FE f g h s m) (cf h):=by
 have b:Cg m (cf<|eZ f g h m) ((cf f:Pz)-(cf g:Pz)*cf h):=by refine(Xz _ _).trans<|Cg.of ?_;rw[LD,uj]
 have i:Cg n (cf<|eZ f g h m) (pc 0):=(b.down hn).trans<|Cg.iff_sub.1 h1;have hd:Cg m ((cf s:Pz)*cf (eZ f g h m)) ((cf (Fa (xb s<|eZ f g h m) h m):Pz)*cf h+cf (BZ (xb s<|eZ f g h m) h m)):=by rw[<-uj];exact zfY a hc
 have⟨j,z2⟩:=zg7 (x:=xb s<|eZ f g h m) (d:=h) hn (by rw[uj];exact i.mul_zero_l _) a hc;refine zgN c hn (q:=cf<|Fa (xb s<|eZ f g h m) h m) (r:=cf<|BZ (xb s<|eZ f g h m) h m) h1 e b hd j z2 ?_ ?_;refine(Xz _ _).trans<|Cg.of ?_;rw[Ea,Ea,uj,uj];refine(Xz _ _).trans<|Cg.of ?_;rw[Ea]
def zmC{n:J}(a:m∣n*n)(hn:n∣m){t:N M}(b:Cg n ((cf s:Pz)*cf g+(cf t:Pz)*cf h) (pc 1))(c:0<X h)(hc:cf h (X h-1)=1):
 Cg m ((cf (puS g h s t m):Pz)*cf g+(cf (puT g h s t m):Pz)*cf h) (pc 1):=by
 have e:Cg m (cf<|lH g h s t m) ((cf s:Pz)*cf g+(cf t:Pz)*cf h-pc 1):=by refine(Xz _ _).trans<|Cg.of ?_;rw[LD,Ea,uj,uj,zje]
 have hd:Cg m ((cf s:Pz)*cf (lH g h s t m)) ((cf (Fa (xb s<|lH g h s t m) h m):Pz)*cf h+cf (BZ (xb s<|lH g h s t m) h m)):=by rw[<-uj];exact zfY c hc
 refine zgP a hn b e hd ?_ ?_;refine(Xz _ _).trans<|Cg.of ?_;rw[LD];refine(Xz _ _).trans<|Cg.of ?_;rw[LD,Ea,uj,uj]
def zcr{a b:N M}(e:0<X a)(hc:0<X b)(c:cf b (X b-1)=1):((cf a:Pz)*cf b) (X a-1+(X b-1))=cf a (X a-1):=by
 rw[wV,wy (i:=X a-1) λi hi=> ?_,yg,(W:X a-1+(X b-1)-(X a-1)=X b-1),c,xcQ];by_cases h:i<X a-1
 rw[yn (p:=b) W,xaA];rw[yn W,xba]
theorem zb6(q:2<=m)(c:vF g m=g)(e:vF f m=f)(r:0<X f)(hl:0<X h)(hn:cf h (X h-1)=1)(hc:Cg m (cf f) ((cf g:Pz)*cf h)):
 X f=X g+(X h-1)/\0<X g/\cf g (X g-1)=cf f (X f-1):=by
 have l:=U7 g m;have a:=U7 f m;rw[c]at l;rw[e]at a;have o:∀k,cf g k%m=cf g k:=λk=>by rw[<-uM,c]
 have hd:∀k,cf f k%m=cf f k:=λk=>by rw[<-uM,e]
 have hp:=Xq a W;have g0:0<X g:=by refine xcR λh0=>hp ?_;rw[<-hd,hc,wV,yZ λi hi=>by rw[yn (p:=g) W,xba],xap]
 have t:=Xq l W;have ht:=hc<|X g-1+(X h-1);rw[zcr g0 hl hn,hd,o]at ht;have e1:X f=X g+(X h-1):=by refine xcF (NC a λk u=> ?_)<|xbx λv=> ?_;rw[<-hd,hc,uy (n:=X g) (m:=X h) (λj b=>yn b)<|λj b=>yn b,xap];rw[yn (p:=f) W]at ht;lia
 grind
end
section
variable{r0 r1 a b K fu:wr}{u0 u1 v0 v1:wn}
structure ZbI(a b:wr)(r0 r1:wr)(u0 v0 u1 v1:J):Prop where
 p0:0<r0
 le0:r0<=max a b
 le1:r1<=max a b
 e0:u0*a+v0*b=r0
 e1:u1*a+v1*b=r1
 g:xdq r0 r1=xdq a b
 su:∃x y:wr,((u0=x/\u1= -y)\/(u0= -x/\u1=y))/\r0*y+r1*x=b
 sv:∃x y:wr,((v0=x/\v1= -y)\/(v0= -x/\v1=y))/\r0*y+r1*x=a
 bu0:u0.natAbs<=b
 bu1:u1.natAbs<=b
 bv0:v0.natAbs<=a
 bv1:v1.natAbs<=a
def Og{c:wr}(i:0<r1)(h:∃x y:wr,((u0=x/\u1= -y)\/(u0= -x/\u1=y))/\r0*y+r1*x=c):
 (∃x y:wr,((u1=x/\u0-((r0/r1:wr):J)*u1= -y)\/(u1= -x/\u0-((r0/r1:wr):J)*u1=y))/\r1*y+r0%r1*x=c)/\(u0-((r0/r1:wr):J)*u1).natAbs<=c:=by
 have⟨x,y,g,j⟩:=h;have hc:=xbs r0 r1;generalize r0/r1=q at*
 generalize r0%r1=r2 at*
 have e1:r1*(x+q*y)+r2*y=c:=by
  rw[xco,<-xbl];have:r0*y=r1*q*y+r2*y:=by rw[<-xbi,hc]
  lia
 have k:x+q*y<=c:=by have l:1*(x+q*y)<=r1*(x+q*y):=xaj _ W;lia
 have f:((q*y:wr):J)=(q:J)*(y:J):=mK
 rcases g with⟨d,e⟩|⟨d,e⟩
 rw[d,e,Int.mul_neg,<-f];exact⟨⟨y,x+q*y,.inr ⟨O,W⟩,e1⟩,W⟩;rw[d,e,<-f];exact⟨⟨y,x+q*y,.inl ⟨O,W⟩,e1⟩,W⟩
theorem ZbI.step(h:ZbI a b r0 r1 u0 v0 u1 v1)(c:0<r1):ZbI a b r1 (r0%r1) u1 v1 (u0-((r0/r1:wr):J)*u1) (v0-((r0/r1:wr):J)*v1):=by
 have⟨d,e⟩:=Og c h.su;have⟨t1,t2⟩:=Og c h.sv;have hd:=xbs r0 r1;have i:=xaN r0 c;have f:=h.le1;refine⟨c,f,W,h.e1,?_,?_,d,t1,h.bu1,e,h.bv1,t2⟩;have e0:=h.e0;have e1:=h.e1;have hc:(r0:J)=(r1:J)*((r0/r1:wr):J)+((r0%r1:wr):J):=W
 grind;rw[<-h.g,xdE r1,<-Nat.gcd_rec,xdE]
theorem Bz.nat{n:wr}(h:n<18446744073709551616^K):Bz K (n:J):=by unfold Bz;exact h
def iL{q x0 e z0 f g h:J}(c:Bz K q)(h1:Bz K x0)(l:Bz K e)(m:Bz K z0)(i:Bz K f)(j:Bz K g)(k:Bz K h)(n:K<=10000)(d:3000000<=fu):
 ZJ fu (yG x0,(yG e,yG z0)) (yG q) (yG f,(yG g,yG h))=Z (yG<|x0-q*f,(yG<|e-q*g,yG<|z0-q*h)):=by
 unfold ZJ;have b1:=c.mul i;have b2:=c.mul j;have b3:=c.mul k;rw[U<|yj (c.ok W) (i.ok W) d,zo,zo,U<|qd (h1.ok W) (b1.ok W) d,zo,zo,U<|yj (c.ok W) (j.ok W) d,zo,zo,U<|qd (l.ok W) (b2.ok W) d,zo,zo,U<|yj (c.ok W) (k.ok W) d,zo,zo,U<|qd (m.ok W) (b3.ok W) d,zo,zo]
def MV(h:r1<=r0:=by lia)(c:0<r1:=by lia):bl (r0%r1)<bl r0:=by
 have f:=xbs r0 r1;have hc:=xaN r0 c;have d:1<=r0/r1:=(xct c).2 W;have h1:r1*1<=r1*(r0/r1):=xaE _ d;have g:=DG r0;have hp:1<=bl r0:=by rw[dI];lia
 have e:2^bl r0=2*2^(bl r0-1):=by rw[<-xdQ,(W:(bl r0-1).succ=bl r0)]
 have:=af (n:=r0%r1) (k:=bl r0-1) W;lia
def zc8(q:a<18446744073709551616^K)(t:b<18446744073709551616^K)(w:K<=1000)(f:3000000<=fu)(c:ZbI a b r0 r1 u0 v0 u1 v1):
 ∃r,zg (Qp fu) fu ((yG r0,(yG u0,yG v0)),(yG r1,(yG u1,yG v1)))=Z r/\∃u v:J,r=(yG (xdq a b:wr),(yG u,yG v))/\u*a+v*b=(xdq a b:wr)/\u.natAbs<=b/\v.natAbs<=a:=by
 have hc:∀{n:wr},n<=max a b->bl n<=64*K:=λ{n} hn=>af (by rw[xcg,Hi];lia)
 refine zX (λs:(M×(M×M))×(M×(M×M))=>∃(r0 r1:wr) (u0 v0 u1 v1:J),s=((yG r0,(yG u0,yG v0)),(yG r1,(yG u1,yG v1)))/\ZbI a b r0 r1 u0 v0 u1 v1) (λs=>bl (zv s.1.1).natAbs+bl (zv s.2.1).natAbs+if(zv s.1.1).natAbs<(zv s.2.1).natAbs then 1 else 0) _ ?_ _ _ ⟨r0,r1,u0,v0,u1,v1,O,c⟩ ?_;rintro s L ⟨r0,r1,u0,v0,u1,v1,rfl,c⟩ k;have d:∀x:J,x.natAbs<=max a b->Bz K x:=λx y=>by unfold Bz;lia
 have z0:Bz K (r0:J):=d _ (by have:=c.le0;lia);have h:Bz K (r1:J):=d _ (by have:=c.le1;lia);unfold Qp;simp only;rw[U<|xe (h.ok W) f,zo];by_cases h0:r1=0
 rw[S<|xL.2 W];have i:=c.g;rw[h0,Nat.gcd_zero_right]at i;exact⟨_,O,u0,v0,by rw[i],by rw[c.e0,i],c.bu0,c.bv0⟩;rw[ir<|λe=>h0 (by have:=xL.1 e;lia),U<|Ud (z0.okS W) (h.okS W) f,zo,zo];unfold MU;rw[zD];simp only;have l:((r0:J)/(r1:J))=((r0/r1:wr):J):=O;have m:Bz K ((r0/r1:wr):J):=Bz.nat (by have h1:=xcD r0 r1;have j:=c.le0;lia)
 have o:=c.step W;have hd:=xbs r0 r1;have p:(r0:J)-((r0/r1:wr):J)*(r1:J)=((r0%r1:wr):J):=by
  have:(r0:J)=((r1*(r0/r1)+r0%r1:wr):J):=by rw[hd]
  conv=>lhs;rw[this]
  rw[hd];have j:(r0:J)=(r1:J)*((r0/r1:wr):J)+((r0%r1:wr):J):=by rw[this];simp
  rw[xbJ];lia
 rw[l,U<|iL m z0 (d _ (by have:=c.bu0;lia)) (d _ (by have:=c.bv0;lia)) h (d _ (by have:=c.bu1;lia)) (d _ (by have:=c.bv1;lia)) W f,p];refine k _ ⟨_,_,_,_,_,_,O,o⟩ ?_;simp only[zo,xaG];have z:=xaN r0 (W:0<r1);rw[zD];by_cases hi:r0<r1;rw[S hi,xao hi];lia;have:=MV (r0:=r0) (r1:=r1);lia;simp only[zo,xaG];have h1:=hc c.le0;have j:=hc c.le1;split<;>lia
theorem tX{x y:M}(d:zm x.2)(f:zm y.2)(hc:X x.2<=K)(hd:X y.2<=K)(h:zv x=(a:J))(i:zv y=(b:J))(j:0<a)(o:0<b)(k:K<=1000)(c:3000000<=fu):
 ∃u v:J,W0 fu x y=Z (yG (xdq a b:wr),yG u,yG v)/\u*a+v*b=(xdq a b:wr)/\u.natAbs<=b/\v.natAbs<=a:=by
 have g:nv x.2=a:=by have:=vI x;lia
 have nb:nv y.2=b:=by have:=vI y;lia
 have l:a<18446744073709551616^K:=by rw[<-g];exact xag (vn d)<|xam mD hc
 have m:b<18446744073709551616^K:=by rw[<-nb];exact xag (vn f)<|xam mD hd
 have n:ZbI a b a b 1 0 0 1:=by refine⟨j,xew _ _,xec _ _,W,W,O,⟨1,0,.inl ⟨O,O⟩,W⟩,⟨0,1,.inr ⟨O,O⟩,W⟩,W,W,W,W⟩
 obtain⟨r,e1,u,v,rfl,p,q,s⟩:=zc8 (fu:=fu) l m k c n;unfold W0;rw[U (yM d W W),U<|yw mD c,U<|yw mD c,U (yM f W W),U<|yw mD c,U<|yw mD c,ir mD,ir mD,g,nb,U e1];simp only;rw[U<|xe ⟨d,W⟩ c,ir (λe=>by rw[h,vJ W]at e;exact wS e mD),U O,U<|xe ⟨f,W⟩ c,ir (λe=>by rw[i,vJ W]at e;exact wS e mD),U O];grind
end
section
variable{p m:wn}{d:xS wn}{k K:wr}{f:xS Zr}
def PC{x:Pz}(hp:2<=p)(g:Fs x)(r:0<pM d)(hd:ci d (pM d-1)=1)(h:Cg p (x*ci d) (pc 1)):pM d=1:=by
 have⟨n,hn⟩:=g;have⟨X,b⟩:∃X,X=nl n (λk=>x k%p):=⟨_,O⟩;have a:∀k,ci X k=x k%p:=λk=>by
  rw[b];exact DP (λj o=>by rw[hn j o,xap]) k
 have q:Nl X:=by rw[b];exact AD _ _
 have c:Cg p (ci X*ci d) (pc 1):=(Cg.mul (λk=>by rw[a,xaQ]) Cg.rfl).trans h;obtain h0|h0:=q
 have h1:=c 0;rw[wV,yZ λi hi=>by rw[yA (l:=X) W,xba]]at h1;unfold pc at h1;rw[S O,xap,xaH mD W]at h1;cases h1
 have s:0<pM X:=xcR λe=>h0 (yA W);have ht:(ci X*ci d) (pM X-1+(pM d-1))=ci X (pM X-1):=by
  rw[wV,wy (i:=pM X-1) λi hi=> ?_,yg,(W:pM X-1+(pM d-1)-(pM X-1)=pM d-1),hd,xcQ];by_cases hc:i<pM X-1
  rw[yA (l:=d) W,xaA];rw[yA (l:=X) W,xba]
 have h1:=c<|pM X-1+(pM d-1);rw[ht,a,xaQ,<-a]at h1;refine Decidable.byContradiction λhl=> ?_;unfold pc at h1;rw[zD,xap]at h1;exact h0 h1
def zkX{g h s t:N J}{S:wr}(hp:2<=p)(a:BzR p g h d s t S)(hd:X d=0\/ci d (X d-1)=1)(hc:kn p (ci g) (ci h)):Cg p (ci s*ci g+ci t*ci h) (pc 1):=by
 have⟨A,C,c,z2,d1,d2⟩:=a.dv;have⟨u,v,z3,z4,hc⟩:=hc;have b:Cg p ((u*A+v*C)*ci d) (pc 1):=by refine Cg.trans (Cg.of ?_)<|(((Cg.rfl (f:=u)).mul d1.symm).add<|(Cg.rfl (f:=v)).mul d2.symm).trans hc;rw[yW,zd,zd]
 have j:0<X d:=by refine xcR λe=> ?_;have h1:=b 0;rw[wV,yZ λi hi=>by rw[yA (l:=d) W,xaA]]at h1;unfold pc at h1;rw[xap,xaH mD W]at h1;cases h1
 have n:=hd.resolve_left W;have hl:=PC hp ((z3.mul c).add<|z4.mul z2) j n b;have e:ci d=pc 1:=by
  funext k;unfold pc;by_cases o:k=0
  simp_all;rw[ir o,yA W]
 have:=a.cg;rw[e]at this;exact this.symm
def Wc(hp:qp p=wL):kz p.toNat:=by refine xak λh=> ?_;rw[HX<|λe=>h e.2.2]at hp;simp_all
def zjj{P N:wr}(h1:1<=P)(b:P<=65521)(a:k<=4*N)(c:0<N):P^k<18446744073709551616^N:=by rw[(mD:18446744073709551616=65536^4),<-xcg];exact xaK (xam W a)<|Nat.pow_lt_pow_left W W
def sX(hp:qp p=wL)(a:k<=1000:=by lia):Bz 250 (p^k):=by have⟨b,c⟩:=zw hp;obtain⟨P,rfl⟩:=xaC (W:0<=p);exact zjj W W a mD
theorem nh(hp:qp p=wL)(a:1<=k:=by lia):2<=p^k:=by have⟨b,c⟩:=zw hp;obtain⟨P,rfl⟩:=xaC (W:0<=p);have h1:P^1<=P^k:=xam W a;grind
def iu{i j:wr}(h:i<=j:=by lia):p^i∣p^j:=⟨p^(j-i),by rw[<-Int.pow_add,(W:i+(j-i)=j)]⟩
def zkI{c:J}(hp:qp p=wL)(hc:c%p≠0)(a:0<=c):xdq c.toNat (p^k).toNat=1:=by
 have⟨g,h⟩:=zw hp;have hd:=Wc hp;obtain⟨P,rfl⟩:=xaC (W:0<=p);obtain⟨C,rfl⟩:=xaC a;have b:=xaN C (W:0<P);have h1:=gQ W hd W b;have e:xdq C P=1:=by rw[xdE,Nat.gcd_rec,xdE];exact h1
 exact Nat.Coprime.pow_right k e
structure Rd(K:wr)(m:J)(f:N M):Prop where
 ok:xa K f
 rd:vF f m=f
def Rd.mod(h:Rd K m f)(k:wr):cf f k%m=cf f k:=by rw[<-uM,h.rd]
def Rd.can(h:Rd K m f):f=wK (X f) (cf f):=by have:=U7 f m;rw[h.rd]at this;exact this
def iF(b:Bz K m)(h0:0<m)(a:N M):Rd K m (vF a m):=⟨ay b h0,DR λk=>by rw[uM,xaQ]⟩
def Bt{fu:wr}(hp:qp p=wL)(D:1<=k)(E:k<=1000)(g:Rd 250 (p^k) f)(N:0<X f)(P:X f<=1000)(hd:cf f (X f-1)%p≠0)(q:3000000<=fu):
 ∃w u,Jf fu f (yG<|p^k)=Z w/\Rd 250 (p^k) w/\X w=X f/\cf w (X w-1)=1/\(u*cf f (X f-1))%p^k=1/\Cg (p^k) (cf w) (pc u*cf f):=by
 have h:=sX hp E;have F:=nh hp D;have⟨m,G⟩:∃m,m=p^k:=⟨_,O⟩;have n:=zkI (k:=k) hp hd (by rw[<-g.mod];exact xcH _ W)
 rw[<-G]at h F g n⊢;have⟨c,hc⟩:∃c,c=cf f (X f-1):=⟨_,O⟩;have r:=xg (a:=c) (p:=m);have s:=g.mod<|X f-1;rw[<-hc]at s hd n⊢;rw[s]at r;have Q:c≠0:=λe=>hd (by rw[e,xap]);have R:Bz 250 c:=h.le W;have t:=g.ok.get<|X f-1;have⟨u,v,e1,z,S,T⟩:=tX (fu:=fu) (K:=250) (a:=c.toNat) (b:=m.toNat) (x:=f.getD (X f-1) (I,[])) (y:=yG m) t.1 (yN _) t.2 h.len (by rw[Vn,<-hc];lia) (by rw[zo];lia) W W mD q;rw[n]at z;have ht:Bz 250 u:=h.le W;have B:(u*c)%m=1:=by
  have:u*c=1+m*(-v):=by rw[xdc r.1,xdc (W:0<=m)]at z;rw[Int.mul_neg,xbJ m v];lia
  rw[this,Int.add_mul_emod_self_left];exact xaH mD W
 have H:gy (yG m):=h.okS mD;have⟨sc,hl⟩:∃sc,sc=wK (X f) (λj=>cf f j*u):=⟨_,O⟩;have hv:xa (250+250) sc:=by rw[hl];exact xi λj=>(g.ok.bz j).mul ht
 have V:X sc<=X f:=by rw[hl,xC];exact qJ _ _
 have L:∀j,cf sc j=cf f j*u:=λj=>by rw[hl];exact jO (λi hi=>Wo hi) j
 have hn:∀j,cf (vF sc m) j=cf f j*u%m:=λj=>by rw[uM,L]
 have o:cf (vF sc m) (X f-1)=1:=by rw[hn,<-hc,xbJ,B]
 have C:X (vF sc m)=X f:=by refine xcF (NC (U7 _ _) λj M=> ?_)<|xbx λY=> ?_;rw[hn,yn M,xba,xap];rw[yn W]at o;cases o
 refine⟨vF sc m,u,?_,iF h W _,C,by rw[C];exact o,B,λj=> ?_⟩;unfold Jf;rw[(W:(X f:J)-1=((X f-1:wr):J)),zb,yo,A,U e1];simp only;rw[U<|jX (l:=250) g.ok ⟨yN _,ht.len⟩ mD W q,zo,<-hl,U (Xe hv mD H<|by rw[zo];lia),zo];rw[hn,zU,xaQ,xbJ]
end
section
variable{G H S f g0 h0:xS Zr}{p:wn}{i k lh LS j fu:wr}
structure TrI(p:J)(k:K)(f g0 h0:N M)(lh LS i:K)(G H S T:N M):Prop where
 i1:1<=i
 ik:i<=k
 rG:Rd 250 (p^i) G
 rH:Rd 250 (p^i) H
 rS:Rd 250 (p^i) S
 rT:Rd 250 (p^i) T
 hl:H.length=lh
 h1:cf H (lh-1)=1
 fac:Cg (p^i) (cf f) ((cf G:Pz)*cf H)
 bez:Cg (p^i) ((cf S:Pz)*cf G+(cf T:Pz)*cf H) (pc 1)
 gp:Cg p (cf G) (cf g0)
 hp:Cg p (cf H) (cf h0)
 sl:S.length<=LS
def zkF{m:J}{T:N M}{K:wr}(d:2<=m)(b:Rd K m T)(hl:0<X H)(h1:cf H (X H-1)=1)(c:Cg m ((cf S:Pz)*cf G+(cf T:Pz)*cf H) (pc 1)):X T<=X S+X G+1:=by refine xbx λe=> ?_;have ht:=Xq b.can W;have hp:=c<|X T-1+(X H-1);rw[zP,zcr W hl h1,uy (λj a=>yn a)<|λj a=>yn a,xcI,b.mod]at hp;unfold pc at hp;rw[zD,xap]at hp;lia
theorem IK{k:K}(hi:1<=i)(a:cf f (X f-1)%p≠0)(hc:0<X f):X (vF f<|p^i)=X f:=by
 refine xcF (Xo _ _)<|xbx λb=>a ?_;have h:cf (vF f<|p^i) (X f-1)=0:=yn W;rw[uM]at h;have hd:p∣p^i:=by have:=iu (p:=p) hi;grind
 rw[<-xcA _ hd,h,xap]
def TrI.lens{T:N M}(h:TrI p k f g0 h0 lh LS i G H S T)(hp:qp p=wL)(a:cf f (X f-1)%p≠0)(hd:0<X f)(d:0<lh):
 X f=X G+(lh-1)/\0<X G/\cf G (X G-1)=cf f (X f-1)%p^i/\X T<=LS+X G+1:=by
 have hc:=nh hp h.i1;have hl:=h.hl;have h1:=h.h1;rw[<-hl]at h1;have b:=IK (k:=k) h.i1 a hd;have⟨e1,e,c⟩:=zb6 hc h.rG.rd (DR λj=>by rw[uM,xaQ]) W W h1<|(Xz _ _).trans h.fac;have g:=zkF hc h.rT W h1 h.bez;have:=h.sl;rw[b,uM]at c;lia
def zkE(h:j<=i+i):p^j∣p^i*p^i:=by rw[<-Int.pow_add];exact iu h
theorem kN(h:1<=i:=by lia):p∣p^i:=by have:=iu (p:=p) h;grind
def TrI.step{T:N M}(h:TrI p k f g0 h0 lh LS i G H S T)(hp:qp p=wL)(w:k<=1000)(hi:xa 250 f)(hd:cf f (X f-1)%p≠0)(q:0<X f)(hn:0<lh)(y:i<k)(ht:X f<=300)(z:LS<=4500)(hv:lh<=LS)(r:3000000<=fu):
 ∃b c e l,kj fu [G,H,S,T] f (yG<|p^min (2*i) k)=Z [b,c,e,l]/\TrI p k f g0 h0 lh LS (min (2*i) k) b c e l:=by
 have⟨j,t⟩:∃j,j=min (2*i) k:=⟨_,O⟩;have u:=h.i1;have⟨l1,A,B,C⟩:=h.lens hp hd q hn;have a:=sX hp (k:=j);have n:=nh hp (k:=j);have hl:=h.hl;have h1:=h.h1;have D:=h.sl;rw[<-hl]at h1;have o:=iX (fu:=fu) (K:=250) (W:=5000) hi h.rG.ok h.rH.ok h.rS.ok h.rT.ok lM lM lM lM lM (So _) mD mD (yN<|p^j) a.len (by rw[zo];exact n) lM h1 r;rw[zo]at o;rw[<-t];refine⟨_,_,_,_,o,?_⟩;have d1:p^j∣p^i*p^i:=zkE lM;have d2:p^i∣p^j:=iu;have d3:p∣p^i:=kN u;have⟨f1,f2,f3⟩:=zow d1 d2 h.fac h.bez lM h1;have⟨t1,t2⟩:=zbS (f:=f) (g:=G) (s:=S) n lM h1;have hc:Cg (p^i) ((cf S:Pz)*cf (puG f G H S T<|p^j)+(cf T:Pz)*cf (FE f G H S<|p^j)) (pc 1):=((Cg.rfl.mul f2).add<|Cg.rfl.mul f3).trans h.bez;have v:=zmC d1 d2 hc lM (by rw[t1];exact t2);have E:=GH (x:=xb S<|lH (puG f G H S T<|p^j) (FE f G H S<|p^j) S T<|p^j) (d:=FE f G H S<|p^j) (m:=p^j) lM (by rw[t1];exact t2);refine⟨lM,lM,iF a lM _,iF a lM _,iF a lM _,iF a lM _,lM,by rw[hl]at t2;exact t2,f1,v,(f2.down d3).trans h.gp,(f3.down d3).trans h.hp,?_⟩;have e1:=Xo (aG S<|BZ (xb S<|lH (puG f G H S T<|p^j) (FE f G H S<|p^j) S T<|p^j) (FE f G H S<|p^j)<|p^j)<|p^j;have F:=UJ S<|BZ (xb S<|lH (puG f G H S T<|p^j) (FE f G H S<|p^j) S T<|p^j) (FE f G H S<|p^j)<|p^j;show(vF _ _).length<=LS;lia
theorem zh5(hp:qp p=wL)(h1:1<=j)(a:j<=1000)(b:3000000<fu):qx fu p (j:J)=Z (yG<|p^j,0):=by grind [ri,uH]
def zdE{T:N M}(h:TrI p k f g0 h0 lh LS 1 G H S T)(hp:qp p=wL)(g:k<=1000)(hc:xa 250 f)(l:cf f (X f-1)%p≠0)(hd:0<X f)(m:0<lh)(n:X f<=300)(hi:LS<=4500)(o:lh<=LS)(q:3000000<fu):
 ∃a b c d,zg (Ys fu f p (k:J)) fu (1,[G,H,S,T])=Z [a,b,c,d]/\TrI p k f g0 h0 lh LS k a b c d:=by
 obtain⟨r,e1,a,b,c,d,rfl,e⟩:=zX (f:=Ys fu f p (k:J)) (λs:J×N (N M)=>∃(i:K) (G H S T:N M),s=((i:J),[G,H,S,T])/\TrI p k f g0 h0 lh LS i G H S T) (λs=>k-s.1.toNat) (λr=>∃G H S T,r=[G,H,S,T]/\TrI p k f g0 h0 lh LS k G H S T) (by
  rintro s L ⟨i,G,H,S,T,rfl,h⟩ t;unfold Ys;simp only;have hl:=h.i1;have w:=h.ik;by_cases u:i<k;have⟨a,b,c,d,e1,e⟩:=h.step (fu:=fu) hp g hc l hd m u n hi o W;have v:min (2*(i:J)) (k:J)=((min (2*i) k:K):J):=W
  rw[yg,zb,A,v,U<|zh5 hp W W q];simp only;rw[U e1];exact t _ ⟨_,_,_,_,_,O,e⟩ (by show k-((min (2*i) k:K):J).toNat<k-(i:J).toNat;lia);rw[zD];obtain rfl:i=k:=W
  exact⟨_,O,_,_,_,_,O,h⟩) fu (1,[G,H,S,T]) ⟨1,_,_,_,_,O,h⟩ (by show k-1<fu;lia)
 exact⟨_,_,_,_,e1,e⟩
end
section
variable{p:wn}{l:xS wn}{g:Pz}
def zfT{a b:N J}(hp:2<=p)(e:0<X a)(hd:ci a (X a-1)=1)(f:0<X b)(d:ci b (X b-1)=1):X (xE p a b)=X a+X b-1/\ci (xE p a b) (X a+X b-1-1)=1:=by
 have ht:(ci a*ci b) (X a-1+(X b-1))=1:=by
  rw[wV,wy (i:=X a-1) λi hi=> ?_,yg,(W:X a-1+(X b-1)-(X a-1)=X b-1),d,hd];rfl;by_cases hc:i<X a-1
  rw[yA (l:=b) W,xaA];rw[yA (l:=a) W,xba]
 have h1:ci (xE p a b) (X a+X b-1-1)=1:=by rw[aA,(W:X a+X b-1-1=X a-1+(X b-1)),ht];exact xaH mD W
 refine⟨xcF ((jc W a b).nl.le λk h=> ?_)<|xbx λo=> ?_,h1⟩;rw[aA,uy (n:=X a) (m:=X b) (λj c=>yA c)<|λj c=>yA c,xap];rw[yA W]at h1;cases h1
def O0{p:J}(hp:2<=p):∀(fs:N (N J)) {t:N J},0<X t->ci t (X t-1)=1->(∀f∈fs,SO p f)->0<X (fs.foldl (xE p) t)/\ci (fs.foldl (xE p) t) (X (fs.foldl (xE p) t)-1)=1
 |[],_,h0,h1,_=>⟨h0,h1⟩
 |f::r,t,h0,h1,h=>by
  have a:=h f<|IR;have⟨e1,b⟩:=zfT hp h0 h1 (show 0<X f by have:=a.2.1;lia) a.2.2;have:=a.2.1;exact O0 hp r W (by rw[e1];exact b) λg c=>h g<|FS _ c
def zdK(hp:2<=p){fs:N (N J)}(h:∀f∈fs,SO p f):0<X (QH p fs)/\ci (QH p fs) (X (QH p fs)-1)=1:=O0 hp fs mD O h
def GV(h:Nl l):X (um l)=X l:=by unfold um;rw[xC];exact K1 (So _) (λk h1 a=>by lia)<|h.imp id id
def oM(h:Fp p l)(a:p<=65521):Rd 250 (p^1) (um l):=by refine⟨(P3<|h.rl a).mono mD,?_⟩;rw[xbP,xce,xdd];unfold vF;rw[show(λj=>cf (um l) j%p)=cf (um l)from kW λj=>by rw[jW,h.mod]];exact NZ _ _
def kn.congr{f f' a:Pz}(h:kn p f g)(b:Cg p f f')(c:Cg p g a):kn p f' a:=by have⟨s,t,d,z2,h⟩:=h;exact⟨s,t,d,z2,((Cg.rfl.mul b.symm).add<|Cg.rfl.mul c.symm).trans h⟩
theorem HQ{A B:N (N J)}(h:∀a∈A,∀b∈B,kn p (ci a)<|ci b):kn p (prZ<|A.map ci) (prZ<|B.map ci):=by grind [Fs.ci,kn.symm,kn.prZ,Fs.prZ]
def zhR{c:J}(hp:qp p=wL)(h0:0<c)(h1:c<p):kn p (pc c) g:=by have⟨x,e1,b,d,a⟩:=K0 hp h0 h1<|So _;refine⟨pc x,pc 0,Fs.pc _,Fs.pc _,?_⟩;rw[yB,jx];intro k;rw[zP,zO,xbW];unfold pc;split;rw[a];exact(xaH mD W).symm;rfl
def DY{α β:Type}(R:α->β->Prop):N α->N β->Prop
 |[],[]=>Xs
 |a::r,b::s=>R a b/\DY R r s
 |_,_=>KW
def DY.append{α β:Type}{R:α->β->Prop}:∀{a:N α}{b:N β}{c:N α}{d:N β},DY R a b->DY R c d->DY R (a++c) (b++d)
 |[],[],_,_,_,h=>h
 |_::_,_::_,_,_,h,e=>⟨h.1,DY.append h.2 e⟩
def DY.len{α β:Type}{R:α->β->Prop}:∀{a:N α}{b:N β},DY R a b->X a=X b
 |[],[],_=>rfl
 |_::_,_::_,h=>by rw[xaw,xaw,h.2.len]
structure Up(p:J)(k:K)(u:N M)(g:N J):Prop where
 rd:Rd 250 (p^k) u
 len:u.length=g.length
 top:cf u (u.length-1)=1
 cg:Cg p (cf u) (ci g)
def zdD{f:N M}(h:0<X f):f.drop (X f-1)=[f.getD (X f-1) (I,[])]:=Hy
def zfK{z:M}(hp:0<p)(h0:zv z%p≠0):q9 p [z]=[zv z%p]:=by
 have b:=xg (a:=zv z) hp;refine(Jl hp [z]).ext (Qe W b.2) ((iK p [z]).trans λk=> ?_)
 cases k with
 |zero=>show zv z%p=(zv z%p)%p;rw[xaQ]
 |succ k=>skip;rfl
end
def zkO{k:K}{p:J}(hp:qp p=wL)(Q:1<=k)(hk:k<=1000):∀(n:K) {fu:K}{f:N Zr}{fs:N (N J)},X fs=n->1<=n->n<=66->3000002+n<=fu->
 Rd 250 (p^k) f->0<X f->X f<=66->cf f (X f-1)%p≠0->(∀g∈fs,SO p g/\X g<=66)->fs.Pairwise (λa b=>kn p (ci a)<|ci b)->Cg p (cf f) (pc (cf f<|X f-1)*prZ (fs.map ci))->
 ∃us,qh fu f fs p (k:J) (yG<|p^k)=Z us/\DY (Up p k) us fs/\Cg (p^k) (cf f) (pc (cf f<|X f-1)*prZ (us.map λu=>(cf u:Pz))):=by
 intro n
 induction n using xdA with
 |_ n ih=>
 intro fu f fs hn h9 h' a5 R hl a6 hd hE JO ht;have⟨D,o⟩:=zw hp;obtain⟨F,rfl⟩:∃F,fu=F+1:=⟨fu-1,W⟩;have hf:3000000<F:=W
 have a7:=nh hp Q;have hK:p∣p^k:=kN Q;unfold qh;by_cases h1:n=1
 obtain⟨g,rfl⟩:∃g,fs=[g]:=by
  match fs,hn with
  |[g],_=>exact⟨g,O⟩
  |[],h=>simp at h;lia
  |_::_::_,h=>simp at h;lia
 have⟨l,a8⟩:=hE g mK;have⟨w,u,e1,e2,e3,e4,e5,e6⟩:=Bt (fu:=F) hp Q hk R hl W hd W;have hu:Cg (p^k) (pc (cf f<|X f-1)*pc u) (pc 1):=λj=>by
  rw[jx,xbJ];unfold pc;split;rw[e5];exact(xaH mD W).symm;rfl
 have hG:Cg (p^k) (cf f) (pc (cf f<|X f-1)*cf w):=by refine Cg.symm<|(Cg.rfl.mul e6).trans ?_;rw[<-zd];exact(hu.mul Cg.rfl).trans<|Cg.of<|zC _
 have hA:∀x:Pz,prZ [x]=x:=λx=>yp x;have hH:Cg p (cf w) (ci g):=by refine(e6.down hK).trans ?_;have v:Cg p (pc u*cf f) (pc u*(pc (cf f<|X f-1)*ci g)):=Cg.rfl.mul<|ht.trans<|Cg.of (by show _*prZ [ci g]=_;rw[hA]);refine v.trans ?_;rw[<-zd,zk<|pc u];exact((hu.down hK).mul Cg.rfl).trans<|Cg.of<|zC _
 have hR:X w=X g:=by
  have a9:=l.fp (p:=p) W;refine xcF (xbx λhS=> ?_)<|xbx λhS=> ?_;have v:=hH<|X w-1;rw[e4,yA W,xap,xaH mD W]at v;cases v
  have v:=hH<|X g-1;rw[l.2.2,yn W,xap,xaH mD W]at v;cases v
 rw[iq mK,U e1];refine⟨[w],O,⟨⟨e2,hR,e4,hH⟩,wR⟩,?_⟩;show Cg _ _ (_*prZ [(cf w:Pz)]);rw[hA];exact hG;have⟨e,hT⟩:∃h,h=n/2:=⟨_,O⟩;have⟨c,hc⟩:∃c,c=cf f (X f-1):=⟨_,O⟩;have h8:X fs<=66:=W
 have hB:fs=fs.take e++fs.drop e:=(xby e fs).symm;have hU:X (fs.take e)=e:=by rw[xar];lia
 have hV:X (fs.drop e)=n-e:=by rw[xch];lia
 have hv:∀g∈fs.take e,SO p g/\X g<=66:=λg l=>hE g<|xes l;have E:∀g∈fs.drop e,SO p g/\X g<=66:=λg l=>hE g<|xfN l;rw[hB]at JO ht;have⟨a0,a1,L⟩:=xdn.1 JO;rw[xaR,vm,<-hc]at ht;have hL:=xg (a:=c) (p:=p);rw[<-hc]at hd;have hW:∀g∈fs.take e,Fp p g:=λg l=>(hv g l).1.fp W;have hX:∀g∈fs.drop e,Fp p g:=λg l=>(E g l).1.fp W;have y:=nX p<|fs.take e;have B:=nX p<|fs.drop e;have q:=zdK (p:=p) D (fs:=fs.drop e) λg l=>(E g l).1;have a3:=fG (p:=p) (fs:=fs.take e) (M:=66) λg l=>(hv g l).2;have a4:=fG (p:=p) (fs:=fs.drop e) (M:=66) λg l=>(E g l).2;have b1:X (fs.take e)*66<=66*66:=xaj _ W;have b2:X (fs.drop e)*66<=66*66:=xaj _ W;have hM:=Qe (p:=p) (x:=c%p) W hL.2;have⟨g0,hJ⟩:∃g0,g0=xE p (QH p<|fs.take e) [c%p]:=⟨_,O⟩;have⟨h0,V⟩:∃h0,h0=QH p (fs.drop e):=⟨_,O⟩;have Y:Fp p g0:=by rw[hJ];exact jc W _ _
 have hi:Fp p h0:=by rw[V];exact db D _
 have hC:Cg p (pc<|c%p) (pc c):=λj=>by unfold pc;split;exact xaQ _ _;rfl
 have ho:Cg p (ci g0) (prZ ((fs.take e).map ci)*pc c):=by rw[hJ];refine(ZF p _ _).trans ?_;rw[jY];exact y.mul hC
 have hq:Cg p (ci h0) (prZ<|(fs.drop e).map ci):=by rw[V];exact B
 rw[<-V]at q;have hD:Cg p (cf f) (ci g0*ci h0):=by refine ht.trans<|Cg.trans (Cg.of ?_) (ho.mul hq).symm;simp only[zd,zk,zE]
 have hN:kn p (ci g0) (ci h0):=by refine kn.congr (kn.mul (Fs.pc _) (Fs.prZ λx hx=>by obtain⟨a,_,rfl⟩:=xas.1 hx;exact Fs.ci a) (Fs.prZ λx hx=>by obtain⟨a,_,rfl⟩:=xas.1 hx;exact Fs.ci a) (HQ L)<|zhR hp (W:0<c%p) hL.2) ?_ hq.symm;exact(Cg.rfl.mul hC).trans ho.symm
 have hj:p^1=p:=by rw[xbP,xce,xdd]
 have rg:=oM Y o;have rh:=oM hi o;have lz:X (um h0)=X h0:=GV hi.nl;have P:X (um g0)=X g0:=GV Y.nl;have hO:cf (um h0) (X (um h0)-1)=1:=by rw[lz,jW];exact q.2
 have hY:X (vF f p)=X f:=by have:=IK (k:=k) (i:=1) (p:=p) (f:=f) (So _) (by rw[<-hc];exact hd) hl;rw[hj]at this;exact this
 have⟨d1,d2,d3⟩:=zb6 (m:=p) (f:=vF f p) (g:=um g0) (h:=um h0) D (by have:=rg.rd;rw[hj]at this;exact this) (DR λj=>by rw[uM,xaQ]) W W hO ((Xz f p).trans<|by rw[jW,jW];exact hD);rw[hY,lz,P]at d1;rw[P]at d2;have⟨d,s,t,z1,C,z3⟩:=uI (fu:=F) hp Y hi W W W;have hP:=zkX D C z3 hN;have b0:max (X g0) (X h0)*(max (X g0) (X h0)+1)<=66*67:=xcf W W;have b3:=C.sl;have b4:=C.tl;have rs:=oM C.sf o;have rt:=oM C.tf o;have hI:TrI p k f (um g0) (um h0) (X h0) 4430 1 (um g0) (um h0) (um s) (um t):=by refine⟨So _,Q,rg,rh,rs,rt,lz,by rw[<-lz];exact hO,?_,?_,Cg.rfl,Cg.rfl,by have:=PZ s;lia⟩;rw[hj,jW,jW];exact hD;rw[hj,jW,jW,jW,jW];exact hP
 have⟨G,H,S,T,l1,r⟩:=zdE (fu:=F) hI hp hk R.ok (by rw[<-hc];exact hd) hl W W mD W hf;have⟨m1,m2,m3,m4⟩:=r.lens hp (by rw[<-hc];exact hd) hl W;have hZ:c%p^k=c:=by have:=R.mod<|X f-1;rw[<-hc]at this;exact this
 rw[<-hc,hZ]at m3;have h3:=r.hl;have hy:=r.h1;rw[<-h3]at hy;have h4:Cg p (cf G) (pc c*prZ ((fs.take e).map ci)):=by refine r.gp.trans ?_;rw[jW,zk];exact ho
 have h5:Cg p (cf H) (pc 1*prZ ((fs.drop e).map ci)):=by refine r.hp.trans ?_;rw[jW,zC];exact hq
 have⟨us,u1,u2,u3⟩:=ih e W (fu:=F) (f:=G) (fs:=fs.take e) hU W W W r.rG m2 W (by rw[m3];exact hd) hv a0 (by rw[m3];exact h4);have⟨vs,v1,v2,v3⟩:=ih (n-e) W (fu:=F) (f:=H) (fs:=fs.drop e) hV W W W r.rH W W (by rw[hy,xaH mD W];decide) E a1 (by rw[hy];exact h5);rw[m3]at u3;rw[hy]at v3;have c0:=u2.len;have c1:=v2.len;refine⟨us++vs,?_,by rw[hB];exact u2.append v2,?_⟩
 have ez:[f.getD (X f-1) (I,[])].length=1:=O;have hQ:xa 250 [f.getD (X f-1) (I,[])]:=λz hz=>by
  obtain rfl:=xac.1 hz;exact R.ok.get _
 have h6:q9 p [f.getD (X f-1) (I,[])]=[c%p]:=by rw[hc];exact zfK W<|by rw[Vn,<-hc];exact hd
 have h7:=jF p (QH p<|fs.take e) [c%p];simp only[xaw,xbT]at h7;have a2:xdx (X fs:J) 2=(e:J):=by rw[hn,hT];rfl
 rw[zD,wM mD,a2,zb,(W:(X f:J)-1=((X f-1:K):J)),zb,yI,y8,A,zdD hl,U (uZ hQ mD W o mK),h6];simp only;rw[yI,y8,A,U (jD hp hW (λg l=>(hv g l).2) W mD),U (u5 hp (db D _) hM W mK),<-hJ];simp only;rw[yI,y8,A,U (jD hp hX (λg l=>(E g l).2) W mD),<-V,U z1];simp only;rw[U (ud (Y.rl o) W W),U (ud (hi.rl o) W W),U (ud (C.sf.rl o) W W),U (ud (C.tf.rl o) W W),U l1];rw[CJ (i:=0) mD,yI,y8,A,show[G,H,S,T].getD (Int.toNat 0) []=G from O,U u1,CJ (i:=1) mD,yI,y8,A,show[G,H,S,T].getD (Int.toNat 1) []=H from O,U v1,y8,A];rw[<-hc,xaR,vm];refine r.fac.trans<|(u3.mul v3).trans<|Cg.of ?_;rw[zC,zd]
section
variable{a:xS Zr}{p:wn}
def yx(a:N M):N M:=wK (X a)<|cf a
def ZT(a:N M)(k:K):cf (yx a) k=cf a k:=jO (λj b=>yn b) k
def ZC(a:N M):X (yx a)<=X a:=by unfold yx;rw[xC];exact qJ _ _
def dp{k:K}(h:xa k a):xa k (yx a):=xi h.bz
structure zqW(p:J)(k:K)(a:N M)(fs:N (N J))(us:N (N M)):Prop where
 hp:qp p=wL
 k1:1<=k
 k2:k<=1000
 rt:eJ p (yx a) fs
 up:DY (Up p k) us fs
 cg:fs≠[]->Cg (p^k) (cf a) (pc (cf (yx a)<|(yx a).length-1)*prZ (us.map λu=>(cf u:Pz)))
def eJ.mem{fs:N (N J)}(h:eJ p a fs):∀g∈fs,SO p g/\X g<=X a:=λg b=>by
 obtain⟨j,c,rfl⟩:=xcq.1 b;have:=h.pl j c;simp_all
def eJ.pw{fs:N (N J)}(h:eJ p a fs):fs.Pairwise (λa b=>kn p (ci a)<|ci b):=by refine xcU.2 λi j hi c d=> ?_;have:=h.cp j i c d;rw[UV,UV,xab hi,xab c]at this;exact this.symm
def tT{fu:wr}{k:J}{fs:N (N J)}(d:xa 250 a)(ht:X a<=1000)(w:3000200<=fu):
 ∃us e,jo fu a fs p k=Z (us,e)/\(e=0->zqW p k.toNat a fs us/\1<=k)/\(e≠0->(ri p k).2=0\/e=1):=by
 unfold jo;have x:=ZC a;have hl:=dp d;rw[U<|uH W];by_cases i:qp p=wL/\1<=k/\k<=1000
 have⟨hp,h1,y⟩:=i;obtain⟨K,rfl⟩:=xaC (W:0<=k);have hd:ri p (K:J)=(yG<|p^K,0):=by unfold ri;simp_all
 rw[hd];simp only;rw[U (zI d mD W W),S wR,show wK (X a) (cf a)=yx a from O];by_cases hv:65<X (yx a);rw[yg];exact⟨_,_,O,λe=>wS e mD,λ_=> .inl wR⟩;rw[zD];have⟨b,b1,b2⟩:=oo (fu:=fu) (fs:=fs) hp hl mD W W;rw[U b1]
 cases b with
 |false=>
  rw[S mD];exact⟨_,_,O,λe=>wS e mD,λ_=> .inl wR⟩
 |true=>
  have c:=b2 O;rw[ir mD];by_cases h0:X fs=0
  obtain rfl:fs=[]:=xbE.1 h0;rw[S (show((X ([]:N (N J)):wr):J)=0 from O)];exact⟨_,_,O,λ_=>⟨⟨hp,W,W,c,wR,λe=>wS O e⟩,h1⟩,λe=>wS O e⟩;rw[zD];have⟨z,A⟩:=zw hp;have l:=sX hp (k:=K);have B:=nh hp (k:=K);have o:gy (yG<|p^K):=l.okS mD;have⟨f,hc⟩:∃f,f=vF (yx a) (p^K):=⟨_,O⟩;have hn:=c.a0;have m:cf (yx a) (X (yx a)-1)%p≠0:=by
   have h3:=(Jl (p:=p) W<|yx a).nl;unfold Nl at h3;rw[c.al]at h3;obtain h3|h3:=h3
   exact wS h3 hn;rw[Ku]at h3;exact h3
  have q:X f=X (yx a):=by rw[hc];exact IK (k:=K) W m W
  have hi:cf f (X f-1)=cf (yx a) (X (yx a)-1)%p^K:=by rw[q,hc,uM]
  have h:p∣p^K:=kN;have r:cf f (X f-1)%p≠0:=by rw[hi,xcA _ h];exact m
  have s:Cg p (cf f) (pc (cf f<|X f-1)*prZ (fs.map ci)):=by
   have e1:Cg p (cf f) (cf<|yx a):=by rw[hc];exact(Xz _ _).down h
   refine e1.trans<|(iK p<|yx a).symm.trans ?_;rw[<-c.pr];refine(ZF p _ _).trans ?_;rw[jY,zk];refine Cg.mul (λj=> ?_)<|nX p fs;rw[Ku,hi];unfold pc;split;rw[xcA _ h,xaQ];rfl
  have⟨us,t,u,v⟩:=zkO (k:=K) hp W W (X fs) (fu:=fu) (f:=f) (fs:=fs) O W (by have:=c.fl;lia) (by have:=c.fl;lia) (by rw[hc];exact iF l W _) W W r (λg n=>⟨(c.mem g n).1,by have:=(c.mem g n).2;lia⟩) c.pw s;rw[U (Xe hl mD o<|by rw[zo];lia),zo,<-hc,U t];refine⟨_,_,O,λ_=>⟨⟨hp,W,W,c,u,λ_=> ?_⟩,h1⟩,λe=>wS O e⟩;rw[xaZ];have e1:Cg (p^K) (cf a) (cf f):=by rw[hc];exact Cg.trans (Cg.of<|funext λj=>(ZT a j).symm) (Xz _ _).symm
  refine e1.trans<|v.trans<|Cg.mul (λj=> ?_) Cg.rfl;rw[hi];unfold pc;split;rw[xaQ];rfl
 have hd:ri p k=((I,[]),1):=by unfold ri;rw[ir i]
 rw[hd];simp only;rw[U (zI d mD W W),ir mD];exact⟨_,_,O,λe=>wS e mD,λ_=> .inr O⟩
end
def Mn(A:Pz)(d:K):Prop:=A d=1/\∀k,d<k->A k=0
def Mn.top{A x:Pz}{d n:K}(h:Mn A d)(a:∀k,n<k->x k=0):(x*A) (n+d)=x n:=by rw[wV,wy (i:=n) λi hi=> ?_,yg,(W:n+d-n=d),h.1,xcQ];by_cases hc:i<n;rw[h.2 _ W,xaA];grind
def Mn.zero{p:J}(hp:2<=p){A x:Pz}{d:K}(h:Mn A d)(j:Fs x)(l:∀k,d<=k->(x*A) k%p=0):Cg p x (pc 0):=by
 have⟨n,hn⟩:=j;have a:∀c,c<=n->∀k,n-c<=k->x k%p=0:=by
  intro c
  induction c with
  |zero=>intro _ k g;rw[hn k W,xap]
  |succ c m=>
   intro hc k g;by_cases h1:n-c<=k;grind;obtain rfl:k=n-(c+1):=W
   have e:Cg p x (λi=>if i<=n-(c+1)then x i else 0):=λi=>by
    by_cases hi:i<=n-(c+1);simp_all;show _=(if i<=n-(c+1)then x i else 0)%p;rw[ir hi,xap];grind
   have b:=(e.mul<|Cg.rfl (f:=A))<|n-(c+1)+d;rw[l _ W,h.top<|λi hi=>zD]at b;rw[S<|So _]at b;exact b.symm
 intro k;rw[zO,xap];by_cases g:k<n;exact a n (So _) k W
 rw[hn k W,xap]
def SC{k m n:J}(h:Int.gcd k m=1)(hd:k∣m*n):k∣n:=
 xcl.1 (Nat.Coprime.dvd_of_dvd_mul_left h<|by rw[<-xcw];exact xcl.2 hd)
def pdv(n:J)(f:Pz):Pz:=λk=>f k/n
def Lv{n:J}{f:Pz}(h:Cg n f (pc 0)):pc n*pdv n f=f:=by funext k;rw[zU];exact Int.mul_ediv_cancel'<|h.dvd k
def Nk{n:J}{f:Pz}(h:Fs f):Fs (pdv n f):=by have⟨c,hc⟩:=h;exact⟨c,λk a=>by show f k/n=0;rw[hc k a,xem]⟩
def Fs.subt{f g:Pz}(c:Fs f)(d:Fs g):Fs (f-g):=by have⟨a,e⟩:=c;have⟨b,h⟩:=d;exact⟨a+b,λk i=>by rw[y7,e k W,h k W];rfl⟩
def zcV{p n:J}(hp:2<=p)(hn:n≠0)(E:p∣n){A B c g:Pz}{d:K}(i:Mn A d)(o:Mn c d)(F:Fs A)(j:Fs c)(G:Fs B)(l:Fs g)(hc:kn p A B)(h1:Cg n A c)(H:Cg n B g)(h:Cg (n*p) (A*B) (c*g)):
 Cg (n*p) A c/\Cg (n*p) B g:=by
 have⟨a,q⟩:∃a,a=pdv n (c-A):=⟨_,O⟩;have⟨b,r⟩:∃b,b=pdv n (g-B):=⟨_,O⟩;have u:pc n*a=c-A:=by rw[q];exact Lv<|Cg.iff_sub.1 h1.symm
 have v:pc n*b=g-B:=by rw[r];exact Lv<|Cg.iff_sub.1 H.symm
 have L:Fs a:=by rw[q];exact Nk<|j.subt F
 have w:Fs b:=by rw[r];exact Nk<|l.subt G
 have x:∀k,c k=A k+n*a k:=λk=>by
  have:=Ww u k;rw[zU,y7]at this;lia
 have bk:∀k,g k=B k+n*b k:=λk=>by
  have:=Ww v k;rw[zU,y7]at this;lia
 have hl:c=A+pc n*a:=kW λk=>by rw[zP,zU,x]
 have M:g=B+pc n*b:=kW λk=>by rw[zP,zU,bk]
 have y:Cg p (a*B+b*A) (pc 0):=by
  refine Cg.of_dvd λk=> ?_;have e:c*g-A*B=pc n*(a*B+b*A+pc n*(a*b)):=by rw[hl,M];simp only[wG,yW,zd,zE,zk];funext k;simp only[zP,y7];lia
  have hd:=(Cg.iff_sub.1 h.symm).dvd k;rw[e,zU]at hd;have z:p∣(a*B+b*A+pc n*(a*b)) k:=(Int.mul_dvd_mul_iff_left hn).1 hd;rw[zP,zU]at z;exact(Int.dvd_add_left<|xbu E<|xbY _ _).1 z
 have⟨s,t,fs,N,P⟩:=hc;have Q:∀k,d<=k->a k=0:=λk C=>by
  have e:c k=A k:=by by_cases R:k=d;rw[R,i.1,o.1];rw[i.2 k W,o.2 k W]
  have:=x k;have S:n*a k=0:=W
  exact(xeQ.1 S).resolve_left hn
 have D:Cg p a ((s*a-t*b)*A):=by
  have e1:Cg p a (a*(s*A+t*B)):=by have:=(Cg.rfl (m:=p) (f:=a)).mul P.symm;rw[yp]at this;exact this
  refine e1.trans<|Cg.iff_sub.2 ?_;have e:a*(s*A+t*B)-(s*a-t*b)*A=t*(a*B+b*A):=by simp only[wG,yW,qq,ke,zd,zE,zk];funext k;simp only[zP,y7];lia
  rw[e];exact y.mul_zero_l t
 have T:=i.zero hp ((fs.mul L).subt<|N.mul w) λk C=>by rw[<-D k,Q k C,xap]
 have hi:Cg p a (pc 0):=D.trans<|T.mul_zero_r A;have ht:Cg p (b*A) (pc 0):=by
  have e:b*A=a*B+b*A-a*B:=by funext k;simp only[zP,y7];lia
  rw[e];exact y.zero_sub<|hi.mul_zero_r B
 have U:Cg p b (pc 0):=i.zero hp w λk _=>by rw[ht k,zO,xap]
 refine⟨Cg.symm<|Cg.iff_sub.2<|Cg.of_dvd λk=> ?_,Cg.symm<|Cg.iff_sub.2<|Cg.of_dvd λk=> ?_⟩;rw[<-u,zU];exact Int.mul_dvd_mul_left n<|hi.dvd k;rw[<-v,zU];exact Int.mul_dvd_mul_left n<|U.dvd k
def Sp{p:J}(hp:2<=p){A B a e:Pz}{d:K}(f:Mn A d)(g:Mn a d)(i:Fs A)(b:Fs a)(l:Fs B)(c:Fs e)(hc:kn p A B)(h1:Cg p A a)(m:Cg p B e):∀j,Cg (p^j) (A*B) (a*e)->Cg (p^j) A a/\Cg (p^j) B e
 |0,_=>⟨λk=>by rw[xce,Int.emod_one,Int.emod_one],λk=>by rw[xce,Int.emod_one,Int.emod_one]⟩
 |1,_=>by grind
 |j+2,h=>by
  have⟨g1,n⟩:=Sp hp f g i b l c hc h1 m (j+1)<|h.down<|iu;rw[xbP]at h⊢;exact zcV hp (Int.ne_of_gt<|Int.pow_pos W) (kN) f g i b l c hc g1 n h
def cV:K->K->K
 |_,0=>1
 |0,_+1=>0
 |n+1,k+1=>cV n k+cV n (k+1)
def Vv(n:K):cV n 0=1:=by cases n<;>rfl
def JU(n k:K):cV (n+1) (k+1)=cV n k+cV n (k+1):=O
def rQ:∀n k,n<k->cV n k=0
 |0,0,h=>wS h<|xfR _
 |0,k+1,_=>rfl
 |n+1,0,h=>wS h<|xbc _
 |n+1,k+1,h=>by rw[JU,rQ n k W,rQ n (k+1) W]
def DJ:∀n,cV n n=1
 |0=>rfl
 |n+1=>by rw[JU,DJ n,rQ n (n+1) W]
def IY:∀n k,(k+1)*cV (n+1) (k+1)=(n+1)*cV n k
 |0,0=>rfl
 |0,k+1=>by skip;rfl
 |n+1,0=>by
  have h:=IY n 0;rw[Vv]at h;rw[JU,Vv];lia
 |n+1,k+1=>by
  have h1:=IY n k;have a:=IY n<|k+1;have b:=JU n k;rw[JU (n+1)<|k+1];grind
def zlN(a:J):∀n,(a+1)^n=yu (n+1) (λk=>(cV n k:J)*a^k)
 |0=>by
  show _=(0:J)+((1:K):J)*a^0;simp_all
 |n+1=>by
  have e1:yu (n+1+1) (λk=>(cV (n+1) k:J)*a^k)=1+(yu (n+1) (λk=>a*((cV n k:J)*a^k))+yu (n+1) (λk=>(cV n (k+1):J)*a^(k+1))):=by rw[Zj,<-Y5];congr 1;show((cV (n+1) 0:K):J)*a^0=1;rw[Vv,xce];rfl;exact yC λk _=>by rw[JU,xfm,Int.add_mul,xbP,<-xcY,<-xcY,xbJ (_*a^k) a,<-xcY]
  have b:yu (n+1) (λk=>(cV n k:J)*a^k)=1+yu (n+1) (λk=>(cV n (k+1):J)*a^(k+1)):=by
   have h:yu (n+1+1) (λk=>(cV n k:J)*a^k)=yu (n+1) (λk=>(cV n k:J)*a^k):=by show yu (n+1) _+((cV n (n+1):K):J)*a^(n+1)=_;rw[rQ n (n+1) W];lia
   rw[<-h,Zj];congr 1;rw[Vv,xce];rfl
  rw[e1,Ze,xbP,zlN a n,xfx,xcQ,xbJ _ a];lia
def zcb{p x y:K}(hp:2<=p)(hn:kz p)(h0:0<x)(h1:x<p)(h:p∣x*y):p∣y:=
 Nat.Coprime.dvd_of_dvd_mul_left (gQ hp hn h0 h1) h
def zcq{p k:K}(hp:2<=p)(hn:kz p)(h0:0<k:=by lia)(h1:k<p:=by lia):p∣cV p k:=by obtain⟨q,rfl⟩:∃q,p=q+1:=⟨p-1,W⟩;obtain⟨j,rfl⟩:∃j,k=j+1:=⟨k-1,W⟩;exact zcb hp hn h0 h1 ⟨cV q j,IY q j⟩
def PG{p:K}(hp:2<=p)(hn:kz p)(a:J):(a+1)^p%p=(a^p+1)%p:=by
 obtain⟨q,rfl⟩:∃q,p=q+1:=⟨p-1,W⟩;rw[zlN];show(yu (q+1) _+((cV (q+1) (q+1):K):J)*a^(q+1))%_=_;rw[DJ,Zj];have hd:((q+1:K):J)∣yu q (λk=>(cV (q+1) (k+1):J)*a^(k+1)):=fW λk b=>
  xbu (xcO.2<|zcq hp hn) (xbY _ _)
 have⟨c,hc⟩:=hd;rw[Vv];have e:1*1+((q+1:K):J)*c+1*a^(q+1)=a^(q+1)+1+((q+1:K):J)*c:=W
 simp_all
def Tt{p:K}(hp:2<=p)(hn:kz p):∀a:K,(a:J)^p%p=a%p
 |0=>by rw[show((0:K):J)=0 from O,Int.zero_pow W]
 |a+1=>by rw[xfm,show((1:K):J)=1 from O,PG hp hn,xej,Tt hp hn a,<-xej]
def zac{p:J}(hp:qp p=wL){a:J}(h0:0<a)(h1:a<p):(a^(p-2).toNat*a)%p=1:=by
 have⟨f,g⟩:=zw hp;have hn:=Wc hp;obtain⟨P,rfl⟩:=xaC (W:0<=p);obtain⟨A,rfl⟩:=xaC (W:0<=a);have b:2<=P:=W
 have h:=Tt b hn A;obtain⟨Q,rfl⟩:∃Q,P=Q+2:=⟨P-2,W⟩;rw[(W:(((Q+2:K):J)-2).toNat=Q)];have e:(A:J)^(Q+2)-A=A*((A:J)^Q*A-1):=by grind
 have hd:((Q+2:K):J)∣(A:J)*((A:J)^Q*A-1):=by rw[<-e];exact xaF<|xaL.1 h
 have c:Int.gcd ((Q+2:K):J) (A:J)=1:=gQ b hn;have d:=SC c hd;have i:=xaL.2<|xax d;assumption
def znp{n:K}{f:Pz}{x:J}(h:x=f n):zl n f++[x]=zl (n+1) f:=by rw[h];exact zjC
structure zhd(p:J)(a m:N J):Prop where
 fm:Fp p m
 ln:m.length=a.length
 top:ci m (m.length-1)=1
 cg:∃x y:J,Cg p (ci m) (pc x*ci a)/\Cg p (ci a) (pc y*ci m)
def RP{p x:J}{a:N J}(hp:2<=p)(e:Fp p a)(f:0<X a)(b:(x*ci a (X a-1))%p=1):zhd p a (xE p a [x]):=by
 have hc:∀k,ci (xE p a [x]) k=(x*ci a k)%p:=λk=>by rw[aA,jY,zk,zU]
 have hd:X (xE p a [x])=X a:=by refine xcF ((jc W _ _).nl.le λk d=> ?_)<|xbx λg=> ?_;rw[hc,yA d,xaA,xap];have c:=hc<|X a-1;rw[b,yA W]at c;cases c
 have h1:Cg p (ci<|xE p a [x]) (pc x*ci a):=λk=>by rw[hc,zU,xaQ]
 refine⟨jc W _ _,hd,by rw[hd,hc,b],x,ci a<|X a-1,h1,?_⟩;refine Cg.symm<|(Cg.rfl.mul h1).trans ?_;rw[<-zd];refine Cg.trans (Cg.mul (λk=> ?_) Cg.rfl)<|Cg.of<|zC _;rw[jx,xbJ];unfold pc;split;rw[b];exact(xaH mD W).symm;rfl
def Wz{fu:K}{a:N J}{p:J}(hp:qp p=wL)(b:Fp p a)(i:0<X a)(hc:X a<=90000)(c:3000000<=fu):∃x,0<x/\x<p/\(x*ci a (X a-1))%p=1/\jm fu a p=Z (xE p a [x],0):=by
 have⟨j,d⟩:=zw hp;have hd:ci a (X a-1)≠0:=by
  obtain h|h:=b.nl
  lia;exact h
 have t1:=b.nn<|X a-1;have⟨x,x0,f,g,_,e⟩:=Kt (fu:=fu) hp b (W:0<ci a (X a-1)) (b.lt _) hc c;refine⟨x,x0,f,g,?_⟩;unfold jm;rw[U<|Zu hp,S O,U<|zK W d (b.rl d) W c,b.pm,zD,(W:(X a:J)-1=((X a-1:K):J)),zb,yo,A,QJ,U e]
def Jv{fu:K}{p:J}{g h:N J}(hp:qp p=wL)(a:Fp p g)(b:Fp p h)(c:X g<=290)(hc:X h<=290)(e:3000000<=fu):
 ∃d s t,ks fu g h p=Z (d,0)/\BzR p g h d s t (2+max (X g) (X h)*(max (X g) (X h)+1))/\(X d=0\/ci d (X d-1)=1):=by grind [ks,uI,U]
def zbr{p:J}{g h d s t:N J}{S:K}(hp:2<=p)(a:BzR p g h d s t S)(hd:X d=0\/ci d (X d-1)=1):X d=1↔kn p (ci g) (ci h):=by
 refine⟨λh1=>Lr a h1 (hd.resolve_left W),λhc=> ?_⟩;have⟨A,C,c,z2,d1,d2⟩:=a.dv;have⟨u,v,z3,z4,hc⟩:=hc;have b:Cg p ((u*A+v*C)*ci d) (pc 1):=by refine Cg.trans (Cg.of ?_)<|(((Cg.rfl).mul d1.symm).add<|(Cg.rfl).mul d2.symm).trans hc;rw[yW,zd,zd]
 have f:0<X d:=by refine xcR λe=> ?_;have h1:=b 0;rw[wV,yZ λi hi=>by rw[yA W,xaA]]at h1;unfold pc at h1;rw[xap,xaH mD W]at h1;cases h1
 exact PC hp ((z3.mul c).add<|z4.mul z2) f (hd.resolve_left W) b
section
variable{a:xS wn}{p:wn}
def dvp(f:Pz):Pz:=λk=>((k+1:K):J)*f (k+1)
theorem K5(f g:Pz):dvp (f*g)=dvp f*g+f*dvp g:=by
 funext k;show((k+1:K):J)*(f*g) (k+1)=(dvp f*g) k+(f*dvp g) k;rw[wV,wV,wV,<-Ze];have e:yu (k+1+1) (λi=>((k+1:K):J)*(f i*g (k+1-i)))=yu (k+1+1) (λi=>(i:J)*(f i*g (k+1-i)))+yu (k+1+1) (λi=>((k+1-i:K):J)*(f i*g (k+1-i))):=by rw[<-Y5];exact yC λi hi=>by grind
 rw[e];congr 1
 rw[Zj];show((0:K):J)*_+_=_;rw[show((0:K):J)=0 from O,xba,xcI];exact yC λi hi=>by
  show((i+1:K):J)*(f (i+1)*g (k+1-(i+1)))=((i+1:K):J)*f (i+1)*g (k-i);grind
 show yu (k+1) _+((k+1-(k+1):K):J)*_=_;rw[xcE,show((0:K):J)=0 from O,xba,xbW];exact yC λi hi=>by
  show((k+1-i:K):J)*(f i*g (k+1-i))=f i*(((k-i+1:K):J)*g (k-i+1));grind
def zh0{m:J}{f g:Pz}(h:Cg m f g):Cg m (dvp f) (dvp g):=λk=>by
 show(((k+1:K):J)*f (k+1))%m=(((k+1:K):J)*g (k+1))%m;rw[xcd,h,<-xcd]
def zoz(c:J):dvp (pc c)=pc 0:=kW λk=>by
 rw[zO];rfl
def drv(p:J)(a:N J):N J:=nl (X a)<|λk=>dvp (ci a) k%p
def zjO{k:K}(h:X a<=k+1):dvp (ci a) k=0:=by show((k+1:K):J)*ci a (k+1)=0;rw[yA h,xaA]
def Nb(p:J)(a:N J)(k:K):ci (drv p a) k=dvp (ci a) k%p:=DP (λk b=>by rw[zjO W,xap]) k
def zir(p:J)(a:N J):Cg p (ci<|drv p a) (dvp<|ci a):=λk=>by rw[Nb,xaQ]
def ze1(hp:0<p)(a:N J):Fp p (drv p a):=⟨λk=>by rw[Nb];exact(xg hp).1,λk=>by rw[Nb];exact(xg hp).2,AD _ _⟩
def znG(p:J)(a:N J):X (drv p a)<=X a:=Hd _ _
def tN{fu:K}(hp:qp p=wL)(b:Fp p a)(hc:X a<=90000)(e:3000000<=fu):WV fu a p=Z (drv p a,0):=by
 have⟨n,c⟩:=zw hp;unfold WV;have g:∀k:K,0<=((k:J)%p)*ci a k/\((k:J)%p)*ci a k<=4293001441:=λk=>by
  have d:=xg (a:=(k:J)) (p:=p);exact dn c d.1 d.2 (b.nn k)<|b.lt k
 rw[U<|Zu hp,S O,U<|zK W c (b.rl c) W e,b.pm,U (v:=zl (X a-1)<|λk=>(((k+1:K):J)%p)*ci a (k+1))];have l:∀k,X a-1<=k->(((k+1:K):J)%p)*ci a (k+1)=0:=λk o=>by rw[yA W,xaA]
 have d:Rl (zl (X a-1)<|λk=>(((k+1:K):J)%p)*ci a (k+1)):=λk=>by
  rw[XM l];have:=g<|k+1;exact⟨W,W⟩
 rw[U<|zK W c d (by rw[ye];lia) e];congr 2;refine(Dx W _).ext (ze1 W _) λk=> ?_;rw[GG,XM l,Nb,xaQ,xaQ];show _=(((k+1:K):J)*ci a (k+1))%p;rw[xcd,xaQ,<-xcd];refine zA (λs:N J×J×N J=>∃i:K,i<=X a/\s=(zl (i-1)<|λk=>(((k+1:K):J)%p)*ci a (k+1),(i:J),a)) (λs=>X a-s.2.1.toNat) _ ?_ _ _ ⟨0,xae _,O⟩ (by show X a-0<fu;lia);rintro s L ⟨i,hi,rfl⟩ m;unfold cH;simp only;by_cases h:i<X a;rw[yg,U O];simp only[uS];rw[zn h,A,QJ];by_cases h0:0<i;have hd:=g i;obtain⟨j,rfl⟩:∃j,i=j+1:=⟨i-1,W⟩;rw[yg,y8,A,iH,zb,wM (by rw[ye];simp;lia),A,(W:j+1-1=j),znp (f:=λk=>(((k+1:K):J)%p)*ci a (k+1)) O,zb];exact m _ ⟨j+1+1,W,O⟩ (by show X a-(((j+1:K):J)+1).toNat<X a-((j+1:K):J).toNat;lia);obtain rfl:i=0:=W
 rw[zD,zb];exact m _ ⟨1,W,O⟩ (by show X a-(((0:K):J)+1).toNat<X a-((0:K):J).toNat;lia);rw[zD,U O];simp only[xai,uP];obtain rfl:i=X a:=W
 rfl
end
section
variable{p:wn}{m g d:xS wn}{A:Pz}
structure vv(p:J)(m:N J):Prop where
 fm:Fp p m
 ln:0<m.length
 top:ci m (m.length-1)=1
def vv.mn(h:vv p m):Mn (ci m) (X m-1):=⟨h.top,λk a=>yA W⟩
def vv.one(h:vv p m)(hl:X m=1):m=[1]:=by
 match m,hl with
 |[x],_=>have:=h.top;exact uL (λy=>[y]) this
def Hh{q r:N J}(hp:2<=p)(a:vv p m)(f:vv p g)(w:Fs A)(hd:Cg p (ci m) (A*ci g))(o:Fp p q)(B:Fp p r)(t:Cg p (ci m) (ci q*ci g+ci r))(C:X r<X g):
 vv p q/\Cg p (ci m) (ci q*ci g)/\X m+1=X q+X g:=by
 have hl:=f.ln;have h1:Cg p ((A-ci q)*ci g) (ci r):=by rw[ke];refine((hd.symm.trans t).sub Cg.rfl).trans<|Cg.of ?_;funext k;rw[y7,zP];lia
 have y:=f.mn.zero hp (w.subt<|Fs.ci q) λk u=>by rw[h1 k,yA W,xap]
 have D:Cg p (ci r) (pc 0):=h1.symm.trans<|y.mul_zero_r _;have b:Cg p (ci m) (ci q*ci g):=by
  refine t.trans<|Cg.iff_sub.2 ?_;have e:ci q*ci g+ci r-ci q*ci g=ci r:=by funext k;rw[y7,zP];lia
  simp_all
 have hn:=a.ln;have q0:0<X q:=by refine xcR λe=> ?_;have v:=b<|X m-1;rw[a.top,wV,yZ λi hi=>by rw[yA (l:=q) W,xba],xap,xaH mD W]at v;cases v
 have ht:=f.mn.top (x:=ci q) (n:=X q-1) λk u=>yA W;have c:=b<|X q-1+(X g-1);rw[ht,a.fm.mod,o.mod]at c;have z:ci q (X q-1)≠0:=by
  obtain h|h:=o.nl
  lia;exact h
 have hc:X m+1=X q+X g:=by
  have E:X q-1+(X g-1)<X m:=xdp λh=>by
   rw[yA h]at c;exact z c.symm
  have F:X m<=X q-1+(X g-1)+1:=a.fm.nl.le λk u=>by rw[<-a.fm.mod,b,uy (n:=X q) (m:=X g) (λj s=>yA s)<|λj s=>yA s,xap]
  lia
 refine⟨⟨o,q0,?_⟩,b,hc⟩;rw[<-c,(W:X q-1+(X g-1)=X m-1),a.top]
def zks{h s t:N J}{S:K}(hp:2<=p)(b:vv p g)(a:BzR p g h d s t S)(hd:X d=0\/ci d (X d-1)=1):vv p d:=by
 have⟨A,C,c,z2,d1,d2⟩:=a.dv;have hl:0<X d:=by refine xcR λe=> ?_;have h1:=d1<|X g-1;rw[b.top,wV,yZ λi hi=>by rw[yA W,xaA],xaH mD W]at h1;cases h1
 exact⟨a.df,hl,hd.resolve_left W⟩
def gV{a:N J}(hp:2<=p)(c:vv p a)(hd:vv p d)(e:Fs A)(h:Cg p (ci a) (A*ci d)):X d<=X a:=by
 refine xbx λhc=> ?_;have f:∀k,X d-1<=k->(A*ci d) k%p=0:=λk i=>by rw[<-h k,yA W,xap]
 have h0:=hd.mn.zero hp e f;have b:=(h.trans<|h0.mul_zero_r _)<|X a-1;rw[c.top,zO,xaH mD W]at b;cases b
end
def zfM{p:J}{m:N J}(hp:0<p)(a:Fp p m):xE p m [1]=m:=by grind [Fp.ext,jc,ZF,jY,yp]
section
variable{fu K:wr}{a b:Zr}
def exI(x y:J):J:=if y=0 then 0 else if x%y=0 then x/y else 0
def exE(x y:J):J:=if y=0 then 3 else if x%y=0 then 0 else 4
def uh(f:gy a)(c:gy b)(d:3000000<=fu):vX fu a b=Z (yG<|exI (zv a)<|zv b,exE (zv a)<|zv b):=by
 unfold vX exI exE;rw[U<|Ud f c d];unfold MU;by_cases h0:zv b=0
 rw[S h0,S h0,S h0];rfl;rw[ir h0,ir h0,ir h0];simp only[uS];have g:Bz (X b.2) (zv a%zv b):=by unfold Bz;have h1:=xcH (zv a) h0;have i:=Int.emod_lt (zv a) h0;have h:=Bz.of c.1;unfold Bz at h;lia
 rw[U O,ir mD,U<|xe (g.ok (by have:=c.2;lia)) d,zo];by_cases h1:zv a%zv b=0
 rw[S<|xL.2 h1,S h1,S h1];rw[ir<|λe=>h1<|xL.1 e,ir h1,ir h1];rfl
def Ae(f:gy a)(c:gy b)(d:3000000<=fu):WJ fu a b=Z (yG<|exI (zv a)<|zv b,exE (zv a)<|zv b):=by
 unfold WJ exI exE;rw[U<|dk f c d];unfold MU;by_cases h0:zv b=0
 rw[S h0,S h0,S h0];rfl;rw[ir h0,ir h0,ir h0];simp only[uS];have g:Bz (X b.2) (zv a%zv b):=by unfold Bz;have h1:=xcH (zv a) h0;have i:=Int.emod_lt (zv a) h0;have h:=Bz.of c.1;unfold Bz at h;lia
 rw[U<|VW (g.ok (by have:=c.2;lia)) d,zo];by_cases h1:zv a%zv b=0
 rw[S<|xL.2 h1,S h1,S h1];rw[ir<|λe=>h1<|xL.1 e,ir h1,ir h1];rfl
def zcM{n:wr}(h:n<18446744073709551616^K):bl n<=64*K:=af<|by rw[xcg];exact h
def Uv(e:zm a.2)(f:zm b.2)(j:X a.2<=K)(hi:X b.2<=K)(p:K<=10000)(k:3000000<=fu):Wu fu a b=Z (yG (xdq (zv a).natAbs (zv b).natAbs:wr)):=by
 unfold Wu;rw[U<|Vb e,U<|Vb f,vI,vI];have c:nv a.2<18446744073709551616^K:=xag (vn e)<|xam mD j;have g:nv b.2<18446744073709551616^K:=xag (vn f)<|xam mD hi;generalize nv a.2=A at*
 generalize nv b.2=B at*
 have l:xdq A B<18446744073709551616^K:=by
  by_cases h:A=0
  simp_all;exact xaK (Nat.gcd_le_left _ W) c
 have hc:∀{n:wr},n<18446744073709551616^K->X (yH n)<=K:=λ{n} h=>(zJ _ _).2 h;rw[U (v:=yH<|xdq A B)];have hl:=hc l;rw[U (yM (zt _) W W),zV];rfl;refine zA (λs:N wr×N wr=>∃x y:wr,s=(yH x,yH y)/\x<18446744073709551616^K/\y<18446744073709551616^K/\xdq x y=xdq A B) (λs=>bl (nv s.1)+bl (nv s.2)+if nv s.1<nv s.2 then 1 else 0) _ ?_ _ _ ⟨A,B,O,c,g,O⟩ ?_;rintro s L ⟨x,y,rfl,m,i,d⟩ o;unfold p9;simp only;have q:=hc m;have r:=hc i;by_cases h0:y=0
 subst h0;rw[ir<|by rw[gn];decide];rw[Nat.gcd_zero_right]at d;rw[d];have hp:=qg (n:=y) W;rw[yg,U<|pX (zt x) (zt y) W W k,zV,zV,ir h0];simp only;have t:=xaN x (W:0<y);refine o _ ⟨y,x%y,O,i,W,?_⟩ ?_;rw[<-d,xdE y,<-Nat.gcd_rec,xdE];simp only[zV];rw[zD];by_cases hd:x<y;rw[S hd,xao hd];lia;have:=MV (r0:=x) (r1:=y);lia;simp only[zV];have h1:=zcM c;have u:=zcM g;split<;>lia
def fc(c:zm a.2)(hl:X a.2<=200000)(d:3000000<=fu):Vr fu a=Z (yG ((zv a).natAbs:wr)):=by unfold Vr;rw[U<|xf (z:=(I,a.2)) c hl d,vI];rfl
def DU(d:zm a.2)(f:zm b.2)(hd:X a.2<=K)(k:X b.2<=K)(p:K<=10000)(c:3000000<=fu):Kk fu a b=Z (yG (xdq (zv a).natAbs (zv b).natAbs:wr)):=by
 unfold Kk;rw[U<|fc d W c,U<|fc f W c,vI,vI];have g:nv a.2<18446744073709551616^K:=xag (vn d)<|xam mD hd;have h:nv b.2<18446744073709551616^K:=xag (vn f)<|xam mD k;generalize nv a.2=A at*
 generalize nv b.2=B at*
 rw[U (v:=yG (xdq A B:wr))];refine zA (λs:M×M=>∃x y:wr,s=(yG (x:wr),yG (y:wr))/\x<18446744073709551616^K/\y<18446744073709551616^K/\xdq x y=xdq A B) (λs=>bl (zv s.1).natAbs+bl (zv s.2).natAbs+if(zv s.1).natAbs<(zv s.2).natAbs then 1 else 0) _ ?_ _ _ ⟨A,B,O,g,h,O⟩ ?_;rintro s L ⟨x,y,rfl,l,i,m⟩ n;unfold lD;simp only;have o:=Bz.nat l;have j:=Bz.nat i;rw[U<|VW (j.ok W) c,zo];by_cases h0:y=0
 subst h0;rw[S<|xL.2 (show((0:wr):J)=0 from O)];simp_all;rw[ir<|λe=>h0 (by have:=xL.1 e;lia),U<|dk (o.okS W) (j.okS W) c,zo,zo];unfold MU;rw[zD];simp only;have hi:=xaN x (W:0<y);rw[show((x:J)%(y:J))=((x%y:wr):J)from O];refine n _ ⟨y,x%y,O,i,W,?_⟩ ?_;rw[<-m,xdE y,<-Nat.gcd_rec,xdE];simp only[zo,xaG];rw[zD];by_cases hc:x<y;rw[S hc,xao hc];lia;have:=MV (r0:=x) (r1:=y);lia;simp only[zo,xaG];have h1:=zcM g;have q:=zcM h;split<;>lia
end
section
variable{k d fu K:wr}{q:qR}
abbrev Qr:=M×N wr
def qv(x:Qr):qR:=mkRat (zv x.1)<|nv x.2
def cq(q:qR):Qr:=(yG q.num,yH q.den)
def Qz(k:wr)(x:Qr):Prop:=zm x.1.2/\X x.1.2<=k/\zm x.2/\X x.2<=k
def Qh(k:wr)(q:qR):Prop:=Bz k q.num/\Bz k q.den
def Kp(q:qR):qv (cq q)=q:=by unfold qv cq;rw[zo,zV,Rat.mkRat_self]
def Qh.qs(h:Qh k q):Qz k (cq q):=⟨yN _,h.1.len,zt _,by have:=h.2.len;unfold yG at this;simpa[cq]using this⟩
def Qz.mono{j:wr}{x:Qr}(h:Qz j x)(a:j<=k):Qz k x:=⟨h.1,xal h.2.1 a,h.2.2.1,xal h.2.2.2 a⟩
def Qz.nil(k:wr):Qz k ((I,[]),[]):=⟨zm.nil,xae _,zm.nil,xae _⟩
def Tj:qv ((I,[]),[])=0:=Rat.mkRat_zero _
def Qh.mk{n:J}(hn:Bz k n)(hd:Bz k (d:J))(a:1<=k):Qh k (mkRat n d):=by
 unfold Qh;rw[Rat.num_mkRat,Rat.den_mkRat];by_cases h:d=0
 rw[S h,S h];exact⟨Bz.zero k,Bz.one' a⟩;rw[ir h,ir h];refine⟨hn.le ?_,hd.le ?_⟩;exact xbB _ _;rw[xaG,xaG];exact xcD _ _
def Qz.hb{x:Qr}(h:Qz k x)(a:1<=k):Qh k (qv x):=by refine Qh.mk ((Bz.of h.1).mono h.2.1) ?_ a;unfold Bz;rw[xaG];exact xag (vn h.2.2.1)<|xam mD h.2.2.2
def Mf{a b:J}(f:b≠0):(Rat.divInt a b).num=(if b<0 then-(a/(xdq a.natAbs b.natAbs:wr))else a/(xdq a.natAbs b.natAbs:wr))/\(Rat.divInt a b).den=(b/(xdq a.natAbs b.natAbs:wr)).natAbs:=by
 have c:((xdq a.natAbs b.natAbs:wr):J)∣a:=xfn.2<|xfL _ _;have e:((xdq a.natAbs b.natAbs:wr):J)∣b:=xfn.2<|xdv _ _;by_cases h:b<0;obtain⟨d,rfl⟩:∃d:wr,b= -(d:J):=⟨b.natAbs,W⟩;have hd:d≠0:=W
 rw[xfB,xaG]at c e⊢;rw[S h,Rat.divInt_neg',Rat.divInt_ofNat,Rat.num_mkRat,Rat.den_mkRat,ir hd,ir hd,xfB,xdE d];refine⟨Int.neg_ediv_of_dvd c,?_⟩;rw[Int.neg_ediv_of_dvd (by exact xcO.2<|xdv _ _),xfB,Int.natAbs_ediv_of_dvd<|xcO.2<|xdv _ _];rfl;obtain⟨d,rfl⟩:∃d:wr,b=(d:J):=⟨b.natAbs,W⟩;have hd:d≠0:=W
 rw[ir h,Rat.divInt_ofNat,Rat.num_mkRat,Rat.den_mkRat,ir hd,ir hd,xaG,xdE d];refine⟨O,?_⟩;rw[Int.natAbs_ediv_of_dvd<|xcO.2<|xdv _ _];rfl
def lL{a b:M}(i:zm a.2)(j:zm b.2)(hc:X a.2<=K)(hd:X b.2<=K)(r:K<=10000)(c:3000000<=fu:=by lia):
 We fu a b=Z (if zv b=0 then(((I,[]),[]),3)else(cq<|Rat.divInt (zv a)<|zv b,0)):=by
 unfold We;have s:gy a:=⟨i,W⟩;have l:gy b:=⟨j,W⟩;rw[U<|xe l.ok c];by_cases h0:zv b=0
 rw[S<|xL.2 h0,S h0];rw[ir<|λe=>h0<|xL.1 e,ir h0,U<|Uv i j hc hd r c];have⟨h1,m⟩:=Mf (a:=zv a) h0;generalize f:((xdq (zv a).natAbs (zv b).natAbs:wr):J)=G at*
 have g1:G∣zv a:=by rw[<-f];exact xfn.2<|xfL _ _
 have n:G∣zv b:=by rw[<-f];exact xfn.2<|xdv _ _
 have g0:G≠0:=λe=>h0<|Int.zero_dvd.1<|e▸n;have t:Bz K G:=(Bz.of j).mono hd|>.le (by rw[<-f,xaG];exact Nat.le_of_dvd W<|xdv _ _)
 have o:gy (yG G):=t.okS W;rw[U<|uh s o c,zo];simp only;rw[U<|uh l o c,zo];have e1:∀{x:J},G∣x->exI x G=x/G:=λh=>by unfold exI;rw[ir g0,S<|xax h]
 rw[e1 g1,e1 n];have gp:0<G:=by rw[<-f];rw[<-f]at g0;lia
 have p:zv b/G<0↔zv b<0:=by
  constructor;intro h;exact Int.not_le.1 λe=>wS (Int.ediv_nonneg e<|xdF gp) W
  intro h;exact Int.ediv_neg_of_neg_of_pos h gp
 by_cases g:zv b<0;rw[S<|(QU _).2<|p.2 g,U<|Ui (((Bz.of i).mono hc).le (xbB _ _)|>.ok W) c,zo];unfold cq;rw[h1,m,S g];rfl;rw[ir<|λe=>g<|p.1<|(QU _).1 e];unfold cq;rw[h1,m,ir g];rfl
def bS{x:Qr}(h:Qz K x)(b:K<=10000)(a:3000000<=fu):YU fu x=Z (yG (nv x.2:wr)):=by unfold YU;rw[U<|uf ⟨h.2.2.1,xal h.2.2.2 W⟩ a];rfl
def gj{n:J}(h:XB n)(a:3000000<=fu):jQ fu n=Z (cq (n:qR)):=by unfold jQ cq;rw[U<|yw h a,Rat.num_intCast,Rat.den_intCast];rfl
def mj{x:Qr}(h:Qz K x)(a:K<=10000)(b:3000000<=fu):wk fu x=Z (cq<|qv x):=by
 unfold wk;have hd:Bz K ((nv x.2:wr):J):=by unfold Bz;rw[xaG];exact xag (vn h.2.2.1)<|xam mD h.2.2.2
 rw[U<|bS h a b,U<|lL (K:=K) h.1 (yN _) h.2.1 hd.len a,zo];by_cases h0:((nv x.2:wr):J)=0
 rw[S h0];simp only;rw[ir mD,U<|gj mD b];unfold qv;rw[(W:nv x.2=0),Rat.mkRat_zero];rfl;rw[ir h0];simp only;rw[S wR,Rat.divInt_ofNat];rfl
def Kg(x:Qr):Prop:=Qz 4000 x
def Aq(q:qR):Prop:=Qh 4000 q
def Aq.rs(h:Aq q):Kg (cq q):=h.qs
def Kg.hs{x:Qr}(h:Kg x):Aq (qv x):=h.hb mD
def Kg.nil:Kg ((I,[]),[]):=Qz.nil _
def jN{x:Qr}(h:Kg x)(a:3000000<=fu):wk fu x=Z (cq<|qv x):=mj h mD a
def zbs{n:J}(hn:Bz K n)(hd:Bz K (d:J))(a:K<=10000)(b:3000000<=fu):wk fu (yG n,yH d)=Z (cq<|mkRat n d):=by rw[mj (K:=K) ⟨yN _,hn.len,zt _,by have:=hd.len;unfold yG at this;simpa using this⟩ a b];unfold qv;rw[zo,zV]
def zgu(h:Qh K q):zm (yH q.den)/\X (yH q.den)<=K:=⟨zt _,h.qs.2.2.2⟩
def za1{p:qR}(hp:Aq p)(a:Aq q)(c:3000000<=fu):Zx fu (yH p.den) (yH q.den)=Z (yH<|p.den*q.den):=by have h1:=zgu hp;have b:=zgu a;rw[Xg h1.1 b.1 W W W,zV,zV]
def bF{x y:Qr}(c:Kg x)(e:Kg y)(a:3000000<=fu):Wx fu x y=Z (cq<|qv x*qv y):=by
 unfold Wx;rw[U<|jN c a,U<|jN e a];have h1:=c.hs;have b:=e.hs;generalize qv x=p at*
 generalize qv y=q at*
 unfold cq;simp only;rw[U<|yj (h1.1.ok mD) (b.1.ok mD) a,U<|za1 h1 b a,zo,zo,U<|zbs (h1.1.mul b.1) (by rw[xfi];exact h1.2.mul b.2) mD a,<-Rat.mkRat_mul_mkRat,Rat.mkRat_self,Rat.mkRat_self];rfl
def Gy{x:Qr}(a:Kg x)(b:3000000<=fu):JX fu x=Z (kh (qv x).num 0):=by unfold JX;rw[U<|jN a b];unfold cq;rw[U<|xe (a.hs.1.ok mD) b,zo]
def GI:kh q.num 0=0↔q=0:=xL.trans Rat.num_eq_zero
def ai{x y:Qr}{f:M->M->V M}{r:J}(c:Kg x)(e:Kg y)(a:3000000<=fu)(h:f (yG<|(qv x).num*(qv y).den) (yG<|(qv y).num*(qv x).den)=Z (yG r))(g:Bz 8001 r):Vc fu x y f=Z (cq<|mkRat r<|(qv x).den*(qv y).den):=by
 unfold Vc;rw[U<|jN c a,U<|jN e a];have h1:=c.hs;have b:=e.hs;generalize qv x=p at*
 generalize qv y=q at*
 rw[U<|bS b.qs mD a];unfold cq;simp only;rw[zV,U<|yj (h1.1.ok mD) (b.2.ok mD) a];have hd:=bS (fu:=fu) h1.qs mD a;unfold cq at hd;rw[U hd];simp only;rw[zV,U<|yj (b.1.ok mD) (h1.2.ok mD) a,zo,zo,zo,zo,U h,U<|za1 h1 b a,U<|zbs g (by rw[xfi];exact(h1.2.mul b.2).mono mD) mD a];rfl
def rk{x y:Qr}(a:Kg x)(b:Kg y)(c:3000000<=fu):ab fu x y=Z (cq<|qv x+qv y):=by have h1:=a.hs;have e:=b.hs;have b1:=h1.1.mul e.2;have b2:=e.1.mul h1.2;unfold ab XF;rw[U<|U<|ai (r:=(qv x).num*(qv y).den+(qv y).num*(qv x).den) a b c ?_<|b1.add b2];rw[Rat.add_def,Rat.normalize_eq_mkRat];unfold XE;rw[ir mD,U<|vZ (b1.ok mD) (b2.ok mD) c,zo,zo]
def Nu{x y:Qr}(a:Kg x)(b:Kg y)(c:3000000<=fu):ah fu x y=Z (cq<|qv x-qv y):=by have h1:=a.hs;have e:=b.hs;have b1:=h1.1.mul e.2;have b2:=e.1.mul h1.2;unfold ah XF;rw[U<|U<|ai (r:=(qv x).num*(qv y).den-(qv y).num*(qv x).den) a b c ?_<|b1.sub b2];rw[Rat.sub_def,Rat.normalize_eq_mkRat];unfold XE;rw[S O,U<|qd (b1.ok mD) (b2.ok mD) c,zo,zo]
end
def VT:K->(K->qR)->qR
 |0,_=>0
 |n+1,g=>VT n g+g n
def yE(n:K)(f:K->qR)(t:qR):qR:=VT n λi=>f i*t^i
def q7{f g:K->qR}:∀{n},(∀i,i<n->f i=g i)->VT n f=VT n g
 |0,_=>rfl
 |n+1,h=>by show VT n f+f n=VT n g+g n;rw[q7 λi hi=>h i W,h n W]
def RJ(f g:K->qR):∀n,VT n (λi=>f i+g i)=VT n f+VT n g
 |0=>by show(0:qR)=0+0;grind
 |n+1=>by show VT n _+_=VT n f+f n+(VT n g+g n);rw[RJ f g n];grind
def DT(c:qR)(f:K->qR):∀n,VT n (λi=>c*f i)=c*VT n f
 |0=>by show(0:qR)=c*0;grind
 |n+1=>by show VT n _+_=c*(VT n f+f n);rw[DT c f n];grind
def X4{f:K->qR}:∀{n},(∀i,i<n->f i=0)->VT n f=0
 |0,_=>rfl
 |n+1,h=>by show VT n f+f n=0;rw[X4 λi hi=>h i W,h n W];grind
def H8{f:K->qR}{n:K}:∀{m},n<=m->(∀i,n<=i->f i=0)->VT m f=VT n f
 |0,h,_=>by rw[(W:n=0)]
 |m+1,h,h0=>by
  by_cases e:n=m+1
  rw[e];show VT m f+f m=_;rw[H8 (m:=m) W h0,h0 m W];grind
def Iq(f:K->qR):∀n,VT (n+1) f=f 0+VT n (λi=>f<|i+1)
 |0=>by show(0:qR)+f 0=f 0+0;grind
 |n+1=>by show VT (n+1) f+f (n+1)=f 0+(VT n _+f (n+1));rw[Iq f n];grind
def upq(f:K->qR)(k:K)(v:qR):K->qR:=λi=>if i=k then v else f i
def zhN{f:K->qR}{k:K}{v t:qR}:∀{n},k<n->yE n (upq f k v) t=yE n f t+(v-f k)*t^k
 |0,h=>wS h<|xbc _
 |n+1,h=>by
  show yE n (upq f k v) t+upq f k v n*t^n=yE n f t+f n*t^n+_;by_cases e:k=n;have:yE n (upq f k v) t=yE n f t:=q7 λi hi=>by unfold upq;rw[zD]
  rw[this,e];unfold upq;rw[S O];grind;rw[zhN W];have:upq f k v n=f n:=by unfold upq;rw[zD]
  rw[this];grind
def iE(n:K)(t:qR):yE n (λ_=>0) t=0:=X4 λi _=>by grind
def QZ(n:K)(f g:K->qR)(t:qR):yE n (λi=>f i+g i) t=yE n f t+yE n g t:=by unfold yE;rw[<-RJ];exact q7 λi _=>by grind
def QP(n:K)(c:qR)(f:K->qR)(t:qR):yE n (λi=>c*f i) t=c*yE n f t:=by unfold yE;rw[<-DT];exact q7 λi _=>by grind
def vT(n:K)(f:K->qR)(t:qR):yE (n+1) f t=f 0+t*yE n (λi=>f<|i+1) t:=by unfold yE;rw[Iq,<-DT,xeC,q7 (g:=λi=>t*(f (i+1)*t^i)) λi _=>by rw[xeD];grind];grind
def Yj{f:K->qR}{n m:K}(h:n<=m)(h0:∀i,n<=i->f i=0)(t:qR):yE m f t=yE n f t:=H8 h λi hi=>by rw[h0 i hi];grind
def Su(r:qR):∀(n:K) (f:K->qR),∃g,∀t,yE (n+1) f t-yE (n+1) f r=(t-r)*yE n g t
 |0,f=>⟨f,λt=>by rw[vT,vT];show f 0+t*0-(f 0+r*0)=(t-r)*0;grind⟩
 |n+1,f=>by
  have⟨g,a⟩:=Su r n λi=>f<|i+1;refine⟨λi=>if i=0 then yE (n+1) (λi=>f<|i+1) r else g (i-1),λt=> ?_⟩;rw[vT (n+1) f,vT (n+1) f,vT n (λi=>if i=0 then yE (n+1) (λi=>f<|i+1) r else g (i-1))];have h:=a t;have e:yE n (λi=>if i+1=0 then yE (n+1) (λi=>f<|i+1) r else g (i+1-1)) t=yE n g t:=q7 λi _=>by simp
  rw[e,S O];generalize yE (n+1) (λi=>f<|i+1) t=A at*
  generalize yE (n+1) (λi=>f<|i+1) r=B at*
  grind
def se:∀(n:K) (f:K->qR) (N:K),(∀k:K,N<=k->yE n f (k:qR)=0)->∀i,i<n->f i=0
 |0,_,_,_,i,hi=>wS hi<|xbc _
 |n+1,f,N,h,i,hi=>by
  have⟨g,a⟩:=Su (N:qR) n f;have b:=h N<|So _;have g0:∀i,i<n->g i=0:=se n g (N+1) λk c=>by
   have h1:=a k;rw[h k W,b]at h1;have j:((k:K):qR)-N≠0:=λe=>by
    have d:((k:K):qR)=N:=by grind
    have:=xey.1 d;lia
   grind
  have e:∀t,yE (n+1) f t=0:=λt=>by
   have h1:=a t;rw[show yE n g t=0 from X4 λi hi=>by rw[g0 i hi];grind,b]at h1;grind
  have f0:f 0=0:=by have:=e 0;rw[vT]at this;grind
  have f1:=se n (λi=>f<|i+1) 1 λk c=>by
   have h1:=e k;rw[vT,f0]at h1;have:((k:K):qR)≠0:=λe=>by have:=xey.1<|e.trans (by rfl:(0:qR)=((0:K):qR));lia
   grind
  cases i with
  |zero=>exact f0
  |succ i=>exact f1 i W
def zcs{n:K}{f g:K->qR}(h:∀t,yE n f t=yE n g t):∀i,i<n->f i=g i:=λi hi=>by
 have:=se n (λi=>f i+ -1*g i) 0 (λk _=>by rw[QZ,QP,h];grind) i hi;grind
def UR(t:qR)(m:K):∀n,t^(m+n)=t^m*t^n
 |0=>by rw[xbM,xeC];grind
 |n+1=>by rw[<-xcK,xeD,xeD,UR t m n];grind
def nT(n:K)(F:qR->qR):Prop:=∃f,∀t,F t=yE n f t
def nT.self(n:K)(f:K->qR):nT n (yE n f):=⟨f,λ_=>O⟩
def nT.mono{m n:K}{F:qR->qR}(h:nT n F)(a:n<=m):nT m F:=by have⟨f,b⟩:=h;refine⟨λi=>if i<n then f i else 0,λt=> ?_⟩;rw[b,Yj a<|λi hi=>by rw[zD]];exact q7 λi hi=>by simp[hi]
def nT.add{n:K}{F G:qR->qR}:nT n F->nT n G->nT n λt=>F t+G t:=λ⟨f,a⟩ ⟨g,b⟩=>⟨λi=>f i+g i,λt=>by have:=a t;have:=b t;rw[QZ];grind⟩
def nT.smul{n:K}{F:qR->qR}(c:qR):nT n F->nT n λt=>c*F t:=λ⟨f,a⟩=>⟨λi=>c*f i,λt=>by have:=a t;rw[QP];grind⟩
def nT.x{n:K}{F:qR->qR}:nT n F->nT (n+1) λt=>t*F t:=λ⟨f,a⟩=>⟨λi=>if i=0 then 0 else f (i-1),λt=>by
 have h1:yE n (λi=>if i+1=0 then 0 else f (i+1-1)) t=yE n f t:=q7 λi _=>by simp
 have:=a t;rw[vT,h1,S O];grind⟩
def nT.xn{n:K}{F:qR->qR}(h:nT n F):∀m,nT (n+m) λt=>t^m*F t
 |0=>by have⟨f,a⟩:=h;exact⟨f,λt=>by have:=a t;show t^0*F t=yE n f t;rw[xeC];grind⟩
 |m+1=>by have⟨f,a⟩:=(h.xn m).x;exact⟨f,λt=>by have:=a t;show t^(m+1)*F t=yE (n+m+1) f t;rw[xeD];grind⟩
def nT.mul{m:K}{G:qR->qR}(a:nT (m+1) G):∀(n:K) (f:K->qR),nT (n+m) λt=>yE n f t*G t
 |0,f=>⟨λ_=>0,λt=>by rw[iE];show(0:qR)*_=0;grind⟩
 |n+1,f=>by
  have⟨g,b⟩:=((nT.mul a n f).mono (m:=n+1+m) W).add (((a.xn n).smul<|f n).mono (m:=n+1+m) W);exact⟨g,λt=>by rw[<-b];show(yE n f t+f n*t^n)*G t=_;grind⟩
def ZD(F:qR->qR):Prop:=∃n,nT n F
def ZD.self(n:K)(f:K->qR):ZD (yE n f):=⟨n,nT.self n f⟩
def ZD.add{F G:qR->qR}:ZD F->ZD G->ZD λt=>F t+G t:=λ⟨m,h⟩ ⟨n,k⟩=>⟨max m n,(h.mono W).add<|k.mono W⟩
def ZD.mul{F G:qR->qR}:ZD F->ZD G->ZD λt=>F t*G t:=λ⟨m,f,a⟩ ⟨n,k⟩=>⟨m+n,by have⟨g,b⟩:=nT.mul (k.mono<|xbz n) m f;exact⟨g,λt=>by rw[<-b];show F t*G t=yE m f t*G t;rw[a]⟩⟩
def ZD.c(a:qR):ZD λ_=>a:=⟨1,λ_=>a,λt=>by rw[vT];show a=a+t*0;grind⟩
def ZD.x:ZD λt=>t:=⟨2,λi=>if i=1 then 1 else 0,λt=>by rw[vT,vT];show t=0+t*(1+t*0);grind⟩
def ZD.smul{F:qR->qR}(c:qR)(h:ZD F):ZD λt=>c*F t:=(ZD.c c).mul h
def ZD.sub{F G:qR->qR}(h:ZD F)(k:ZD G):ZD λt=>F t-G t:=by have⟨n,g,a⟩:=h.add<|k.smul (-1);exact⟨n,g,λt=>by rw[<-a];grind⟩
def jZ(P F G:qR->qR):Prop:=∃Q,ZD Q/\∀t,F t-G t=P t*Q t
def jZ.refl{P F:qR->qR}:jZ P F F:=⟨_,ZD.c 0,λt=>by grind⟩
def jZ.of{P F G:qR->qR}(h:∀t,F t=G t):jZ P F G:=⟨_,ZD.c 0,λt=>by rw[h];grind⟩
def jZ.symm{P F G:qR->qR}:jZ P F G->jZ P G F:=λ⟨Q,h,e⟩=>⟨_,h.smul (-1),λt=>by have:=e t;grind⟩
def jZ.trans{P F G H:qR->qR}:jZ P F G->jZ P G H->jZ P F H:=λ⟨Q,h,e⟩ ⟨R,k,a⟩=>⟨_,h.add k,λt=>by have:=e t;have:=a t;grind⟩
def jZ.add{P F G a b:qR->qR}:jZ P F G->jZ P a b->jZ P (λt=>F t+a t) λt=>G t+b t:=λ⟨Q,h,e⟩ ⟨R,k,c⟩=>⟨_,h.add k,λt=>by have:=e t;have:=c t;grind⟩
def jZ.mul{P F G a b:qR->qR}(c:ZD a)(d:ZD G):jZ P F G->jZ P a b->jZ P (λt=>F t*a t) λt=>G t*b t:=λ⟨Q,h,e⟩ ⟨R,k,f⟩=>⟨_,(h.mul c).add<|d.mul k,λt=>by have:=e t;have:=f t;grind⟩
def jZ.smul{P F G:qR->qR}(c:qR):jZ P F G->jZ P (λt=>c*F t) λt=>c*G t:=λ⟨Q,h,e⟩=>⟨_,h.smul c,λt=>by have:=e t;grind⟩
def jZ.sub{P F G a b:qR->qR}(h:jZ P F G)(k:jZ P a b):jZ P (λt=>F t-a t) λt=>G t-b t:=by have⟨Q,h,e⟩:=h.add<|k.smul (-1);exact⟨Q,h,λt=>by have:=e t;grind⟩
def jZ.inj{d:K}{b f g:K->qR}(o:b d=1)(h:jZ (yE (d+1) b) (yE d f) (yE d g)):∀i,i<d->f i=g i:=by
 have⟨Q,⟨n,q,a⟩,e⟩:=h;have j:∀n (q:K->qR),(∀t,yE d f t-yE d g t=yE (d+1) b t*yE n q t)->∀t,yE n q t=0:=by
  intro n
  induction n with
  |zero=>intro q _ t;rfl
  |succ n p=>
   intro q e;have⟨c,hc⟩:=((((nT.self d f).add<|(nT.self d g).smul (-1)).mono (m:=n+d) W).add<|(nT.mul (nT.self (d+1) b) n q).smul (-1)).add ((((nT.self d b).xn n).smul (-q n)).mono (m:=n+d) W);have h1:=se (n+d+1) (λi=>if i<n+d then c i else-q n) 0 (λk _=>by
    show yE (n+d) _ _+(if n+d<n+d then c (n+d)else-q n)*(k:qR)^(n+d)=0;have r:yE (n+d) (λi=>if i<n+d then c i else-q n) (k:qR)=yE (n+d) c k:=q7 λi hi=>by simp[hi]
    have s:=hc k;have u:yE d f (k:qR)-yE d g k=(yE d b k+b d*(k:qR)^d)*(yE n q k+q n*(k:qR)^n):=e k;have v:yE (d+1) b (k:qR)=yE d b k+b d*(k:qR)^d:=O;rw[r,<-s,zD,UR];show yE d f k+ -1*yE d g k+ -1*(yE n q k*yE (d+1) b k)+ -q n*((k:qR)^n*yE d b k)+ -q n*((k:qR)^n*(k:qR)^d)=0;rw[v];rw[o]at u⊢;grind) (n+d) W
   simp only[xfR,uP]at h1;have q0:q n=0:=by grind
   have l:∀t,yE (n+1) q t=yE n q t:=λt=>by show yE n q t+q n*t^n=_;rw[q0,xeR,xfg]
   intro t;rw[l];exact p q (λt=>by rw[<-l];exact e t) t
 intro i hi;exact zcs (λt=>by have:=e t;rw[a,j n q (λt=>by rw[<-a];exact e t),Rat.mul_zero]at this;clear e a j;grind) i hi
section
variable{k j i:wr}{f g:wr->qR}{a b:wn}{l:xS qR}
def wU(l:N qR)(i:K):qR:=l.getD i 0
def vd(l:N qR):qR->qR:=yE (X l)<|wU l
def sF(k:K)(f:K->qR):Prop:=∃D:K,0<D/\D<2^k/\∀i,∃n:J,f i*D=n/\n.natAbs<2^k
def Ht(k:K)(l:N qR):Prop:=sF k<|wU l
def Hx(k:K)(x:qR):Prop:=∃D:K,0<D/\D<2^k/\∃n:J,x*D=n/\n.natAbs<2^k
def sF.hx(h:sF k f)(i:K):Hx k (f i):=by have⟨D,h0,h1,c⟩:=h;exact⟨D,h0,h1,c i⟩
def zaU{K:wr}(h:k<=64*K):2^k<=18446744073709551616^K:=xal (xam mD h)<|by rw[xcg];exact So _
theorem zeu{x:qR}{D:K}{n:J}(h0:0<D)(h:x*D=n):x=mkRat n D:=by
 have c:((D:K):qR)≠0:=λe=>by have:=xey.1<|e.trans (by rfl:(0:qR)=((0:K):qR));lia
 rw[Rat.mkRat_eq_div,<-h];grind
def Hx.hs{x:qR}(h:Hx k x)(m:k<=256000):Aq x:=by have⟨D,h0,h1,n,d,e⟩:=h;rw[zeu h0 d];have c:=zaU (K:=4000) (W:k<=64*4000);exact Qh.mk (xag e c) (xag (by rw[xaG];exact h1) c) mD
def sF.mono(h:sF j f)(c:j<=k):sF k f:=by have⟨D,h0,h1,d⟩:=h;have:=xam (mD:0<2) c;exact⟨D,h0,W,λi=>by have⟨n,a,b⟩:=d i;exact⟨n,a,W⟩⟩
def vo(c:a.natAbs<2^j)(d:b.natAbs<2^k):(a*b).natAbs<2^(j+k):=by rw[xcw,xbj];exact xci c d
theorem Hx.mul{x y:qR}(c:Hx j x)(d:Hx k y):Hx (j+k) (x*y):=by have⟨D,h0,h1,n,e,h⟩:=c;have⟨E,g0,g1,m,o,p⟩:=d;refine⟨D*E,xdL h0 g0,by rw[xbj];exact xci h1 g1,n*m,?_,vo h p⟩;rw[xdG,xcu,<-e,<-o];grind
def FZ(c:a.natAbs<2^k)(d:b.natAbs<2^k):(a+b).natAbs<2^(k+1):=by rw[xbw];lia
theorem sF.comb{c:qR}(h:sF j f)(d:sF k g){s:K}(hc:∃m:J,c=m/\m.natAbs<2^s):sF (j+k+s+1) λi=>f i+c*g i:=by
 have⟨D,h0,h1,e⟩:=h;have⟨E,g0,g1,o⟩:=d;obtain⟨m,rfl,p⟩:=hc;have e1:D*E<2^(j+k):=by rw[xbj];exact xci h1 g1
 have v:=xam (mD:0<2) (W:j+k<=j+k+s+1);refine⟨D*E,xdL h0 g0,W,λi=> ?_⟩;have⟨n,q,r⟩:=e i;have⟨u,b1,b2⟩:=o i;refine⟨n*E+m*(u*D),?_,FZ (k:=j+k+s) ?_ ?_⟩;rw[xfX,xcu,xcu,xcu,xdG,<-q,<-b1];show _=f i*D*(E:qR)+m*(g i*E*(D:qR));grind;have:=vo r (b:=(E:J)) (k:=k) (by rw[xaG];exact g1);have:=xam (mD:0<2) (W:j+k<=j+k+s);lia;have:=vo p (vo b2 (b:=(D:J)) (k:=j)<|by rw[xaG];exact h1);have t:s+(k+j)=j+k+s:=W
 rwa[t]at this
theorem sF.less{b:K}{h:K->qR}{e:K}(m:sF k f)(o:sF b g)(p:∀i,h i=f i\/∃j,h i=f i-f e*g j):sF (k+b+1) h:=by
 have⟨D,h0,h1,c⟩:=m;have⟨E,g0,g1,r⟩:=o;have e1:D*E<2^(k+b):=by rw[xbj];exact xci h1 g1
 have t:=xam (mD:0<2) (W:k+b<=k+b+1);refine⟨D*E,xdL h0 g0,W,λi=> ?_⟩;have⟨n,d,s⟩:=c i;have a3:=vo s (b:=(E:J)) (k:=b) (by rw[xaG];exact g1);obtain q|⟨j,q⟩:=p i
 refine⟨n*E,?_,W⟩;rw[q,xcu,xdG,<-d];show _=f i*D*(E:qR);grind;have⟨u,b1,b2⟩:=r j;have⟨v,c1,c2⟩:=c e;have w:=vo c2 b2;refine⟨n*E-v*u,?_,W⟩;rw[q,Rat.intCast_sub,xcu,xcu,xdG,<-d,<-b1,<-c1];show _=f i*D*(E:qR)-_;grind
def DZ(h:i<X l:=by lia):(l.map cq).getD i ((I,[]),[])=cq (wU l i):=by unfold wU;simp[UV,xbX,xab h]
def Nq{v:qR}(h:i<X l):wU (l.set i v)=upq (wU l) i v:=by funext j;unfold wU upq;by_cases e:j=i;subst e;simp[UV,h];rw[ir e];simp[UV,xeW<|Ne.symm e]
def aO(h:X l<=i:=by lia):wU l i=0:=by unfold wU;simp[UV,xbn h]
def Dj(h:i<k):wU (l.take k) i=wU l i:=by unfold wU;simp[UV,xbD,h]
def be{n:K}(h:X l<=n)(t:qR):vd l t=yE n (wU l) t:=(Yj h (λi hi=>aO hi) t).symm
def Ht.hs{k i:K}{l:N qR}(h:Ht k l)(c:k<=256000):Aq (wU l i):=(sF.hx h i).hs c
theorem Ht.take{k m:K}{l:N qR}(h:Ht k l):Ht k (l.take m):=by have⟨D,h0,h1,c⟩:=h;refine⟨D,h0,h1,λi=> ?_⟩;by_cases e:i<m;rw[Dj e];exact c i;rw[aO<|by rw[xar];lia];exact⟨0,by grind,xdZ _⟩
def Fw(d:K)(q:N qR):Prop:=X q<=d/\(X q≠0->wU q (X q-1)≠0)
def Fw.ext{d:K}{p q:N qR}(hp:Fw d p)(c:Fw d q)(h:∀i,i<d->wU p i=wU q i):p=q:=by
 have hl:X p=X q:=by
  rcases xfy (X p) (X q) with e|e|e
  exact wS ((h _ (by have:=c.1;lia)).symm.trans<|aO)<|c.2 W
  exact e;exact wS ((h _ (by have:=hp.1;lia)).trans<|aO)<|hp.2 W
 refine xed hl λi h1 m=> ?_;have:=h i (by have:=hp.1;lia);unfold wU at this;simpa[UV,xab h1,xab m]using this
def Fw.inj{d:K}{β:K->qR}{p q:N qR}(c:β d=1)(hp:Fw d p)(m:Fw d q)(h:jZ (yE (d+1) β) (vd p) (vd q)):p=q:=by have⟨Q,k,e⟩:=h;exact hp.ext m<|jZ.inj c ⟨Q,k,λt=>by rw[<-be hp.1,<-be m.1];exact e t⟩
def Fw.nil(d:K):Fw d []:=⟨xae _,λh=>wS O h⟩
def zbC(t:qR):vd [] t=0:=O
structure Fld(r:N M×N Qr)(d b:K)(β:K->qR):Prop where
 len:r.2.length=d+1
 at_:∀i,i<=d->r.2.getD i ((I,[]),[])=cq (β i)
 one:β d=1
 ht:sF b β
 d1:1<=d
 d2:d<=16
 b2:b<=700
theorem gP{β g:K->qR}{c:qR}{e:K}(h0:∀i,i<e->g i=0):∀s,(∀i,i<s->g (e+i)=c*β i)->∀t,yE (e+s) g t=c*(t^e*yE s β t)
 |0,_,t=>by show yE e g t=c*(t^e*0);rw[Rat.mul_zero,Rat.mul_zero];exact X4 λi hi=>by rw[h0 i hi,xeR]
 |s+1,h,t=>by
  show yE (e+s) g t+g (e+s)*t^(e+s)=c*(t^e*(yE s β t+β s*t^s));rw[gP h0 s (λi hi=>h i W) t,h s W,UR];grind
end
end Go.Proofs.YtoegnnjcmlghhaaGreat
