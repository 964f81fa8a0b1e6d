/- What a proof needs: rules of walking, mirrors of functions and their plain laws. No condition. -/
import Derived.Test.YtoegnnjcmlghhaaGreatZn5
set_option linter.all false
namespace Go.Proofs.YtoegnnjcmlghhaaGreat
open Bool renaming false->I,true->qR
open Go renaming Act->QR,Exit->lm
open Go.Proofs.YtoegnnjcmlghhaaGreat renaming bd->G,za->Y,Zr->U,nm->B,ze->F,iq->E,nv->A,zf->S,ir->P
open List renaming length->X,length->A2
open Nat renaming beq->Q
open Option renaming some->Z
open _root_ renaming rfl->O,List->N,Int->J,Nat->K,Option->V,List->wF,Int->wN,Nat->wP,Option->wS,absurd->kW,trivial->ul,Rat->uP,funext->Z0,True->Ws,False->UT
open Int renaming add_emod->xeq,mul_comm->xbB,ofNat_dvd_left->xfm,tdiv->xdC,tmod->xcG,zero_ediv->xet,zero_emod->xar
open List renaming drop->xdT,drop_eq_getElem_cons->xca,ext_getElem->xdR,length_range->xeC,map_congr_left->xch,mem_iff_getElem->xbZ,pairwise_iff_getElem->xcY,range->xaL,range_succ->xdm,replicate->So,take->xdH,take_add_one->xeZ,take_append_drop->xbK,take_of_length_le->xaY
open Nat renaming add_mul->xbl,div_add_mod->xbt,div_div_eq_div_mul->xaD,gcd->xdx,gcd_comm->xdJ,lt_of_lt_of_le->xac,mod_eq_of_lt->xap,mul_add->xcm,mul_assoc->xbj,mul_comm->xaO,mul_left_comm->xfx,pow_add->xbd,pow_le_pow_right->xai,pow_mul->xbM,pow_succ->xbe,strongRecOn->xdG
open Rat renaming divInt->xfZ
def xaG:=@Int.dvd_of_emod_eq_zero
def xaH:=@Int.natAbs_natCast
def xaJ:=@Int.emod_eq_of_lt
def xaN:=@Int.emod_eq_emod_iff_emod_sub_eq_zero
def xaT:=@Int.emod_emod
def xax:=@Int.emod_eq_zero_of_dvd
def xaz:=@Int.mul_zero
def xbC:=@Int.mul_le_mul_of_nonneg_right
def xba:=@Int.zero_mul
def xbh:=@Rat.intCast_mul
def xbv:=@Int.dvd_trans
def xcB:=@Int.mul_nonneg
def xcE:=@Int.emod_emod_of_dvd
def xcN:=@Int.emod_nonneg
def xcO:=@Int.zero_add
def xcP:=@Int.dvd_mul_left
def xcU:=@Int.mul_one
def xcc:=@Int.add_zero
def xcd:=@Int.dvd_mul_right
def xcj:=@Int.mul_emod
def xck:=@Int.pow_zero
def xcq:=@Int.natAbs_dvd_natAbs
def xcz:=@Int.mul_ne_zero
def xdA:=@Int.dvd_sub
def xdI:=@Int.dvd_zero
def xdK:=@Int.le_of_lt
def xdN:=@Int.emod_lt_of_pos
def xdZ:=@Nat.gcd_dvd_right
def xdc:=@Int.mul_assoc
def xdh:=@Int.one_mul
def xdk:=@Int.sub_zero
def xdq:=@Int.natCast_dvd_natCast
def xdr:=@Rat.natCast_inj
def xds:=@Rat.natCast_mul
def xdu:=@List.pairwise_append
def xeF:=@Rat.zero_mul
def xeT:=@Nat.lt_trans
def xeU:=@Int.mul_eq_zero
def xer:=@Int.dvd_refl
def xes:=@Int.sub_self
def xfJ:=@Nat.gcd_dvd_left
def xfU:=@Int.mul_dvd_mul
def xfV:=@Int.le_refl
def xfg:=@Rat.add_zero
def xfl:=@Int.natCast_add
def xfn:=@Rat.intCast_add
def xfy:=@Int.mul_add
def xfz:=@Nat.lt_trichotomy
def zau{fu u w v1 v0:K}(h1:9223372036854775808<=v1)(i:v1<18446744073709551616)(h0:v0<18446744073709551616)(e:u<v1*18446744073709551616+v0)(j:w<18446744073709551616)(b:u/v1<18446744073709551616)(k:10<fu):
 zg (UG fu w v1 v0) fu (u/v1,u%v1)=Z ((u*18446744073709551616+w)/(v1*18446744073709551616+v0)):=by
 have hv:0<v1*18446744073709551616+v0:=W
 refine zC (λs:K×K=>∃q r,s=(q,r)/\q<18446744073709551616/\r<18446744073709551616/\q*v1+r=u/\(u*18446744073709551616+w)/(v1*18446744073709551616+v0)<=q) (λs=>2-s.2/9223372036854775808) _ ?_ _ _ ⟨_,_,O,b,?_,?_,?_⟩ (by show 2-u%v1/9223372036854775808<fu;lia);rintro s L ⟨q,r,rfl,b,l,c,hc⟩ f;have m:q*v0<18446744073709551616*18446744073709551616:=xcf b h0;have a:∀(hd:18446744073709551616*r+w<q*v0),(if((0:K):J)<(((r+v1+0)/18446744073709551616:K):J)then Z ((q+18446744073709551616-1)%18446744073709551616)else L ((q+18446744073709551616-1)%18446744073709551616,(r+v1+0)%18446744073709551616))=Z ((u*18446744073709551616+w)/(v1*18446744073709551616+v0)):=by
  intro hd;have⟨d1,d2,d3⟩:=zeN hv c hd;have g:(q+18446744073709551616-1)%18446744073709551616=q-1:=W
  rw[g];by_cases d:18446744073709551616<=r+v1;rw[yg,<-tE hv d3 d1<|za7 (zaF e h0 d3 d) h0 d];rw[zF];exact f _ ⟨_,_,O,W,W,by rw[(W:(r+v1+0)%18446744073709551616=r+v1)];exact d3,d1⟩ (by show 2-(r+v1+0)%18446744073709551616/9223372036854775808<2-r/9223372036854775808;lia)
 unfold UG;simp only;rw[Y<|VZ b h0];simp only[B];by_cases c1:q*v0/18446744073709551616<r;rw[yg,<-tE hv c hc];rw[zF];by_cases c2:q*v0/18446744073709551616=r;rw[yg];by_cases n:q*v0%18446744073709551616<=w;rw[yg,<-tE hv c hc];rw[zF,y9];exact a W
 rw[zF,y9];exact a W
 have:=xaQ u (W:0<v1);lia;rw[xaO];exact xbt u v1;rw[xcy W];have h:(u*18446744073709551616+w)/(v1*18446744073709551616+v0)*(v1*18446744073709551616+v0)<=u*18446744073709551616+w:=xcL _ _;generalize(u*18446744073709551616+w)/(v1*18446744073709551616+v0)=Q at*
 rw[xcm,<-xbj]at h;generalize Q*v1=A at*
 lia
def FT{fu a b c v1 v0:K}(h1:9223372036854775808<=v1)(d:v1<18446744073709551616)(h0:v0<18446744073709551616)(b1:b<18446744073709551616)(b0:c<18446744073709551616)(e:10<fu):
 Uf fu a b c v1 v0=Z (if v1<=a then 18446744073709551615 else((a*18446744073709551616+b)*18446744073709551616+c)/(v1*18446744073709551616+v0)):=by
 unfold Uf;by_cases h:v1<=a;simp_all;have f:(a*18446744073709551616+b)/v1<18446744073709551616:=by rw[xaZ W];lia
 rw[zF,P h,Y<|VP b1 d W e];simp only;rw[Y<|zau h1 d h0 ?_ b0 f e];lia
def zkQ{u v d q:K}(hd:0<d)(hv:0<v/d)(h:q*v<=u):q<=u/d/(v/d):=by refine(xcy hv).2<|(xcy hd).2 ?_;refine xao ?_ h;rw[xbj];exact xaB _<|xcL v d
def zln{u v d x B:K}(hd:0<d)(a:x*(v/d)<=u/d)(b:x<=B)(hv:B*d<=v):x*v<=u+v:=by
 have h1:x*v<=x*(v/d*d+d):=xaB _ (by have h:=xbt v d;have:=xaQ v hd;rw[xaO d]at h;lia);have c:x*(v/d*d+d)=x*(v/d)*d+x*d:=by rw[xcm,xbj]
 have e:=xao (xag _ a)<|xcL u d;have f:x*d<=B*d:=xag _ b;lia
def zaL{U V D:K}(b:0<D)(d:9223372036854775808*(18446744073709551616*D)<=V)(j:V<18446744073709551616*(18446744073709551616*D))(e:U<V*18446744073709551616){x:K}
 (a:x=if V/D/18446744073709551616<=U/D/18446744073709551616/18446744073709551616 then 18446744073709551615 else U/D/(V/D)):U/V<=x/\x<=U/V+1/\x<18446744073709551616:=by
 have hc:0<V:=W
 have k:U/V<18446744073709551616:=by rw[xaZ hc,xaO];exact e
 have l:9223372036854775808*18446744073709551616<=V/D:=by rw[xcy b,xbj];exact d
 have up:∀{x:K},x*V<=U+V->x<=U/V+1:=λ{x} h=>by
  have:x<=(U+V)/V:=(xcy hc).2 h;simp_all
 by_cases h:V/D/18446744073709551616<=U/D/18446744073709551616/18446744073709551616;rw[E h]at a;subst a;refine⟨W,up ?_,m6⟩;have e1:V/D/18446744073709551616=V/(D*18446744073709551616):=xaD ..;have f:U/D/18446744073709551616/18446744073709551616=U/(D*18446744073709551616*18446744073709551616):=by rw[xaD,xaD,<-xbj]
 rw[e1,f]at h;have g:0<D*18446744073709551616:=W
 have k1:=xcL U<|D*18446744073709551616*18446744073709551616;have k2:V<(V/(D*18446744073709551616)+1)*(D*18446744073709551616):=by have h1:=xbt V<|D*18446744073709551616;have m:=xaQ V g;rw[xbl,xcH,xaO];lia
 have k3:V/(D*18446744073709551616)*(D*18446744073709551616*18446744073709551616)<=U:=xao (xag _ h) k1;rw[<-xbj]at k3;have k4:18446744073709551615*V<=18446744073709551615*((V/(D*18446744073709551616)+1)*(D*18446744073709551616)):=xaB _<|xcJ k2;rw[xbl,xcH]at k4;generalize V/(D*18446744073709551616)*(D*18446744073709551616)=A at*
 lia;rw[P h]at a;have hd:x<=18446744073709551616:=by
  rw[a];have c:U/D/18446744073709551616/18446744073709551616<V/D/18446744073709551616:=xdw h;have h1:U/D<(V/D)*18446744073709551616+18446744073709551616*18446744073709551616:=W
  have:U/D<=18446744073709551616*(V/D)+(V/D):=W
  refine Nat.le_of_lt_succ<|(xaZ W).2 ?_;rw[xcM];lia
 have i:U/V<=x:=by rw[a];exact zkQ b W<|xcL U V
 have c:x<18446744073709551616:=by rw[a,xaZ W];have c:U/D/18446744073709551616/18446744073709551616<V/D/18446744073709551616:=xdw h;lia
 refine⟨i,up<|zln b (B:=18446744073709551616) ?_ hd ?_,c⟩;rw[a];exact xcL _ _;lia
section
variable{fu V k y:wP}{s:wN}{v:wF wP}
def Gr{n P x0:K}{t:N K}(hv:zn v)(a:X v=n)(b:A v=V)(ht:zn t)(o:X t=n+1)(d:A t=P)(hd:0<V)(h1:P/V<=x0)(e:x0<=P/V+1)(f:x0<18446744073709551616)(hn:n<=500000)(p:2000000<fu):
 zg (dJ fu v) fu (s,(n:J),x0,t)=Z (s,(n:J),P/V,t):=by
 have g:V<18446744073709551616^n:=by rw[<-b,<-a];exact vA hv
 refine zC (λq:J×J×K×N K=>∃x,q=(s,(n:J),x,t)/\P/V<=x/\x<=P/V+1/\x<18446744073709551616) (λq=>q.2.2.1-P/V) _ ?_ _ _ ⟨x0,O,h1,e,f⟩ (by show x0-P/V<fu;lia);rintro q L ⟨x,rfl,g1,r,i⟩ j;unfold dJ;simp only;have l:V*x<18446744073709551616^(n+1):=by
  rw[xbe]
  calc V*x<=V*18446744073709551616:=xaB _ W
   _<_:=xbG g m6
 rw[Y<|cB hv i,Y (cD (wA _ _) ht<|by rw[yi];lia),ud,b,a,xap l,d];have u:=xbt P V;have hl:=xaQ P hd;by_cases h:x=P/V;have w:V*x<=P:=by rw[h];lia
 have m:¬(0:J)<kK ((V*x:K):J) (P:J):=by
  rcases xbW (V*x) P with hh|hh
  rw[jb W];decide;rw[ur W];decide
 rw[ir m,h];have c:x=P/V+1:=W
 have hi:P<V*x:=by rw[c,xcm,xdQ];lia
 have z:0<x:=by rw[c];exact Nat.succ_pos _
 have hc:(P:J)<((V*x:K):J):=Int.ofNat_lt.2 hi;rw[qb hc,E m6,F,(W:(x+18446744073709551616-1)%18446744073709551616=x-1)];exact j _ ⟨x-1,O,W,W,W⟩ (by show x-1-P/V<x-P/V;lia)
def ziD{t:N K}{j:K}(ht:zn t)(hl:X t<=k)(a:k<=j):(t++So j 0).take k=vB k (A t):=by refine AE ((ht.append<|zn.replicate _).take _) (wA _ _) (by rw[yi,xan,xau,xaF];lia) ?_;rw[CD<|ht.append<|zn.replicate _,uU,Jc,xdv,xbV,ud]
def zdA{n e a:K}{t:N K}{L:N K×J×N K×N K->wS (N K×N K)}(hv:zn v)(hl:X v=n)(m:A v=V)(hS:2<=n)(hc:9223372036854775808*18446744073709551616^(n-1)<=V)(ht:zn t)(hU:X t=e+n)(hk:k<e)(hb:e+n<=500000)(hf:2000000<fu)(hT:A t=a/18446744073709551616^(k+1)%V*18446744073709551616^(k+1)+a%18446744073709551616^(k+1)):
 ∃o,zn o/\X o=e+n/\A o=a/18446744073709551616^k%V*18446744073709551616^k+a%18446744073709551616^k/\
  V7 fu s v L (v,(k:J),t,So (k+1) 0++vB (e-(k+1)) (a/18446744073709551616^(k+1)/V))=L (v,(k:J)-1,o,So k 0++vB (e-k) (a/18446744073709551616^k/V)):=by
 have hd:V<18446744073709551616^n:=by rw[<-m,<-hl];exact vA hv
 have Q:0<18446744073709551616^k:=xaS m6;have g:0<V:=by have:0<18446744073709551616^(n-1):=xaS m6;lia
 have⟨T,hn⟩:∃T,T=a/18446744073709551616^(k+1)%V:=⟨_,O⟩;have⟨f,u⟩:∃f,f=a/18446744073709551616^k%18446744073709551616:=⟨_,O⟩;have hp:f<18446744073709551616:=by rw[u];exact xaQ _ m6
 have hJ:T<V:=by rw[hn];exact xaQ _ g
 have⟨P,R⟩:∃P,P=T*18446744073709551616+f:=⟨_,O⟩;have S:=tX a k;rw[<-u]at S;have⟨k1,k2⟩:=ny (x:=0) (b:=18446744073709551616) (y:=V) (w1:=a/18446744073709551616^(k+1)) (w0:=f) g m6 hp;rw[xct,xaM,<-S,<-hn,<-R]at k1 k2;have hA:a%18446744073709551616^(k+1)=f*18446744073709551616^k+a%18446744073709551616^k:=by rw[xbe,Nat.mod_mul,u,xaO];lia
 have q:P<V*18446744073709551616:=by have:(T+1)*18446744073709551616<=V*18446744073709551616:=xag _ hJ;lia
 have U:A t=P*18446744073709551616^k+a%18446744073709551616^k:=by rw[hT,<-hn,hA,R,xbl,xbe,xaO<|18446744073709551616^k,xbj];lia
 have hC:=xaQ a Q;have z:A t/18446744073709551616^k=P:=by rw[U,xdW,Nat.add_mul_div_right _ _ Q,xbm hC,xaM]
 have hK:A t%18446744073709551616^k=a%18446744073709551616^k:=by rw[U,xdW,Nat.add_mul_mod_self_right,Nat.mod_mod]
 have⟨D,r⟩:∃D,D=18446744073709551616^(n-2):=⟨_,O⟩;have hL:0<D:=by rw[r];exact xaS m6
 have c:18446744073709551616^(n-1)=18446744073709551616*D:=by rw[r,<-xdV,(W:(n-2).succ=n-1)]
 have en:18446744073709551616^n=18446744073709551616*(18446744073709551616*D):=by rw[<-c,<-xdV,(W:(n-1).succ=n)]
 rw[c]at hc;have B:=hd;rw[en]at B;have C:∀j,t.getD (k+j) 0=P/18446744073709551616^j%18446744073709551616:=λj=>by rw[KH ht,xbd,<-xaD,z]
 have gv:∀j,v.getD j 0=V/18446744073709551616^j%18446744073709551616:=λj=>by rw[KH hv,m]
 have h:P/18446744073709551616^n=P/D/18446744073709551616/18446744073709551616:=by rw[en,xaD,xaD];congr 1;lia
 have i:P/18446744073709551616^(n-1)=P/D/18446744073709551616:=by rw[c,xaD,xaO D]
 have d:V/18446744073709551616^(n-1)=V/D/18446744073709551616:=by rw[c,xaD,xaO D]
 have hM:P/D/18446744073709551616/18446744073709551616<18446744073709551616:=by rw[<-h,xaZ (xaS m6),xaO];exact xeT q<|xbG hd m6
 have hE:V/D/18446744073709551616<18446744073709551616:=by rw[<-d,xaZ (xaS m6),c];exact B
 have hr:9223372036854775808<=V/D/18446744073709551616:=by rw[<-d,xcy (xaS m6),c];exact hc
 have m1:t.getD (k+n) 0=P/D/18446744073709551616/18446744073709551616:=by rw[C,h,xap hM]
 have m2:t.getD (k+n-1) 0=P/D/18446744073709551616%18446744073709551616:=by rw[(W:k+n-1=k+(n-1)),C,i]
 have m3:t.getD (k+n-2) 0=P/D%18446744073709551616:=by rw[(W:k+n-2=k+(n-2)),C,<-r]
 have m4:v.getD (n-1) 0=V/D/18446744073709551616:=by rw[gv,d,xap hE]
 have m5:v.getD (n-2) 0=V/D%18446744073709551616:=by rw[gv,<-r]
 have eg:((P/D/18446744073709551616/18446744073709551616*18446744073709551616+P/D/18446744073709551616%18446744073709551616)*18446744073709551616+P/D%18446744073709551616)/(V/D/18446744073709551616*18446744073709551616+V/D%18446744073709551616)=P/D/(V/D):=by generalize P/D=p;generalize V/D=w;rw[(W:(p/18446744073709551616/18446744073709551616*18446744073709551616+p/18446744073709551616%18446744073709551616)*18446744073709551616+p%18446744073709551616=p),(W:w/18446744073709551616*18446744073709551616+w%18446744073709551616=w)]
 have⟨x0,hF⟩:∃x0,x0=if V/D/18446744073709551616<=P/D/18446744073709551616/18446744073709551616 then 18446744073709551615 else P/D/(V/D):=⟨_,O⟩;have⟨n1,n2,n3⟩:=zaL hL hc B q hF;have hG:zn (xdH (k+n+1-k)<|xdT k t):=(ht.drop k).take _;have E:X (xdH (k+n+1-k)<|xdT k t)=n+1:=by rw[xan,xcn];lia
 have G:P<18446744073709551616^(n+1):=by rw[xbe];exact xeT q<|xbG hd m6
 have hi:A (xdH (k+n+1-k)<|xdT k t)=P:=by rw[CD<|ht.drop k,L9 ht,z,(W:k+n+1-k=n+1),xap G]
 have H:P/V<18446744073709551616:=by rw[xaZ g,xaO];exact q
 have hH:V*(P/V)<=P:=Nat.mul_div_le P V;have hI:A (vB (n+1)<|V*(P/V))=V*(P/V):=by rw[ud,xap W]
 have hN:P-V*(P/V)=P%V:=by have:=xbt P V;lia
 have hQ:=xaQ P g;have hR:X (yM<|P%V)<=n:=(zN _ _).2 W;refine⟨xdH k t++vB (n+1) (P%V)++xdT (k+(n+1)) t,((ht.take _).append<|wA _ _).append<|ht.drop _,?_,?_,?_⟩;rw[xau,xau,xan,yi,xcn];lia;have hz:A (xdT (k+(n+1)) t)=0:=by rw[L9 ht,xbd,<-xaD,z,xbm G]
 have hO:P%V<18446744073709551616^(n+1):=xaI (Nat.mod_le _ _) G;rw[uU,hz,xdv,xbV,uU,CD ht,hK,ud,xap hO,xan,(W:min k (X t)=k),<-k2,xaO];lia;unfold V7;simp only;have c1:(k:J)+(X v:J)=((k+n:K):J):=W
 have c2:((k+n:K):J)-1=((k+n-1:K):J):=W
 have c3:((k+n:K):J)-2=((k+n-2:K):J):=W
 have c4:(X v:J)-1=((n-1:K):J):=W
 have c5:(X v:J)-2=((n-2:K):J):=W
 have c6:((k+n:K):J)+1=((k+n+1:K):J):=W
 rw[yg,c1,zb,yn,F,zb,c2,zb,yn,F,zb,c3,zb,yn,F,c4,zb,yn,F,c5,zb,yn,F];rw[m1,m2,m3,m4,m5,Y (FT hr hE (xaQ _ m6) (xaQ _ m6) (xaQ _ m6) W),eg,<-hF];rw[zb,c6,zb,yH,yH,va ⟨W,W⟩,F,va (by rw[E];simp;lia),F,xbO];rw[hl,Y<|Gr hv hl m hG E hi g n1 n2 n3 W hf];simp only;have c7:(n:J)+1=((n+1:K):J):=W
 rw[zp (by simp;lia),F,zc2,yH,y9,Y<|cB hv H,hl,m,Y (UY hG (wA _ _) W (by rw[yi];lia) (by rw[E,yi];lia)<|by rw[hi,hI];exact hH),hi,hI,hN];rw[c7,zb,yH,y9,F,zb,yH,va m7,F,ziD (zw _) W<|Nm _,zY,F,zb];have M:mz k (X t-k) t (vB (n+1)<|P%V)=xdH k t++vB (n+1) (P%V)++xdT (k+(n+1)) t:=by unfold mz;rw[yi,(W:min (n+1) (X t-k)=n+1),xaY (l:=vB (n+1)<|P%V)<|by rw[yi];exact Nm _]
 rw[M];have e2:e-k=(e-(k+1))+1:=W
 have e3:vB (e-k) (a/18446744073709551616^k/V)=P/V::vB (e-(k+1)) (a/18446744073709551616^(k+1)/V):=by rw[e2,IH,k1,(pF H).1,(pF H).2]
 rw[e3]
theorem zbl(h:0<y):2^(bl y-1)<=y:=by refine xbx λa=> ?_;have h1:=ae a;grind
theorem zkK{n s:K}(a:0<y)(hn:n=X (yM y))(f:s=64-bl ((yM y).getD (n-1) 0)):s<=63/\9223372036854775808*18446744073709551616^(n-1)<=y*2^s/\y*2^s<18446744073709551616^n/\X (yM<|y*2^s)=n:=by
 have hc:=qI a;have c:=O7 a;rw[<-hn]at c;have ht:(yM y).getD (n-1) 0≠0:=by rw[hn];exact zgu a
 have d:=(zw y).getD<|n-1;have⟨b1,_,_⟩:=Sv (y:=(yM y).getD (n-1) 0) W d;have b2:1<=bl ((yM y).getD (n-1) 0):=by rw[dN];lia
 have e1:18446744073709551616^n=2^bl y*2^s:=by rw[<-IZ,<-xbM,<-xbd];grind
 have e:9223372036854775808*18446744073709551616^(n-1)=2^(bl y-1)*2^s:=by rw[<-IZ,<-xbM,<-xbd,(m6:(9223372036854775808:K)=2^63),<-xbd];grind
 have g1:9223372036854775808*18446744073709551616^(n-1)<=y*2^s:=by rw[e];exact xag _<|zbl a
 have b:y*2^s<18446744073709551616^n:=by rw[e1];exact xbG (DS y)<|xaS m6
 refine⟨W,g1,b,xcK ((zN _ _).2 b)<|xbx λh=> ?_⟩;have:=(zN (n-1)<|y*2^s).1 W;have hp:0<18446744073709551616^(n-1):=xaS m6;lia
def rV{a b:N K}(r:zn a)(u:zn b)(hD:X a<=200000)(hE:X b<=200000)(hf:3000000<=fu):
 az fu a b=Z (if A b=0 then([],[],3)else(yM<|A a/A b,yM<|A a%A b,0)):=by
 unfold az;have h1:=xj r;have h2:=xj u;rw[Y (wm r W W),Y<|wm u W W];generalize A a=x at*
 generalize A b=y at*
 by_cases h0:y=0
 subst h0;rw[E O];rfl;have hF:=qI (n:=y) W;rw[zF,Y O,P h0];simp only[xam,Z9];rw[Y<|cD (zw x)<|zw y,zY,zY];by_cases w:x<y;rw[jb W,E m6,Y O];simp only[Xs];rw[Y<|VA<|zw x,zY,xbm w,xap w];rfl;have hv:¬kK (x:J) (y:J)<0:=by
  obtain h|h:=xbW y x
  rw[qb W];decide;rw[ur W];decide
 rw[P hv,Y O];simp only[xam,Z9];have⟨n,hn⟩:∃n,n=X (yM y):=⟨_,O⟩;have hi:=(zw y).getD<|n-1;by_cases hB:n=1
 have R:(yM y).getD 0 0=y:=by rw[VW,xeo,xef,xap];have:=(zN 1 y).1 W;simpa using this
 have S:y<18446744073709551616:=by have:=(zN 1 y).1 W;simpa using this
 rw[yg,show(0:J)=((0:K):J)from O,yn,F,R,Y (Fz (zw x) S W W W),zY];simp only;have T:=xaQ x (W:0<y);rw[Y (xy (gH W) m7<|by simp;lia),AF];have⟨s,z⟩:∃s,s=64-bl ((yM y).getD (n-1) 0):=⟨_,O⟩;have⟨f,v1,B,v3⟩:=zkK W hn z;have⟨V,g⟩:∃V,V=y*2^s:=⟨_,O⟩;have⟨U,e⟩:∃U,U=x*2^s:=⟨_,O⟩;have⟨d,hy⟩:∃d,d=X (yM x):=⟨_,O⟩;have hC:n<=d:=by rw[hn,hy];exact Ku W
 have C:x<18446744073709551616^d:=(zN d x).1 W;have hl:2^s<=9223372036854775808:=by rw[(m6:(9223372036854775808:K)=2^63)];exact xai m6 f
 have hz:U<18446744073709551616^(d+1):=by rw[e,xbe];exact xac (xbG C<|xaS m6)<|xaB _ W
 have hG:X (yM U)<=d+1:=(zN _ _).2 hz;rw[<-g]at v1 B v3;have e1:(((X (yM y):K):J))-1=((n-1:K):J):=W
 rw[zF,e1,zb,yn,F,Y<|kV hi,<-z,Y<|Js<|zw y,zY,<-g];simp only;rw[Y<|Js<|zw x,zY,<-e];simp only;have e2:(((X (yM x):K):J))+1=((d+1:K):J):=W
 have e3:((d+1:K):J)-((X (yM U):K):J)=((d+1-X (yM U):K):J):=W
 rw[e2,zb,e3,zb,yH,y9,F];have⟨t8,hc⟩:∃t8,t8=yM U++So (d+1-X (yM U)) 0:=⟨_,O⟩;have i:zn t8:=by rw[hc];exact(zw U).append<|zn.replicate _
 have a0:X t8=d+1:=by rw[hc,xau,xaF];lia
 have j:A t8=U:=by rw[hc,uU,Jc,xdv,xbV,zY]
 have⟨c,hH⟩:∃c,c=d+1-n:=⟨_,O⟩;have e4:(X t8:J)-((X (yM V):K):J)=(c:J):=W
 rw[<-hc,e4,zb,yH,y9,F,xaF,zb];have D:0<V:=by have:0<18446744073709551616^(n-1):=xaS m6;lia
 have hA:0<18446744073709551616^c:=xaS m6;have G:U<18446744073709551616^c*V:=by
  have k1:18446744073709551616^c*(9223372036854775808*18446744073709551616^(n-1))<=18446744073709551616^c*V:=xaB _ v1;have k2:18446744073709551616^c*(9223372036854775808*18446744073709551616^(n-1))=18446744073709551616^d*9223372036854775808:=by rw[xaO 9223372036854775808,<-xbj,<-xbd];congr 2;lia
  have k3:U<18446744073709551616^d*9223372036854775808:=by rw[e];exact xac (xbG C<|xaS m6)<|xaB _ hl
  lia
 have H:U/18446744073709551616^c<V:=by rw[xaZ hA,xaO];exact G
 have l:∃t,zn t/\X t=c+n/\A t=U%V/\zg (V7 fu (s:J)<|yM V) fu (yM V,(c:J)-1,t8,So c 0)=Z (t,vB c<|U/V):=by
  refine⟨vB (c+n)<|U%V,wA _ _,yi _ _,?_,?_⟩;rw[ud,xap];have h5:=xaQ U D;exact xac (xeT h5 B)<|xai m6 W
  refine zC (λq:N K×J×N K×N K=>∃(m:K) (t:N K),m<=c/\zn t/\X t=c+n/\A t=U/18446744073709551616^m%V*18446744073709551616^m+U%18446744073709551616^m/\q=(yM V,(m:J)-1,t,So m 0++vB (c-m) (U/18446744073709551616^m/V))) (λq=>(q.2.1+1).toNat) _ ?_ _ _ ⟨c,t8,Nm _,i,W,?_,?_⟩ (by show((c:J)-1+1).toNat<fu;lia);rintro q L ⟨m,t,T,ht,M,hd,rfl⟩ ih
  cases m with
  |zero=>
   unfold V7;simp only;rw[zF];rw[xeo,xdQ,Nat.mod_one,xbV,xef]at hd;have:=iL ht;rw[M,hd]at this;rw[this];simp
  |succ m=>
   have⟨t',g1,Q,o,p⟩:=zdA (fu:=fu) (k:=m) (s:=(s:J)) (L:=L) (zw V) v3 (zY V) W v1 ht M W W W hd;rw[(W:((m+1:K):J)-1=(m:J)),p];exact ih _ ⟨m,t',W,g1,Q,o,O⟩ (by show((m:J)-1+1).toNat<(((m+1:K):J)-1+1).toNat;lia)
  rw[j,xap H,xaO];exact(xbt U _).symm;rw[xbm H,xcx];simp[vB]
 have⟨t,g1,Q,o,p⟩:=l;rw[Y p];simp only;have he:U/V<18446744073709551616^c:=by rw[xaZ D];exact G
 have hp:0<2^s:=xaS m6;rw[Y (xy (wA _ _) (by rw[yi];lia)<|by rw[yi];lia),ud,xap he,Y (sF g1 W W W),o];rw[e,g,xfF _ _ hp,xep,Nat.mul_div_cancel _ hp]
end
section
variable{i d0 fu U y j r:wP}
theorem Nq{x t:N K}{c:K}(ht:X t=i)(h:nw t+4294967296^i*c=2*nw (x.take i)+d0):
 nw (t++[(x.getD i 0*2+c)%4294967296])+4294967296^(i+1)*((x.getD i 0*2+c)/4294967296)=2*nw (x.take<|i+1)+d0:=by
 rw[CF,uv];have:=xbt (x.getD i 0*2+c) 4294967296;grind
def zkO{x t1 t2:N K}(f:xq x)(hl:X x<=1000000)(hd:d0<=1)(u:2000000<fu):
 ∃t d,zg (UC fu x) fu (t1,t2,[],d0,0)=Z (t1,t2,t,d)/\xq (t++[d])/\X t=X x/\nw (t++[d])=2*nw x+d0:=by
 have v:=Q1 f;have⟨T,b⟩:∃T,T=uA (X x+1) (2*nw x+d0):=⟨_,O⟩;have m:2*nw x+d0<4294967296^(X x+1):=by rw[xbe];lia
 have n:X T=X x+1:=by rw[b,yZ]
 have g:nw T=2*nw x+d0:=by rw[b,XB,xap m]
 have h:xq T:=by rw[b];exact jk _ _
 have k:T=T.take (X x)++[T.getD (X x) 0]:=by
  have e:=(xbK (X x) T).symm;have a:T.drop (X x)=[T.getD (X x) 0]:=by rw[xca W,xbU W,UV,xaa W];rfl
  rw[a]at e;exact e
 refine⟨T.take (X x),T.getD (X x) 0,?_,by rw[<-k];exact h,by rw[xan];lia,by rw[<-k];exact g⟩;refine zC (λs:N K×N K×N K×K×J=>∃(t:N K) (c i:K),s=(t1,t2,t,c,(i:J))/\i<=X x/\X t=i/\xq t/\c<=1/\nw t+4294967296^i*c=2*nw (x.take i)+d0) (λs=>X x-s.2.2.2.2.toNat) _ ?_ _ _ ⟨[],d0,0,O,W,O,xq.nil,hd,by simp[nw]⟩ (by show X x-0<fu;lia);rintro s L ⟨t,c,i,rfl,hi,ht,l,hc,hv⟩ o;unfold UC;simp only;by_cases h1:i<X x;have b1:=f.getD i;have a:(x.getD i 0*2%18446744073709551616+c)%18446744073709551616=x.getD i 0*2+c:=W
 have p:x.getD i 0/2^(min (((31:K)):J).toNat 64)=(x.getD i 0*2+c)/4294967296:=by rw[(m6:min (((31:K)):J).toNat 64=31)];lia
 rw[yg,zp h1,F,F,F,a,F,FQ,va (by simp[ht];lia),F,zp h1,F,F,p,zb];exact o _ ⟨_,_,i+1,O,W,by simp[ht],l.append<|xq.cons (xaQ _ m6) xq.nil,W,Nq ht hv⟩ (by show X x-((i:J)+1).toNat<X x-(i:J).toNat;lia);rw[zF];obtain rfl:i=X x:=W
 rw[xbQ]at hv;have q:xq (t++[c]):=l.append<|xq.cons W xq.nil;have:T=t++[c]:=by refine CU h q (by simp[ht,n]) ?_;rw[g,CF,ht,hv]
 have e1:T.take (X x)=t:=by rw[this,<-ht];simp
 have a:T.getD (X x) 0=c:=by rw[this,<-ht];simp[UV]
 rw[e1,a]
theorem znI(b:0<y):(y<=2*(U/2^(i+1)%y)+U/2^i%2->U/2^i/y=2*(U/2^(i+1)/y)+1/\U/2^i%y=2*(U/2^(i+1)%y)+U/2^i%2-y)/\(2*(U/2^(i+1)%y)+U/2^i%2<y->U/2^i/y=2*(U/2^(i+1)/y)/\U/2^i%y=2*(U/2^(i+1)%y)+U/2^i%2):=by
 have d:U/2^(i+1)=U/2^i/2:=by rw[xbe,xaD]
 rw[d];generalize U/2^i=V;have h1:=xbt (V/2) y;have e:=xaQ (V/2) b;generalize V/2/y=q at*
 generalize V/2%y=r at*
 have a:∀Q R,V=y*Q+R->R<y->V/y=Q/\V%y=R:=λQ R h c=>by
  rw[h];exact⟨by rw[Nat.mul_add_div b,xbm c,xbV],by rw[Nat.mul_add_mod,xap c]⟩
 refine⟨λh=>a _ _ ?_ W,λh=>a _ _ ?_ W⟩;grind;grind
def zsW(x:K):x &&& 1=x%2:=Nat.and_two_pow_sub_one_eq_mod x 1
def zd0(a:r<32):U/4294967296^j%4294967296/2^r%2=U/2^(32*j+r)%2:=by rw[xbd,xbM,(m6:2^32=4294967296),<-xaD];rw[show 4294967296=2^r*2^(32-r)by rw[<-xbd,(W:r+(32-r)=32)],Nat.mod_mul_right_div_self,show 2^(32-r)=2*2^(31-r)by rw[<-xdV,(W:(31-r).succ=32-r)],Nat.mod_mul_right_mod]
def znE{Q:K}(d:r<32):(Q*2^(32*j+r+1)/4294967296^j%4294967296)|||1*2^r%18446744073709551616=Q*2^(32*j+r+1)/4294967296^j%4294967296+2^r/\Q*2^(32*j+r+1)/4294967296^j%4294967296+2^r<4294967296:=by
 have e1:Q*2^(32*j+r+1)/4294967296^j=Q*2^(r+1):=by rw[xcQ,xbd,xbM,(m6:(2:K)^32=4294967296),xfx,Nat.mul_div_cancel_left _<|xaS m6]
 have b:Q*2^(r+1)%4294967296=Q%2^(31-r)*2^(r+1):=by rw[show(4294967296:K)=2^(31-r)*2^(r+1)by rw[<-xbd,(W:31-r+(r+1)=32)],xep]
 have h1:2^r<2^(r+1):=xez m6 W;have e:2^r<=2147483648:=by rw[(m6:(2147483648:K)=2^31)];exact xai m6 W
 rw[e1,b,xcH,xap (a:=2^r) W,Ma h1];refine⟨O,?_⟩;have c:(Q%2^(31-r)+1)*2^(r+1)<=2^(31-r)*2^(r+1):=xag _ (xaQ _<|xaS m6);rw[<-xbd,(W:31-r+(r+1)=32),xbl,xcH]at c;lia
def zfS(k:0<y)(hu:X (VN U)<=80000)(ht:X (VN y)<=80000)(hf:3000000<=fu):
 zg (UX fu (VN y)<|VN U) fu ([],32*((X (VN U):K):J)-1,So (X (VN U)) 0)=Z (VN<|U%y,uA (X (VN U))<|U/y):=by
 have⟨n,hn⟩:∃n,n=X (VN U):=⟨_,O⟩;have c:U<2^(32*n):=by rw[xbM,(m6:(2:K)^32=4294967296)];exact(vn _ _).1 W
 rw[<-hn];refine zC (λs:N K×J×N K=>∃(m:K),m<=32*n/\s=(VN<|U/2^m%y,(m:J)-1,uA n<|U/2^m/y*2^m)) (λs=>(s.2.1+1).toNat) _ ?_ _ _ ⟨32*n,Nm _,?_⟩ (by show(32*(n:J)-1+1).toNat<fu;lia);rintro s L ⟨m,hm,rfl⟩ l;unfold UX;simp only
 cases m with
 |zero=>rw[zF,xeo,xef,xdQ]
 |succ i=>
  have⟨j,z⟩:∃j,j=i/32:=⟨_,O⟩;have⟨r,A⟩:∃r,r=i%32:=⟨_,O⟩;have hd:r<32:=W
  have hi:i=32*j+r:=W
  have B:((i+1:K):J)-1=(i:J):=W
  have C:xdC (i:J) (32:J)=(j:J):=by rw[z];rfl
  have D:xcG (i:J) (32:J)=(r:J):=by rw[A];rfl
  have b:j<n:=W
  have a:min (r:J).toNat 64=r:=W
  have hv:(VN U).getD j 0=U/4294967296^j%4294967296:=by rw[b8<|qQ U,jh]
  have G:(VN U).getD j 0/2^r%2=U/2^i%2:=by rw[hv,zd0 hd,<-hi]
  have o:=xaQ (U/2^(i+1)) k;have⟨R,e⟩:∃R,R=U/2^(i+1)%y:=⟨_,O⟩;rw[<-e]at o;have H:y<4294967296^X (VN y):=(vn _ _).1<|Nm _;have hB:X (VN R)<=80000:=xao ((vn (X (VN y)) R).2<|xeT o H) ht;have hl:X (VN<|2*R+U/2^i%2)<=1000000:=by refine xao ((vn (X (VN y)+1) _).2 ?_) (W:X (VN y)+1<=1000000);rw[xbe];lia
  have⟨t,d,g1,M,f,p⟩:=zkO (fu:=fu) (d0:=U/2^i%2) (t1:=VN y) (t2:=VN U) (qQ R) W W W;rw[jh]at p;have⟨q,u⟩:=znI (U:=U) (i:=i) k;rw[<-e]at q u;have S:U/2^(i+1)/y*2^(i+1)<4294967296^n:=by rw[show(4294967296:K)^n=2^(32*n)by rw[xbM,(m6:(2:K)^32=4294967296)]];refine xaI ?_ c;exact xao (xag _<|xcI _ _)<|xcL _ _
  have v:2*(U/2^(i+1)/y)*2^i=U/2^(i+1)/y*2^(i+1):=by rw[xbe,xaO<|2^i,<-xbj,xaO 2]
  rw[B,<-e,yg,va m6,C,zb,yn,F,va m6,D,F,y9,F,a,F,zsW,G];rw[Y g1];simp only;rw[va (by simp[f];lia),F,Y (Kh M (by simp[f];lia)<|by simp[f];lia),p,Y (J1 (fu:=fu) (qQ _) (qQ y) ?_ W W),jh,jh];by_cases hc:y<=2*R+U/2^i%2;have⟨w1,g⟩:=q hc;have T:(0:J)<=kK ((2*R+U/2^i%2:K):J) (y:J):=by
   rcases xbW y (2*R+U/2^i%2)with h|h
   rw[qb<|Int.ofNat_lt.2 h];decide;rw[ur<|by rw[xcK h hc]];decide
  have⟨o1,o2⟩:=znE (Q:=U/2^(i+1)/y) (j:=j) hd;rw[<-hi]at o1 o2;have w:(uA n<|U/2^(i+1)/y*2^(i+1)).getD j 0=U/2^(i+1)/y*2^(i+1)/4294967296^j%4294967296:=Lo _ _ _ b;have hp:(uA n<|U/2^(i+1)/y*2^(i+1)).set j (U/2^(i+1)/y*2^(i+1)/4294967296^j%4294967296+2^r)=uA n (U/2^i/y*2^i):=by
   refine CU ((jk _ _).set j o2) (jk _ _) (by rw[xaP,yZ,yZ]) ?_;have h1:=NH (uA n<|U/2^(i+1)/y*2^(i+1)) j (U/2^(i+1)/y*2^(i+1)/4294967296^j%4294967296+2^r) (by rw[yZ];exact b);rw[w,XB,xap S,xcm]at h1;have h2:4294967296^j*2^r=2^i:=by rw[hi,xbd,xbM,(m6:(2:K)^32=4294967296)]
   have V:U/2^i/y*2^i=U/2^(i+1)/y*2^(i+1)+2^i:=by rw[w1,xbl,xcH,v]
   have h4:U/2^i/y*2^i<4294967296^n:=by rw[show(4294967296:K)^n=2^(32*n)by rw[xbM,(m6:(2:K)^32=4294967296)]];refine xaI ?_ c;exact xao (xag _<|xcI _ _)<|xcL _ _
   rw[XB,xap h4,V];lia
  rw[E T,Y O,E O,Y (cV (fu:=fu) (qQ _) (qQ y) hl W<|by rw[jh,jh];exact hc),jh,jh];rw[va m6,zb,va m6,zb,zp (by rw[yZ];exact b),F,va m6,F,y9,a,F,F,w,o1,zp (by rw[yZ];exact b),F,hp,zb,<-g];exact l _ ⟨i,W,O⟩ (by show((i:J)-1+1).toNat<(((i+1:K):J)-1+1).toNat;lia);have x:=xdw hc;have⟨w1,g⟩:=u x;rw[jb<|Int.ofNat_lt.2 x,P m6,Y O];simp only[xam,Z9];rw[zb,<-g,<-v,<-w1];exact l _ ⟨i,W,O⟩ (by show((i:J)-1+1).toNat<(((i+1:K):J)-1+1).toNat;lia);exact hl
 rw[xbm c,Nat.zero_mod,Nat.zero_div,xct,tT,dW,(W:(32:J)*(n:J)-1=((32*n:K):J)-1)]
def E9{a b:N K}(c:zn a)(d:zn b)(hd:X a<=40000)(h:X b<=40000)(e:3000000<=fu):
 KU fu a b=Z (if A b=0 then([],[],3)else(yM<|A a/A b,yM<|A a%A b,0)):=by
 unfold KU;have l1:=Qe c;have k:=Qe d;have f:=xY (fu:=fu) c;rw[Y<|xY d];generalize A a=U at*
 generalize A b=y at*
 by_cases h0:y=0
 subst h0;rfl;have l:=Rq (n:=y) W;have hc:U<4294967296^X (VN U):=(vn _ _).1<|Nm _;have hi:X (VN<|U%y)<=X (VN y):=(vn _ _).2<|xeT (xaQ _ W)<|(vn _ _).1<|Nm _;rw[zF,P h0,Y f,yH,y9,F,zb,zb,Y<|zfS W W W e];simp only;have g:U/y<4294967296^X (VN U):=xaI (xcI _ _) hc;rw[Y (kf (jk _ _) (by rw[yZ];lia)<|by rw[yZ];lia),XB,xap g,Y (kf (qQ _) W W),jh]
end
section
variable{k fu:wP}{y:wN}{a b m:Zr}
def eJ(z:U):Prop:=zn z.2/\X z.2<=40000
theorem eJ.ok{z:U}(h:eJ z):lF z:=⟨h.1,xao h.2 m6⟩
def Bz.okS{x:J}(h:Bz k x)(c:k<=40000):eJ (yK x):=⟨yJ x,xao ((zN _ _).2 h) c⟩
def Bz.len{x:J}(h:Bz k x):(yK x).2.length<=k:=(zN _ _).2 h
theorem zc6{x q r:J}(c:y≠0)(h:y*q+r=x)(h0:0<=r:=by lia)(h1:r<(y.natAbs:J):=by lia):x/y=q/\x%y=r:=by grind [Int.ediv_emod_unique',Int.ediv_emod_unique]
def LH(x y:J):U×U×J:=if y=0 then((I,[]),(I,[]),3)else(yK<|x/y,yK<|x%y,0)
theorem RZ{q0 r0:K}(n:A b.2≠0)(j:q0=A a.2/A b.2)(f:r0=A a.2%A b.2):
 (¬(a.1=qR/\0<r0)->zv a/zv b=(if(!(a.1==b.1))=qR then-(q0:J)else(q0:J))/\zv a%zv b=(r0:J))/\
 (a.1=qR/\0<r0->zv a/zv b=(if(!(a.1==b.1))=qR then-((q0+1:K):J)else((q0+1:K):J))/\zv a%zv b=((A b.2-r0:K):J)):=by
 have hd:=xbt (A a.2)<|A b.2;have l:=xaQ (A a.2) (W:0<A b.2);rw[<-j,<-f]at hd;rw[<-f]at l;have g:zv b≠0:=by have:=vW b;lia
 have o:=vW b;have hc:((A b.2:K):J)*(q0:J)+(r0:J)=((A a.2:K):J):=by rw[<-hd];simp
 refine⟨λh=> ?_,λh=> ?_⟩;refine zc6 g ?_;rcases wh a with⟨h1,e⟩|⟨h1,e⟩<;>rcases wh b with⟨c,d⟩|⟨c,d⟩<;>rw[h1,c,e,d]
 grind;grind;rw[E m6,Int.neg_mul_neg];lia;rw[P m6];lia;refine zc6 g ?_;have⟨h1,hp⟩:=h;have e1:((A b.2-r0:K):J)=((A b.2:K):J)-(r0:J):=W
 have i:((A b.2:K):J)*(((q0+1:K)):J)=((A b.2:K):J)*(q0:J)+((A b.2:K):J):=by rw[xfl,xfy];simp
 rcases wh a with⟨_,e⟩|⟨h,_⟩
 rcases wh b with⟨c,d⟩|⟨c,d⟩<;>rw[h1,c,e,d,e1]
 rw[P m6,Int.neg_mul,i];lia;rw[E m6,Int.mul_neg,i];lia;rw[h1]at h;cases h
theorem Cz:zv b=0↔A b.2=0:=by have:=vW b;lia
theorem UK(d:eJ a)(c:eJ b)(j:3000000<=fu):Wv fu a b=Z (LH (zv a)<|zv b):=by
 unfold Wv LH;have l:=d.2;have i:=c.2;rw[Y<|rV d.1 c.1 W W j];by_cases h0:A b.2=0
 rw[E h0,E<|Cz.2 h0];rfl;rw[P h0,P<|λh=>h0<|Cz.1 h];simp only[Xs];have⟨q0,e⟩:∃q0,q0=A a.2/A b.2:=⟨_,O⟩;have⟨r0,f⟩:∃r0,r0=A a.2%A b.2:=⟨_,O⟩;have n:X (yM q0)<=40000:=by refine xao ((zN (X a.2) q0).2 ?_) l;rw[e];exact xaI (xcI _ _)<|vA d.1
 have hd:r0<A b.2:=by rw[f];exact xaQ _ W
 have q:X (yM r0)<=40000:=xao ((zN (X b.2) r0).2<|xeT hd<|vA c.1) i;have o:X (yM<|A b.2-r0)<=40000:=xao ((zN (X b.2) _).2<|xaI (xff _ _)<|vA c.1) i;have⟨k1,k2⟩:=RZ h0 e f;rw[<-e,<-f];have p:X (yM<|q0+1)<=40001:=Zm (y:=1) n m6;by_cases hc:a.1=qR/\0<r0;have⟨w1,g⟩:=k2 hc;have:=qI hc.2;rw[E hc.1,yg,Y (v:=(yM<|q0+1,yM<|A b.2-r0))];rw[w1,g];simp only;rw[F,Y (yQ (zw _) W W),Y (yQ (zw _) W W),zY,zY];rfl;rw[Y (Yj (zw _) (gH m6) W m7<|by simp;lia),zY,AF,Y (Jj c.1 (zw _) W W W),zY,zF];have⟨w1,g⟩:=k1 hc;rw[Y (v:=(yM q0,yM r0))];rw[w1,g];simp only;rw[F,Y (yQ (zw _) W W),Y (yQ (zw _) W W),zY,zY];rfl;by_cases h1:a.1=qR;have:r0=0:=xfs λhp=>hc ⟨h1,hp⟩;subst this;rw[E h1,P m6];rw[P h1]
def eG(e:eJ a)(c:eJ b)(d:3000000<=fu):VD fu a b=Z (LH (zv a)<|zv b):=by
 unfold VD LH;have l:=e.2;have j:=c.2;rw[Y<|E9 e.1 c.1 W W d];by_cases h0:A b.2=0
 rw[E h0,E<|Cz.2 h0];rfl;rw[P h0,P<|λh=>h0<|Cz.1 h];simp only[Xs];have⟨q0,f⟩:∃q0,q0=A a.2/A b.2:=⟨_,O⟩;have⟨r0,g⟩:∃r0,r0=A a.2%A b.2:=⟨_,O⟩;have n:X (yM q0)<=40000:=by refine xao ((zN (X a.2) q0).2 ?_) l;rw[f];exact xaI (xcI _ _)<|vA e.1
 have hd:r0<A b.2:=by rw[g];exact xaQ _ W
 have q:X (yM r0)<=40000:=xao ((zN (X b.2) r0).2<|xeT hd<|vA c.1) j;have o:X (yM<|A b.2-r0)<=40000:=xao ((zN (X b.2) _).2<|xaI (xff _ _)<|vA c.1) j;have⟨k1,k2⟩:=RZ h0 f g;rw[<-f,<-g];have p:X (yM<|q0+1)<=40001:=Zm (y:=1) n m6;by_cases hc:a.1=qR/\0<r0;have⟨w1,i⟩:=k2 hc;have:=qI hc.2;rw[E hc.1,yg,Y (v:=(yM<|q0+1,yM<|A b.2-r0))];rw[w1,i];simp only;rw[F,Y<|xl (zw _) (by show(yM _).length<=_;lia) d,Y<|xl (zw _) (by show(yM _).length<=_;lia) d,EK,EK];rfl;rw[Y (gG (zw _) (gH m6) W m7 W),zY,AF,Y (Kt c.1 (zw _) W W W),zY,zF];have⟨w1,i⟩:=k1 hc;rw[Y (v:=(yM q0,yM r0))];rw[w1,i];simp only;rw[F,Y<|xl (zw _) (by show(yM _).length<=_;lia) d,Y<|xl (zw _) (by show(yM _).length<=_;lia) d,EK,EK];rfl;by_cases h1:a.1=qR;have:r0=0:=xfs λhp=>hc ⟨h1,hp⟩;subst this;rw[E h1,P m6];rw[P h1]
def IF(x m:J):U×J:=if m<=0 then((I,[]),1)else(yK<|x%m,0)
def near(x m:J):J:=if m<x%m+x%m then x%m-m else x%m
def zeS(x m:J):U×J:=if m<=0 then((I,[]),1)else(yK<|near x m,0)
theorem Bz.emod{x m:J}(c:Bz k m)(h0:0<m):Bz k (x%m):=by have h1:=xcN x (W:m≠0);have d:=xdN x h0;exact c.le W
theorem Bz.near{k:K}{x m:J}(c:Bz k m)(h0:0<m):Bz k (near x m):=by have h1:=xcN x (W:m≠0);have d:=xdN x h0;refine c.le ?_;unfold Go.Proofs.YtoegnnjcmlghhaaGreat.near;lia
theorem Lu{x:J}:kK x 0<=0↔x<=0:=by grind [jb,ur,qb]
theorem PF{x:J}:0<kK x y↔y<x:=by grind [jb,ur,qb]
theorem xU{x:J}:kK x y=0↔x=y:=by grind [jb,ur,qb]
theorem YN(c:eJ a)(d:eJ m)(e:3000000<=fu):jD fu a m=Z (IF (zv a)<|zv m):=by grind [jD,LH,IF,Y,xi,eJ.ok,Lu,UK]
def Bx(g:eJ a)(d:eJ m)(f:3000000<=fu):XD fu a m=Z (zeS (zv a)<|zv m):=by
 unfold XD zeS;rw[Y<|YN g d f];unfold IF;by_cases h:zv m<=0
 simp_all;have c:Bz 40000 (zv a%zv m):=Bz.emod ((Bz.of d.1).mono d.2) W;rw[P h,P h];simp only[Xs];have hl:=d.2;have i:=(c.add c).ok W;have j:=(c.add c).len;rw[Y<|qH (c.okS W).ok (c.okS W).ok f,zt,Y<|YE i d.ok f,zt];unfold near;by_cases hc:zv m<zv a%zv m+zv a%zv m;rw[E<|PF.2 hc,E hc,Y<|qx (c.okS W).ok d.ok f,zt];rw[P<|λe=>hc<|PF.1 e,P hc]
end
section
variable{f g:wP->wN}{j m k fu:wP}{p:wF Zr}
def zi(n:K)(f:K->J):N U:=(xaL n).map λk=>yK<|f k
def cf(p:N U)(k:K):J:=zv<|p.getD k (I,[])
def dg(f:K->J):K->K
 |0=>0
 |n+1=>if f n=0 then dg f n else n+1
def w8(n:K)(f:K->J):N U:=zi (dg f n) f
def xf(k:K)(p:N U):Prop:=∀z∈p,zn z.2/\X z.2<=k
def XA(f:K->J)(j:K)(v:J):K->J:=λk=>if k=j then v else f k
theorem Qi(p:N U)(k:K):zv (p.getD k (I,[]))=cf p k:=O
theorem yA(n:K)(f:K->J):X (zi n f)=n:=by unfold zi;simp
theorem YR{n:K}(h:j<n):(zi n f).getD j (I,[])=yK (f j):=by simp_all [zi]
theorem xe{n:K}(h:∀k,k<n->f k=g k):zi n f=zi n g:=by simp_all [zi]
theorem bj{n:K}{v:J}:(zi n f).set j (yK v)=zi n (XA f j v):=by refine xcA λi=> ?_;unfold zi XA;by_cases h:j=i;grind;grind
theorem zfK:yK 0=(I,[]):=O
theorem aZ(n:K):So n (I,[])=zi n (λ_=>0):=by grind [zi,zfK,List.map_const',xeC]
theorem CL{n:K}:zi n f++[yK<|f n]=zi (n+1) f:=by grind [zi,xdm]
theorem Si{n:K}(h:j<n):cf (zi n f) j=f j:=by unfold cf;rw[YR h,zt]
theorem yq(h:X p<=j):cf p j=0:=by unfold cf;rw[UV,xbA h];rfl
theorem K0{n:K}(h:∀k,n<=k->f k=0)(j:K):cf (zi n f) j=f j:=by grind [Si,yq,yA]
theorem jc(f:K->J):∀n,dg f n<=n
 |0=>Nm _
 |n+1=>by unfold dg;split;exact xao (jc f n)<|xby _;exact Nm _
theorem QB(f:K->J):∀n k,dg f n<=k->k<n->f k=0
 |0,k,_,h=>kW h<|xbc _
 |n+1,k,h1,a=>by
  unfold dg at h1;split at h1;rename_i h0;by_cases b:k=n;simp_all;exact QB f n k h1 W
  lia
theorem QS(f:K->J):∀n,dg f n≠0->f (dg f n-1)≠0
 |0,h=>kW O h
 |n+1,h=>by
  unfold dg at h⊢;split;rename_i h0;rw[E h0]at h;exact QS f n h;simp_all
theorem Ux{n d:K}(h1:d<=n)(b:∀k,d<=k->k<n->f k=0)(h3:d=0\/f (d-1)≠0):dg f n=d:=by
 have a:=jc f n;rcases xfz (dg f n) d with h|h|h
 obtain h3|h3:=h3
 lia;exact kW (QB f n (d-1) W W) h3;exact h;exact kW (b (dg f n-1) W W)<|QS f n W
theorem XL{n:K}(b:∀k,n<=k->f k=0)(c:∀k,m<=k->g k=0)(h:∀k,f k=g k):w8 n f=w8 m g:=by
 have e:dg f n=dg g m:=by
  refine Ux ?_ ?_ ?_;refine xbx λd=> ?_;have:=QS g m W;grind;intro k h1 i;rw[h];by_cases a:k<m;exact QB g m k h1 a;simp_all;by_cases h0:dg g m=0
  lia;right;rw[h];exact QS g m h0
 unfold w8;rw[e];exact xe λk _=>h k
theorem xJ(n:K)(f:K->J):X (w8 n f)=dg f n:=yA _ _
def km{n:K}(h:∀k,n<=k->f k=0)(j:K):cf (w8 n f) j=f j:=by refine K0 (λk a=> ?_) j;by_cases hn:k<n;exact QB f n k a hn;simp_all
def xf.get(h:xf k p)(j:K):zn (p.getD j (I,[])).2/\(p.getD j (I,[])).2.length<=k:=by rw[UV];by_cases a:j<X p;rw[xaa a];exact h _<|xbI a;rw[xbA W];exact⟨zn.nil,xah _⟩
theorem xf.okZ(h:xf k p)(a:k<=100000)(j:K):lF (p.getD j (I,[])):=⟨(h.get j).1,xao (h.get j).2 a⟩
def xf.okS(h:xf k p)(a:k<=40000)(j:K):eJ (p.getD j (I,[])):=⟨(h.get j).1,xao (h.get j).2 a⟩
theorem xf.bz(h:xf k p)(j:K):Bz k (cf p j):=(Bz.of (h.get j).1).mono (h.get j).2
def xf.mono(h:xf j p)(b:j<=k):xf k p:=λz a=>⟨(h z a).1,xao (h z a).2 b⟩
theorem Bz.zero(k:K):Bz k 0:=xaS m6
def Xy{n:K}(h:∀j,Bz k<|f j):xf k (zi n f):=λz a=>by
 obtain⟨j,_,rfl⟩:=xat.1 a;exact⟨yJ _,(h j).len⟩
def Cn{a:J->U->V U}(hl:X p<=1000000)(l:2000000<fu)(h:∀j:K,j<X p->a (j:J) (p.getD j (I,[]))=Z (yK<|g j)):
 zL fu p a=Z (zi (X p) g):=by
 unfold zL;rw[yH,y9,F,aZ,Y];refine zC (λs:J×N U=>∃i:K,i<=X p/\s=((i:J),zi (X p) (λk=>if k<i then g k else 0))) (λs=>X p-s.1.toNat) _ ?_ _ _ ⟨0,xah _,by rw[xe (g:=λk=>if k<0 then g k else 0)<|λk _=>by rw[zF]];rfl⟩ (by show X p-0<fu;lia);rintro s L ⟨i,hi,rfl⟩ c;unfold vv;simp only;by_cases h1:i<X p;rw[yg,Y O];simp only[Xs];rw[zp h1,F,Y<|h i h1,zp (by rw[yA];exact h1),F,bj,zb];refine c _ ⟨i+1,W,?_⟩ (by show X p-((i:J)+1).toNat<X p-(i:J).toNat;lia);congr 1;refine xe λk d=> ?_;unfold XA;by_cases e:k=i;rw[E e,yg,e];rw[P e];show(if k<i then g k else 0)=_;by_cases b:k<i;rw[E b,yg];rw[P b,zF];rw[zF,Y O];simp only[xam,Z9];congr 1;exact xe λk d=>by rw[yg]
def rU(h:f m=0):dg f (m+1)=dg f m:=by conv=>lhs;unfold dg;rw[E h]
def eF(h:f m≠0):dg f (m+1)=m+1:=by conv=>lhs;unfold dg;rw[P h]
theorem IM(h:j<m):(p.take m).getD j (I,[])=p.getD j (I,[]):=by grind
theorem zM(h:xf k p)(c:k<=100000)(hl:X p<=1000000)(d:3000000<=fu):zX fu p=Z (w8 (X p)<|cf p):=by
 unfold zX;have hd:=jc (cf p) (X p);rw[Y (v:=p.take<|dg (cf p) (X p))];have a:X (p.take<|dg (cf p) (X p))=dg (cf p) (X p):=by rw[xan];lia
 rw[Y<|Cn (g:=cf p) W W ?_,a];rfl;intro j i;rw[a]at i;unfold JZ;rw[IM i,Y<|uD (h.okZ c j) d];rfl;refine zC (λt:N U=>∃m,m<=X p/\t=p.take m/\dg (cf p) m=dg (cf p) (X p)) (λt=>X t) _ ?_ _ _ ⟨X p,Nm _,xbQ.symm,O⟩ W;rintro t L ⟨m,n,rfl,b⟩ l;have a:X (p.take m)=m:=by rw[xan];lia
 unfold gB
 cases m with
 |zero=>
  rw[zF,<-b];rfl
 |succ m=>
  rw[yg,a,(W:((m+1:K):J)-1=(m:J)),zb,yn,F,IM W,Y<|xi (h.okZ c m) d,Qi];by_cases h0:cf p m=0
  rw[E<|xU.2 h0,zb,yH,y9,F,List.take_take,(W:min m (m+1)=m)];exact l _ ⟨m,W,O,by rw[<-rU h0,b]⟩<|by rw[a,xan];lia
  rw[P<|λe=>h0<|xU.1 e,<-b,eF h0]
theorem qg(h:xf k p)(d:k<=100000)(hl:X p<=1000000)(c:3000000<=fu):vD fu p=Z (w8 (X p)<|cf p):=by
 unfold vD;have hd:=jc (cf p) (X p);rw[Y (v:=((dg (cf p) (X p):K):J))];rw[Y (v:=w8 (X p)<|cf p)];unfold w8;refine zC (λs:N U×J=>∃i:K,i<=dg (cf p) (X p)/\s=(zi i<|cf p,(i:J))) (λs=>X p-s.2.toNat) _ ?_ _ _ ⟨0,xah _,O⟩ (by show X p-0<fu;lia);rintro s L ⟨i,hi,rfl⟩ a;unfold gu;simp only;by_cases h1:i<dg (cf p) (X p);rw[yg,yn,F,Y<|xl (h.get i).1 (by have:=(h.get i).2;lia) c,va (by rw[yA];simp;lia),F,zb];exact a _ ⟨i+1,W,by rw[<-CL];rfl⟩ (by show X p-((i:J)+1).toNat<X p-(i:J).toNat;lia);grind;refine zC (λi:J=>∃m:K,i=(m:J)/\m<=X p/\dg (cf p) m=dg (cf p) (X p)) (λi=>i.toNat) _ ?_ _ _ ⟨X p,O,Nm _,O⟩ W;rintro i L ⟨m,rfl,l,b⟩ a;unfold eT
 cases m with
 |zero=>rw[zF,<-b];rfl
 |succ m=>
  rw[yg,(W:((m+1:K):J)-1=(m:J)),zb,yn,F,Y<|QU (h.okZ d m) c,Qi];by_cases h0:cf p m=0
  rw[E<|xU.2 h0,zb];exact a _ ⟨m,O,W,by rw[<-rU h0,b]⟩ W
  rw[P<|λe=>h0<|xU.1 e,<-b,eF h0]
end
section
variable{a b p:wF Zr}{k fu j l:wP}{h g:wP->Zr}
theorem Qa(h:max (X a) (X b)<=k:=by lia):cf a k+cf b k=0:=by grind [yq]
theorem za0(c:xf k a)(d:xf k b)(e:k<=100000)(f:3000000<=fu)(hc:X b<=1000000)(j:K)(i:j<X b):
 uR fu (j:J) (b.getD j (I,[])) a=Z (if j<X a then yK (cf a j+cf b j)else b.getD j (I,[])):=by grind [uR,zp,F,Y,qH,xf.okZ,Qi]
def Be(a b:N U):N U:=(xaL (X b)).map λj=>if j<X a then yK (cf a j+cf b j)else b.getD j (I,[])
theorem zgN{n:K}(c:j<n):((xaL n).map h).getD j (I,[])=h j:=by grind
theorem map_set{n i:K}:((xaL n).map h).set i (g i)=(xaL n).map (λk=>if k=i then g k else h k):=by refine xcA λm=> ?_;by_cases e:i=m;grind;grind
def zgk{c:J->U->V U}(hl:X p<=1000000)(n:2000000<fu)(h:∀j:K,j<X p->c (j:J) (p.getD j (I,[]))=Z (g j)):
 zL fu p c=Z ((xaL (X p)).map g):=by
 unfold zL;have e0:So (X p) ((I,[]):U)=(xaL (X p)).map (λk=>if k<0 then g k else(I,[])):=by rw[aZ];rfl
 rw[yH,y9,F,e0,Y];refine zC (λs:J×N U=>∃i:K,i<=X p/\s=((i:J),(xaL (X p)).map (λk=>if k<i then g k else(I,[])))) (λs=>X p-s.1.toNat) _ ?_ _ _ ⟨0,xah _,O⟩ (by show X p-0<fu;lia);rintro s L ⟨i,hi,rfl⟩ m;unfold vv;simp only;by_cases h1:i<X p;rw[yg,Y O];simp only[Xs];rw[zp h1,F,Y<|h i h1,zp (by simp;exact h1),F,map_set,zb];refine m _ ⟨i+1,W,?_⟩ (by show X p-((i:J)+1).toNat<X p-(i:J).toNat;lia);congr 1;refine xch λk d=> ?_;by_cases e:k=i;rw[E e,yg,e];rw[P e];by_cases f:k<i;rw[E f,yg];rw[P f,zF];rw[zF,Y O];simp only[xam,Z9];congr 1;refine xch λk d=> ?_;have:=xbf.1 d;rw[yg]
theorem zfs(i:xf k a)(d:xf k b)(o:k+1<=100000)(hd:X b<=1000000)(m:3000000<=fu)(hl:X a<=X b):
 G (zL fu b<|λe f=>uR fu e f a) (λt1=>G (zX fu t1) λt2=>Z t2)=Z (w8 (max (X a) (X b))<|λj=>cf a j+cf b j):=by
 have q:X (Be a b)=X b:=by unfold Be;simp
 have r:∀j,j<X b->(Be a b).getD j (I,[])=if j<X a then yK (cf a j+cf b j)else b.getD j (I,[]):=λj c=>by unfold Be;rw[zgN c]
 have hc:∀j,cf (Be a b) j=cf a j+cf b j:=λj=>by
  by_cases c:j<X b;conv=>lhs;unfold cf
  rw[r j c];by_cases h:j<X a;rw[E h,zt];rw[P h,yq (p:=a) W,xcO];rfl;rw[yq W,yq W,yq W];rfl
 have s:xf (k+1) (Be a b):=λz n=>by
  unfold Be at n;obtain⟨j,c,rfl⟩:=xat.1 n;split;exact⟨yJ _,((i.bz j).add<|d.bz j).len⟩;exact(d.mono<|xby k).get j
 rw[Y<|zgk (g:=λj=>if j<X a then yK (cf a j+cf b j)else b.getD j (I,[])) hd W λj c=>za0 i d W m hd j c];show G (zX fu<|Be a b) _=_;rw[Y<|zM s o W m,q];congr 1;refine XL (λj c=>yq W) (λj c=>Qa c) hc
theorem eE(c:xf k a)(d:xf k b)(e:k+1<=100000)(hc:X a<=1000000)(hd:X b<=1000000)(f:3000000<=fu):
 qG fu a b=Z (w8 (max (X a) (X b))<|λj=>cf a j+cf b j):=by grind [qG,zfs]
theorem mj:JS fu p (j:J)=Z (p.getD j (I,[])):=by grind [JS,zp,F]
def gl(c:xf k a)(d:xf k b)(m:k+1<=100000)(hc:X a<=1000000)(hd:X b<=1000000)(e:3000000<=fu):
 VX fu a b=Z (w8 (max (X a) (X b))<|λj=>cf a j+cf b j):=by
 unfold VX;have⟨n,hn⟩:∃n,n=max (X a) (X b):=⟨_,O⟩;have r:n<=1000000:=W
 have o:xf (k+1) (zi n<|λj=>cf a j+cf b j):=Xy λj=>(c.bz j).add<|d.bz j;rw[Y (v:=zi n<|λj=>cf a j+cf b j)];rw[Y<|qg o m (by rw[yA];lia) e,yA,<-hn];congr 1;exact XL (λj f=>yq<|by rw[yA];lia) (λj f=>Qa)<|λj=>K0 (λj f=>Qa) j;refine zC (λs:N U×J=>∃i:K,i<=n/\s=(zi i<|λj=>cf a j+cf b j,(i:J))) (λs=>n-s.2.toNat) _ ?_ _ _ ⟨0,xah _,O⟩ (by show n-0<fu;lia);rintro s L ⟨i,hi,rfl⟩ q;unfold lX;simp only;rw[F];by_cases h1:i<n;rw[yg,Y mj,Y mj,Y<|gi (c.okZ W i) (d.okZ W i) e,Qi,Qi,va (by rw[yA];simp;lia),F,zb];exact q _ ⟨i+1,W,by rw[<-CL];rfl⟩ (by show n-((i:J)+1).toNat<n-(i:J).toNat;lia);rw[zF];obtain rfl:i=n:=W
 rfl
def W7{c:J}(h:X a<=k):cf a k*c=0:=by rw[yq h,xba]
def lF.of{z:U}(h:zn z.2/\X z.2<=k)(c:k<=100000):lF z:=⟨h.1,xao h.2 c⟩
def kn{c:U}(e:xf k a)(hc:zn c.2/\X c.2<=l)(i:k+l<=100000)(hd:X a<=1000000)(f:3000000<=fu):
 qA fu a c=Z (w8 (X a)<|λj=>cf a j*zv c):=by
 unfold qA;have m:xf (k+l) (zi (X a)<|λj=>cf a j*zv c):=Xy λj=>(e.bz j).mul<|(Bz.of hc.1).mono hc.2;rw[Y<|Cn hd W ?_];rw[Y<|zM m i (by rw[yA];lia) f,yA];congr 1;exact XL (λj d=>yq<|by rw[yA];lia) (λj d=>W7 d)<|λj=>K0 (λj d=>W7 d) j;intro j d;unfold Qt;rw[Y<|ya (e.okZ W j) (lF.of hc W) f,Qi]
theorem tQ{c:U}(e:xf k a)(hc:zn c.2/\X c.2<=l)(m:k+l<=100000)(hd:X a<=1000000)(f:3000000<=fu):
 Vu fu a c=Z (w8 (X a)<|λj=>cf a j*zv c):=by
 unfold Vu;have n:xf (k+l) (zi (X a)<|λj=>cf a j*zv c):=Xy λj=>(e.bz j).mul<|(Bz.of hc.1).mono hc.2;rw[Y (v:=zi (X a)<|λj=>cf a j*zv c)];rw[Y<|qg n m (by rw[yA];lia) f,yA];congr 1;exact XL (λj d=>yq<|by rw[yA];lia) (λj d=>W7 d)<|λj=>K0 (λj d=>W7 d) j;refine zC (λs:N U×J=>∃i:K,i<=X a/\s=(zi i<|λj=>cf a j*zv c,(i:J))) (λs=>X a-s.2.toNat) _ ?_ _ _ ⟨0,xah _,O⟩ (by show X a-0<fu;lia);rintro s L ⟨i,hi,rfl⟩ o;unfold cX;simp only;by_cases h1:i<X a;rw[yg,zp h1,F,Y<|db (e.okZ W i) (lF.of hc W) f,Qi,va (by rw[yA];simp;lia),F,zb];exact o _ ⟨i+1,W,by rw[<-CL];rfl⟩ (by show X a-((i:J)+1).toNat<X a-(i:J).toNat;lia);grind
def bn(a b:N U):N U:=w8 (max (X a) (X b))<|λj=>cf a j-cf b j
def xp{n:K}{f:K->J}(h:∀j,Bz k<|f j):xf k (w8 n f):=Xy h
theorem SR{m:K}(d:m=dg (λj=>cf b j* -1) (X b)):w8 (max (X a) (X (w8 (X b)<|λj=>cf b j* -1))) (λj=>cf a j+cf (w8 (X b)<|λj=>cf b j* -1) j)=bn a b:=by have e:∀j,cf (w8 (X b)<|λj=>cf b j* -1) j=cf b j* -1:=km λj c=>W7 c;refine XL (λj c=>Qa c) (λj c=> ?_)<|λj=> ?_;rw[yq W,yq W];rfl;grind
theorem Bz.one:∀{k:K},1<=k->Bz k (-1):=by grind [Bz]
def ZS(e:xf k a)(d:xf k b)(i:k+2<=100000)(hc:X a<=1000000)(f:X b<=1000000)(c:3000000<=fu):
 kT fu a b=Z (bn a b):=by
 unfold kT;have hd:=jc (λj=>cf b j* -1) (X b);rw[Y<|yw m6 c,Y<|kn d ⟨yJ _,(Bz.one<|Nm _).len⟩ W f c,zt,Y<|eE (e.mono W) (xp λj=>(d.bz j).mul<|Bz.one<|Nm _) W hc (by rw[xJ];lia) c,SR O]
def Ef(e:xf k a)(c:xf k b)(i:k+2<=100000)(hc:X a<=1000000)(f:X b<=1000000)(d:3000000<=fu):
 K9 fu a b=Z (bn a b):=by
 unfold K9;have hd:=jc (λj=>cf b j* -1) (X b);rw[Y (mZ m6),Y<|tQ c ⟨yJ _,(Bz.one<|Nm _).len⟩ W f d,zt,Y<|gl (e.mono W) (xp λj=>(c.bz j).mul<|Bz.one<|Nm _) W hc (by rw[xJ];lia) d,SR O]
end
section
variable{kb ka fu:wP}{b a:wF Zr}
def Su(b:N U)(i k:K):J:=if i<=k then cf b (k-i)else 0
def Xr(a b:N U):K->K->J
 |0,_=>0
 |n+1,k=>Xr a b n k+cf a n*Su b n k
def YS(a b:N U)(i j k:K):J:=Xr a b i k+if i<=k/\k<i+j then cf a i*cf b (k-i)else 0
def xg(a b:N U):N U:=w8 (X a+X b)<|Xr a b (X a)
theorem zhH(c:xf kb b)(i k:K):Bz kb (Su b i k):=by grind [Su,Bz.zero,xf.bz]
def rK{ka kb:K}{a b:N U}(c:xf ka a)(d:xf kb b):∀n k,Bz (ka+kb+n) (Xr a b n k)
 |0,k=>Bz.zero _
 |n+1,k=>by
  have h:=((c.bz n).mul<|zhH d n k).mono (W:ka+kb<=ka+kb+n);exact Bz.add (rK c d n k) h
def EU(c:xf ka a)(d:xf kb b)(i j k:K):Bz (ka+kb+i+1) (YS a b i j k):=by
 refine Bz.add (rK c d i k) ?_;split;exact((c.bz i).mul<|d.bz _).mono W
 exact Bz.zero _
def S8{a b:N U}{k:K}:∀{n},n+X b<=k+1->Xr a b n k=0
 |0,_=>rfl
 |n+1,h=>by
  unfold Xr Su;rw[S8 W,yg,yq (p:=b) W,xaz];rfl
def aJ{k:K}(h:X a+X b<=k:=by lia):Xr a b (X a) k=0:=S8 W
def pT(a b:N U)(i k:K):YS a b i 0 k=Xr a b i k:=by unfold YS;lia
theorem rL(a b:N U)(i k:K):YS a b i (X b) k=Xr a b (i+1) k:=by rw[show Xr a b (i+1) k=Xr a b i k+cf a i*Su b i k from O];unfold YS Su;by_cases h:i<=k;rw[E h];by_cases c:k<i+X b;lia;rw[P<|λe=>c e.2,yq (p:=b) W,xaz];grind
def pW(a b:N U)(i j k:K):XA (YS a b i j) (i+j) (YS a b i j (i+j)+cf a i*cf b j) k=YS a b i (j+1) k:=by unfold XA;by_cases h:k=i+j;subst h;unfold YS;simp_all;skip;unfold YS;by_cases c:i<=k/\k<i+j;lia;lia
def wo(c:xf ka a)(d:xf kb b)(o:ka+kb+X a+1<=100000)(hc:X b<=100000)(g:3000000<=fu):wQ fu a b=Z (xg a b):=by
 unfold wQ;rw[zb,(W:(X a:J)+(X b:J)=((X a+X b:K):J)),yH,y9,F,aZ];have⟨n,hn⟩:∃n,n=X a+X b:=⟨_,O⟩;rw[<-hn,Y (v:=zi n<|Xr a b (X a))];rw[Y<|zM (Xy<|rK c d (X a)) W (by rw[yA];lia) g,yA];congr 1;unfold xg;exact XL (λj f=>yq<|by rw[yA];lia) (λj f=>aJ f)<|λj=>K0 (λj f=>aJ) j;refine zC (λs:J×N U=>∃i:K,i<=X a/\s=((i:J),zi n<|Xr a b i)) (λs=>X a-s.1.toNat) _ ?_ _ _ ⟨0,xah _,O⟩ (by show X a-0<fu;lia);rintro s L ⟨i,hi,rfl⟩ l;unfold my;simp only;by_cases h1:i<X a;rw[yg,Y O];simp only[Xs];rw[zp h1,F,Y (v:=zi n<|Xr a b<|i+1),zb];exact l _ ⟨i+1,W,O⟩ (by show X a-((i:J)+1).toNat<X a-(i:J).toNat;lia);refine zC (λs:J×N U×U=>∃j:K,j<=X b/\s=((j:J),zi n<|YS a b i j,a.getD i (I,[]))) (λs=>X b-s.1.toNat) _ ?_ _ _ ⟨0,xah _,by rw[xe λk _=>(pT a b i k).symm];rfl⟩ (by show X b-0<fu;lia);rintro s p ⟨j,f,rfl⟩ h;unfold nj;simp only;by_cases m:j<X b;rw[yg,Y O];simp only[Xs];have e:(i:J)+(j:J)=((i+j:K):J):=W
 have hp:=EU c d i j<|i+j;rw[zp m,F,e,zb,zb,zp (by rw[yA];lia),F,YR W,Y<|ya (c.okZ W i) (d.okZ W j) g,Qi,Qi,Y<|qH (hp.ok W) (((c.bz i).mul<|d.bz j).ok W) g,zt,zt,zp (by rw[yA];lia),F,bj,zb];exact h _ ⟨j+1,W,by rw[xe λk _=>pW a b i j k];rfl⟩ (by show X b-((j:J)+1).toNat<X b-(j:J).toNat;lia);rw[zF,Y O];simp only[xam,Z9];obtain rfl:j=X b:=W
 rw[xe λk _=>rL a b i k];rw[zF,Y O];simp only[xam,Z9];obtain rfl:i=X a:=W
 rfl
def Fj(c:xf ka a)(d:xf kb b)(o:ka+kb+X a+1<=100000)(hc:X b<=100000)(g:3000000<=fu):Uv fu a b=Z (xg a b):=by
 unfold Uv;rw[zb,(W:(X a:J)+(X b:J)=((X a+X b:K):J)),yH,y9,F,aZ];have⟨n,hn⟩:∃n,n=X a+X b:=⟨_,O⟩;rw[<-hn,Y (v:=zi n<|Xr a b (X a))];rw[Y<|qg (Xy<|rK c d (X a)) W (by rw[yA];lia) g,yA];congr 1;unfold xg;exact XL (λj f=>yq<|by rw[yA];lia) (λj f=>aJ f)<|λj=>K0 (λj f=>aJ) j;refine zC (λs:J×N U=>∃i:K,i<=X a/\s=((i:J),zi n<|Xr a b i)) (λs=>X a-s.1.toNat) _ ?_ _ _ ⟨0,xah _,O⟩ (by show X a-0<fu;lia);rintro s L ⟨i,hi,rfl⟩ l;unfold mU;simp only;by_cases h1:i<X a;rw[yg,Y (v:=(a,b,zi n<|Xr a b<|i+1))];simp only;rw[zb];exact l _ ⟨i+1,W,O⟩ (by show X a-((i:J)+1).toNat<X a-(i:J).toNat;lia);refine zC (λs:N U×N U×J×N U=>∃j:K,j<=X b/\s=(a,b,(j:J),zi n<|YS a b i j)) (λs=>X b-s.2.2.1.toNat) _ ?_ _ _ ⟨0,xah _,by rw[xe λk _=>(pT a b i k).symm];rfl⟩ (by show X b-0<fu;lia);rintro s p ⟨j,f,rfl⟩ h;unfold nk;simp only;by_cases m:j<X b;rw[yg];have e:(i:J)+(j:J)=((i+j:K):J):=W
 have hp:=EU c d i j<|i+j;rw[e,zb,zb,zp (by rw[yA];lia),F,YR W,zp h1,F,zp m,F,Y<|db (c.okZ W i) (d.okZ W j) g,Qi,Qi,Y<|gi (hp.ok W) (((c.bz i).mul<|d.bz j).ok W) g,zt,zt,zp (by rw[yA];lia),F,bj,zb];exact h _ ⟨j+1,W,by rw[xe λk _=>pW a b i j k];rfl⟩ (by show X b-((j:J)+1).toNat<X b-(j:J).toNat;lia);rw[zF];obtain rfl:j=X b:=W
 rw[xe λk _=>rL a b i k];rw[zF];obtain rfl:i=X a:=W
 rfl
def XR(c:xf ka a)(d:xf kb b):xf (ka+kb+X a) (xg a b):=xp<|rK c d (X a)
theorem Np(a b:N U)(k:K):cf (xg a b) k=Xr a b (X a) k:=km (λj c=>aJ c) k
def uC(a b:N U):X (xg a b)<=X a+X b:=by unfold xg;rw[xJ];exact jc _ _
end
section
variable{f g:wP->wN}{fu k:wP}{a:wF Zr}{m:Zr}{a2:Zr->Zr->wS (Zr×wN)}
theorem Ew{f g:K->J}:∀{n},(∀k,k<n->f k=g k)->dg f n=dg g n
 |0,_=>rfl
 |n+1,h=>by
  unfold dg;rw[h n W,Ew λk b=>h k W]
theorem WY{n:K}(h:∀k,k<n->f k=g k):w8 n f=w8 n g:=by grind [w8,Ew,jc,xe]
def DJ{n:K}:w8 n (cf<|zi n f)=w8 n f:=WY λk b=>Si b
def OE{l:K}{c:J}(n:eJ m)(h0:0<zv m)(r:X a<=1000000)(hl:l<=100000)(o:∀j,Bz l<|g j)(b:3000000<=fu)(h:∀j,j<X a->a2 (a.getD j (I,[])) m=Z (yK<|g j,c)):
 qZ fu a m a2=Z (w8 (X a) g,0):=by
 unfold qZ;rw[Y<|xi n.ok b,P (λe=>by have:=Lu.1 e;lia),yH,y9,F,aZ,Y (v:=zi (X a) g)];rw[Y<|zM (Xy o) hl (by rw[yA];lia) b,yA,DJ];refine zC (λs:J×N U=>∃i:K,i<=X a/\s=((i:J),zi (X a) (λk=>if k<i then g k else 0))) (λs=>X a-s.1.toNat) _ ?_ _ _ ⟨0,xah _,by rw[xe (g:=λk=>if k<0 then g k else 0)<|λk _=>by rw[zF]];rfl⟩ (by show X a-0<fu;lia);rintro s L ⟨i,hi,rfl⟩ p;unfold ah;simp only;by_cases h1:i<X a;rw[yg,Y O];simp only[Xs];rw[zp h1,F,Y<|h i h1];simp only;rw[zp (by rw[yA];exact h1),F,bj,zb];refine p _ ⟨i+1,W,?_⟩ (by show X a-((i:J)+1).toNat<X a-(i:J).toNat;lia);congr 1;refine xe λk q=> ?_;unfold XA;by_cases e:k=i;rw[E e,yg,e];rw[P e];show(if k<i then g k else 0)=_;by_cases d:k<i;rw[E d,yg];rw[P d,zF];rw[zF,Y O];simp only[xam,Z9];congr 1;exact xe λk q=>by rw[yg]
theorem H8(b:eJ m)(h0:zv m<=0)(c:3000000<=fu):qZ fu a m a2=Z ([],1):=by grind [qZ,Y,xi,eJ.ok,Lu]
def vJ(a:N U)(m:J):N U:=w8 (X a)<|λj=>cf a j%m
def oI(a:N U)(m:J):N U:=w8 (X a)<|λj=>near (cf a j) m
def zdP(a:N U)(m:J):N U×J:=if m<=0 then([],1)else(vJ a m,0)
def zbf(a:N U)(m:J):N U×J:=if m<=0 then([],1)else(oI a m,0)
def eJ.bz{z:U}(h:eJ z):Bz 40000 (zv z):=(Bz.of h.1).mono h.2
theorem cY(e:xf k a)(h:k<=40000)(b:eJ m)(hc:X a<=1000000)(d:3000000<=fu):XQ fu a m=Z (zdP a<|zv m):=by
 unfold XQ zdP;by_cases h0:zv m<=0
 rw[Y<|H8 b h0 d,E h0];have⟨K,i⟩:∃K,K=40000:=⟨_,O⟩;have l:Bz K (zv m):=by rw[i];exact b.bz
 rw[P h0,Y<|OE (c:=0) b W hc (W:K<=100000) (λj=>l.emod W) d λj n=> ?_];rfl;show jD fu _ _=_;rw[YN (e.okS h j) b d];unfold IF;rw[P h0];rfl
def Ax(e:xf k a)(h:k<=40000)(b:eJ m)(hc:X a<=1000000)(d:3000000<=fu):VB fu a m=Z (zbf a<|zv m):=by
 unfold VB zbf;by_cases h0:zv m<=0
 rw[Y<|H8 b h0 d,E h0];have⟨K,i⟩:∃K,K=40000:=⟨_,O⟩;have l:Bz K (zv m):=by rw[i];exact b.bz
 rw[P h0,Y<|OE (c:=0) b W hc (W:K<=100000) (λj=>l.near W) d λj n=> ?_];rfl;show XD fu _ _=_;rw[Bx (e.okS h j) b d];unfold zeS;rw[P h0];rfl
def BB{c d:K}{b:N U}(e:xf c a)(h:xf d b)(l:c+d+X a+1<=40000)(hc:X b<=40000)(j:eJ m)(i:3000000<=fu):JG fu a b m=Z (zdP (xg a b)<|zv m):=by unfold JG;have:=uC a b;rw[Y<|wo e h W W i,Y<|cY (XR e h) W j W i]
end
section
def Tk(n:K)(f:K->J):w8 (X (w8 n f)) (cf<|w8 n f)=w8 n f:=by
 have e:∀k,k<dg f n->cf (w8 n f) k=f k:=λk a=>Si a;have h:dg (cf<|w8 n f) (X (w8 n f))=dg f n:=by
  rw[xJ];refine Ux (Nm _) (λk h1 b=>by lia) ?_;by_cases h0:dg f n=0
  lia;right;rw[e _ W];exact QS f n h0
 show zi (dg (cf<|w8 n f) (X (w8 n f))) (cf<|w8 n f)=w8 n f;rw[h];exact xe e
theorem zfm{p:N U}(h:p=w8 (X p) (cf p)):p=zi (X p) (cf p):=by grind [w8,xJ]
def X3{p:N U}(h:p=w8 (X p) (cf p))(h0:X p≠0):cf p (X p-1)≠0:=by grind [xJ,QS]
def CY{p:N U}(h:p=w8 (X p) (cf p)){j:K}(a:j<X p:=by lia):p.getD j (I,[])=yK (cf p j):=by grind [zfm,YR]
def Jk(n:K)(f:K->J):w8 n f=w8 (X (w8 n f)) (cf<|w8 n f):=(Tk n f).symm
def Mj{p:N U}(h:p=w8 (X p) (cf p)){l:K}(a:∀k,l<=k->cf p k=0):X p<=l:=by refine xbx λb=> ?_;exact X3 h W<|a _ W
def dvF(r d:N U)(m:J)(qn:K):K->K->J
 |0=>cf r
 |s+1=>λk=>dvF r d m qn s k-(dvF r d m qn s (qn-(s+1)+(X d-1))%m)*Su d (qn-(s+1)) k
def FY(r d:N U)(m:J)(qn i:K):K->J:=dvF r d m qn<|qn-i
def dvC(r d:N U)(m:J)(qn i:K):J:=FY r d m qn (i+1) (i+(X d-1))%m
section
variable{r d:wF Zr}{m:wN}{qn:wP}
def Cv:FY r d m qn qn=cf r:=by unfold FY;rw[xcx];rfl
theorem Dq{i:K}(h:i<qn)(k:K):FY r d m qn i k=FY r d m qn (i+1) k-dvC r d m qn i*Su d i k:=by unfold dvC FY;have⟨s,a⟩:∃s,s=qn-(i+1):=⟨_,O⟩;rw[(W:qn-i=s+1)];show dvF r d m qn s k-(dvF r d m qn s (qn-(s+1)+(X d-1))%m)*Su d (qn-(s+1)) k=_;grind
def LF{K:wP}(a:xf K r)(hd:xf K d)(b:Bz K m)(h0:0<m):∀s k,Bz (2*K+s) (dvF r d m qn s k)
 |0,k=>(a.bz k).mono W
 |s+1,k=>by
  have h:=((Bz.emod (x:=dvF r d m qn s<|qn-(s+1)+(X d-1)) b h0).mul<|zhH hd (qn-(s+1)) k).mono (W:K+K<=2*K+s);exact Bz.sub (LF a hd b h0 s k) h
def Tu{K:wP}(a:Bz K m)(h0:0<m)(i:wP):Bz K (dvC r d m qn i):=Bz.emod a h0
end
def XN{fu k:K}{a:N U}{m:U}(b:xf k a)(c:k<=40000)(d:eJ m)(h0:0<zv m)(hc:X a<=1000000:=by lia)(e:3000000<=fu:=by lia):xv fu a m=Z (vJ a<|zv m):=by grind [xv,zdP,Y,cY]
def bu{K:wP}{a:N U}{m:J}(b:Bz K m)(h0:0<m):xf K (vJ a m):=xp λj=>Bz.emod b h0
theorem XX(a:N U)(m:J):X (vJ a m)<=X a:=by unfold vJ;rw[xJ];exact jc _ _
def Zj(a:N U)(m:J)(k:K):cf (vJ a m) k=cf a k%m:=km (λj b=>by rw[yq b,xar]) k
def ai(a:N U)(m:J):vJ a m=w8 (X (vJ a m)) (cf<|vJ a m):=Jk _ _
def dvQ(r d:N U)(m:J)(qn:K):K->J:=λk=>if k<qn then dvC r d m qn k else 0
def Gn(r d:N U)(m:J):N U:=w8 (X r+1-X d)<|λk=>dvQ r d m (X r+1-X d) k%m
def Vw(r d:N U)(m:J):N U:=w8 (X r)<|λk=>FY r d m (X r+1-X d) 0 k%m
def BA(r d:N U)(m:J)(qn i j:K):K->J:=λk=>FY r d m qn (i+1) k-if i<=k/\k<i+j then dvC r d m qn i*cf d (k-i)else 0
def zeo{r d:N U}{m:J}{qn i k:K}:BA r d m qn i 0 k=FY r d m qn (i+1) k:=by unfold BA;lia
def zdU{r d:N U}{m:J}{qn i:K}(h:i<qn)(k:K):BA r d m qn i (X d) k=FY r d m qn i k:=by rw[Dq h];unfold BA Su;by_cases h:i<=k;rw[E h];by_cases a:k<i+X d;lia;rw[P<|λe=>a e.2,yq W,xaz];grind
def zdb(r d:N U)(m:J)(qn i j k:K):XA (BA r d m qn i j) (i+j) (BA r d m qn i j (i+j)-dvC r d m qn i*cf d j) k=BA r d m qn i (j+1) k:=by unfold XA;by_cases h:k=i+j;subst h;unfold BA;simp_all;skip;unfold BA;by_cases a:i<=k/\k<i+j;lia;lia
def zlr{K:wP}{r d:N U}{m:J}{qn i j:wP}(b:xf K r)(hd:xf K d)(a:Bz K m)(h0:0<m)(h:i<qn)(k:wP):Bz (2*K+qn+1) (BA r d m qn i j k):=by
 refine Bz.sub ((LF b hd a h0 _ k).mono W) ?_;split;exact((Tu a h0 i).mul<|hd.bz _).mono W
 exact Bz.zero _
def zd7{fu K n i qn:wP}{r d:N U}{m:U}{q:wP->J}(c:xf K r)(hd:xf K d)(a:Bz K (zv m))(h0:0<zv m)(hn:X r=n)(o:qn=n+1-X d)(p:0<X d)(hi:i<qn)(t:2*K+n+5<=40000)(g:q i=dvC r d (zv m) qn i)(b:3000000<=fu):
 zg (Y8 fu d (i:J)) fu (d,m,0,zi n<|FY r d (zv m) qn<|i+1,zi qn q)=Z (d,m,zi n<|FY r d (zv m) qn i,zi qn q):=by
 refine zC (λs:N U×U×J×N U×N U=>∃j:wP,j<=X d/\s=(d,m,(j:J),zi n<|BA r d (zv m) qn i j,zi qn q)) (λs=>X d-s.2.2.1.toNat) _ ?_ _ _ ⟨0,xah _,by rw[xe (f:=BA r d (zv m) qn i 0) λk _=>zeo];rfl⟩ (by show X d-0<fu;lia);rintro s L ⟨j,u,rfl⟩ h;unfold Y8;simp only;by_cases l:j<X d;rw[yg,Y O];simp only[Xs];have e:(i:J)+(j:J)=((i+j:wP):J):=W
 have hp:=zlr (j:=j) c hd a h0 hi<|i+j;have hc:=Tu (r:=r) (d:=d) (qn:=qn) a h0 i;rw[zp l,F,e,zb,zb,zp (by rw[yA];lia),F,YR W,zp (by rw[yA];lia),F,YR hi,g,Y<|ya (hc.ok W) (hd.okZ W j) b,Qi,zt,Y<|qx (hp.ok W) ((hc.mul<|hd.bz j).ok W) b,zt,zt,zp (by rw[yA];lia),F,bj,zb];exact h _ ⟨j+1,W,by rw[xe λk _=>zdb r d (zv m) qn i j k];rfl⟩ (by show X d-((j:J)+1).toNat<X d-(j:J).toNat;lia);rw[zF,Y O];simp only[xam,Z9];obtain rfl:j=X d:=W
 rw[xe λk _=>zdU hi k]
def NY{fu K n qn:wP}{r d:N U}{m:U}(a:xf K r)(j:r=zi n (cf r))(hd:xf K d)(b:Bz K (zv m))(hc:zn m.2)(v:X m.2<=K)(h0:0<zv m)(hn:X r=n)(l:qn=n+1-X d)(o:0<X d)(p:2*K+n+5<=40000)(w:X d<=1000000)(c:3000000<=fu):
 zg (Y5 fu d m) fu ((qn:J)-1,r,So qn (I,[]))=Z (zi n<|FY r d (zv m) qn 0,zi qn<|dvQ r d (zv m) qn):=by
 refine zC (λs:J×N U×N U=>∃i:wP,i<=qn/\s=((i:J)-1,zi n<|FY r d (zv m) qn i,zi qn (λk=>if i<=k then dvC r d (zv m) qn k else 0))) (λs=>(s.1+1).toNat) _ ?_ _ _ ⟨qn,Nm _,?_⟩ (by show((qn:J)-1+1).toNat<fu;lia);rintro s L ⟨i,hi,rfl⟩ t;unfold Y5;simp only
 cases i with
 |zero=>
  have e0:(zi qn λk=>if 0<=k then dvC r d (zv m) qn k else 0)=zi qn (dvQ r d (zv m) qn):=xe λk e=>by
   rw[E<|xah _];unfold dvQ;lia
  rw[zF,e0]
 |succ i=>
  have e1:((i+1:wP):J)-1=(i:J):=W
  have u:(i:J)+(X d:J)-1=((i+(X d-1):wP):J):=W
  have hp:Bz (2*K+qn) (FY r d (zv m) qn (i+1)<|i+(X d-1)):=(LF a hd b h0 _ _).mono W;rw[e1,yg,zb,u,zb,zp (by rw[yA];lia),F,YR W,Y<|YN (hp.okS W) ⟨hc,W⟩ c,zt];unfold IF;rw[zF];simp only;rw[zp (by rw[yA];lia),F,bj,Y<|zd7 (q:=XA (λk=>if i+1<=k then dvC r d (zv m) qn k else 0) i<|FY r d (zv m) qn (i+1) (i+(X d-1))%zv m) a hd b h0 hn l o W p ?_ c];simp only;rw[zb];refine t _ ⟨i,W,?_⟩ (by show((i:J)-1+1).toNat<(((i+1:wP):J)-1+1).toNat;lia);congr 2;refine xe λk e=> ?_;unfold XA;by_cases h:k=i;rw[E h,yg,h];rfl;rw[P h];show(if i+1<=k then _ else _)=_;by_cases f:i+1<=k;rw[E f,yg];rw[P f,zF];unfold XA;rw[E O];rfl
 rw[Cv,<-j,aZ,xe (g:=λk=>if qn<=k then dvC r d (zv m) qn k else 0) λk e=>by rw[zF]]
def Q2{fu k K:wP}{a d:N U}{m:U}(i:xf k a)(b:k<=40000)(hd:xf K d)(e:zn m.2)(hi:X m.2<=K)(h0:0<zv m)(l:0<X d)(s:2*K+X a+5<=40000)(hn:X d<=1000000)(o:3000000<=fu):
 ki fu a d m=Z (Gn (vJ a<|zv m) d<|zv m,Vw (vJ a<|zv m) d<|zv m):=by
 unfold ki;have c:Bz K (zv m):=(Bz.of e).mono hi;have f:eJ m:=⟨e,W⟩;have g:=bu (a:=a) c h0;have hl:=XX a<|zv m;have hc:=zfm<|ai a<|zv m;rw[Y<|XN i b f h0];generalize vJ a (zv m)=r at*
 have⟨qn,h⟩:∃qn,qn=X r+1-X d:=⟨_,O⟩;have e1:max ((X r:J)-(X d:J)+1) 0=(qn:J):=W
 rw[zb,zb,F,e1,yH,y9,F,xaF,zb,Y<|NY g hc hd c e hi h0 O h l W hn o];simp only;have p:∀j,Bz K (dvQ r d (zv m) qn j):=λj=>by
  unfold dvQ;split;exact Tu c h0 j;exact Bz.zero _
 have q:∀j,Bz (2*K+qn) (FY r d (zv m) qn 0 j):=λj=>(LF g hd c h0 _ _).mono W;rw[Y (XN (Xy p) W f h0<|by rw[yA];lia),Y<|XN (Xy q) W f h0<|by rw[yA];lia];unfold Gn Vw vJ;rw[<-h,yA,yA,WY λk b=>by rw[Si b],WY (n:=X r) λk b=>by rw[Si b]]
end
def mono(i:K)(c:J):K->J:=λk=>if k=i then c else 0
def zcm(i:K)(c:J)(k:K):cf (zi (i+1)<|mono i c) k=mono i c k:=by grind [mono,K0]
def HZ{d:N U}{i:K}{c:J}(k:K):∀n,n<=i->Xr (zi (i+1)<|mono i c) d n k=0
 |0,_=>rfl
 |n+1,h=>by
  unfold Xr;rw[HZ k n W,zcm];unfold mono;grind
def zdM(d:N U)(i:K)(c:J)(k:K):cf (xg (zi (i+1)<|mono i c) d) k=c*Su d i k:=by simp_all [mono,Xr,Np,yA,HZ,zcm]
def zc5(a b:N U)(k:K):cf (bn a b) k=cf a k-cf b k:=km (λj c=>by rw[yq W,yq W];rfl) k
def aa(a b:N U):X (bn a b)<=max (X a) (X b):=by unfold bn;rw[xJ];exact jc _ _
def CB{k:K}{a b:N U}(c:xf k a)(d:xf k b):xf (k+1) (bn a b):=xp λj=>(c.bz j).sub<|d.bz j
def Bz.one':∀{k:K},1<=k->Bz k 1:=by grind [Bz]
def ziC{a b:N U}(hl:X a=X b)(h:∀j,j<X a->a.getD j (I,[])=b.getD j (I,[])):a=b:=by grind [xdR]
def IB{d:N U}(h:X d≠0:=by lia):d.drop (X d-1)=[d.getD (X d-1) (I,[])]:=by grind [xca]
def FJ{l:N K}(h:(Ty.l .u).ok l):zn l:=λx a=>h.2 x a
def zlH{p:N U}(h:(Ty.l (.p .b (.l .u))).ok p){k:K}(c:∀z∈p,X z.2<=k):xf k p:=λz a=>⟨FJ (h.2 z a).2,c z a⟩
def zdv{l:N U}{i:K}(h:i<X l):l.getD i (I,[])∈l:=by grind
def zfQ{l:N U}{q:U->Prop}(h:∀j,j<X l->q (l.getD j (I,[]))):∀z∈l,q z:=by grind [xbZ]
section
def Lf{a b:N U}(k:K):∀c,Xr a b (X a+c) k=Xr a b (X a) k
 |0=>rfl
 |c+1=>by
  show Xr a b (X a+c) k+cf a (X a+c)*Su b (X a+c) k=_;rw[Lf k c,yq W,xba,xcc]
def Rs{a b:N U}{n:K}(h:X a<=n)(k:K):Xr a b n k=Xr a b (X a) k:=by have:=Lf (a:=a) (b:=b) k<|n-X a;simp_all
def EG{a b:N U}{m:J}(h:∀k,cf a k%m=cf b k%m):vJ a m=vJ b m:=by grind [vJ,XL,yq,xar]
section
variable{r d:wF Zr}{m:wN}
theorem zcg{qn:K}{q:N U}(a:∀j,j<qn->cf q j=dvC r d m qn j)(k:K):∀n,n<=qn->FY r d m qn n k=FY r d m qn 0 k+Xr q d n k
 |0,_=>by show _=_+0;lia
 |n+1,h=>by
  have b:=zcg a k n W;rw[Dq W]at b;show _=_+(Xr q d n k+cf q n*Su d n k);grind
def zbG(j:K):cf (Gn r d m) j=dvQ r d m (X r+1-X d) j%m:=km (λk a=>by unfold dvQ;rw[zF,xar]) j
def DG{qn:K}(hn:X r<=qn+(X d-1))(a:0<X d)(hc:cf d (X d-1)=1):∀c i k,i+c=qn->i+(X d-1)<=k->FY r d m qn i k%m=0
 |0,i,k,hi,b=>by
  obtain rfl:i=qn:=W
  rw[Cv,yq W,xar]
 |c+1,i,k,hi,b=>by
  rw[Dq W];by_cases h:k=i+(X d-1);unfold Su dvC;simp_all;have e:=DG hn a hc c (i+1) k W W;unfold Su;rw[yg,yq W,xaz,xdk];exact e
def nB(h:X r<=X r+1-X d+(X d-1))(a:0<X d)(hc:cf d (X d-1)=1)(k:K):cf (Vw r d m) k=FY r d m (X r+1-X d) 0 k%m:=
 km (λj b=>by
  by_cases c:X d<=X r;exact DG h a hc _ 0 j (xaM _) W
  rw[(W:X r+1-X d=0),Cv,yq b,xar]) k
def Gi(a:0<X d)(hc:cf d (X d-1)=1):X (Vw r d m)<X d:=by
 have h:X (Vw r d m)<=X d-1:=Mj (Jk _ _) λk b=>by
  rw[show w8 (X r) (λk=>FY r d m (X r+1-X d) 0 k%m)=Vw r d m from O,nB W a hc];exact DG W a hc _ 0 k (xaM _) W
 lia
end
end
section
variable{m:wN}
def ye:K->(K->J)->J
 |0,_=>0
 |n+1,f=>ye n f+f n
def yC{f g:K->J}:∀{n},(∀k,k<n->f k=g k)->ye n f=ye n g
 |0,_=>rfl
 |n+1,h=>by
  show ye n f+f n=ye n g+g n;rw[yC λk a=>h k W,h n W]
def YI(f g:K->J):∀n,ye n (λk=>f k+g k)=ye n f+ye n g
 |0=>rfl
 |n+1=>by
  show ye n _+(f n+g n)=ye n f+f n+(ye n g+g n);rw[YI f g n];lia
theorem uO(c:J)(f:K->J):∀n,ye n (λk=>c*f k)=c*ye n f
 |0=>by show 0=c*0;lia
 |n+1=>by
  show ye n _+c*f n=c*(ye n f+f n);rw[uO c f n,xfy]
theorem zdp(c:J)(f:K->J)(n:K):ye n (λk=>f k*c)=ye n f*c:=by grind [uO,xbB]
def yU:∀{n}{f:K->J},(∀k,k<n->f k=0)->ye n f=0
 |0,_,_=>rfl
 |n+1,f,h=>by
  show ye n f+f n=0;rw[yU λk a=>h k W,h n W];rfl
def Zu(f:K->J):∀n,ye (n+1) f=f 0+ye n (λk=>f<|k+1)
 |0=>by show 0+f 0=f 0+0;lia
 |n+1=>by
  show ye (n+1) f+f (n+1)=f 0+(ye n _+f (n+1));rw[Zu f n];lia
def Sw(f:K->J):∀n,ye (n+1) f=ye (n+1) (λk=>f<|n-k)
 |0=>rfl
 |n+1=>by
  rw[Zu (λk=>f<|n+1-k)<|n+1];show ye (n+1) f+f (n+1)=f (n+1-0)+_;rw[Sw f n,Nat.sub_zero,yC (f:=λk=>f<|n+1-(k+1)) λk _=>by rw[(W:n+1-(k+1)=n-k)]];lia
def ND{f:K->J}{n:K}(h:∀k,n<=k->f k=0):∀c,ye (n+c) f=ye n f
 |0=>rfl
 |c+1=>by
  show ye (n+c) f+f (n+c)=_;rw[ND h c,h _ W];lia
theorem Pn(G:K->K->J):∀n,ye n (λi=>ye (i+1)<|λj=>G j<|i-j)=ye n (λj=>ye (n-j)<|λl=>G j l)
 |0=>rfl
 |n+1=>by
  show ye n _+ye (n+1) (λj=>G j<|n-j)=ye n _+ye (n+1-n) (λl=>G n l);rw[Pn G n,yC (f:=λj=>ye (n+1-j)<|λl=>G j l) (g:=λj=>ye (n-j) (λl=>G j l)+G j (n-j)) λj a=>by rw[(W:n+1-j=(n-j)+1)];rfl,YI,(W:n+1-n=1)];show _+(ye n (λj=>G j<|n-j)+G n (n-n))=_+(0+G n 0);grind
abbrev Pz:=K->J
instance:_root_.Add Pz:=⟨λf g k=>f k+g k⟩
instance:_root_.Sub Pz:=⟨λf g k=>f k-g k⟩
instance:_root_.Neg Pz:=⟨λf k=> -f k⟩
instance:_root_.Mul Pz:=⟨λf g k=>ye (k+1)<|λi=>f i*g (k-i)⟩
def pc(c:J):Pz:=λk=>if k=0 then c else 0
theorem zW(f g:Pz)(k:K):(f+g) k=f k+g k:=O
theorem xd(f g:Pz)(k:K):(f-g) k=f k-g k:=O
theorem zbw(f:Pz)(k:K):(-f) k= -f k:=O
theorem w7(f g:Pz)(k:K):(f*g) k=ye (k+1) (λi=>f i*g (k-i)):=O
theorem zm(f g:Pz):f*g=g*f:=by funext k;rw[w7,Sw];exact yC λi hi=>by rw[(W:k-(k-i)=i),xbB]
theorem wM(f g h:Pz):f*(g+h)=f*g+f*h:=by funext k;rw[zW,w7,w7,w7,<-YI];exact yC λi _=>by rw[zW,xfy]
theorem yY(f g h:Pz):(f+g)*h=f*h+g*h:=by grind [zm,wM]
theorem zdH(f g:Pz):f*(-g)= -(f*g):=by grind [zbw,ye,w7,uO]
theorem RA(f g:Pz):f-g=f+ -g:=by rfl
theorem qM(f g h:Pz):f*(g-h)=f*g-f*h:=by grind [RA,wM,zdH]
theorem kh(f g h:Pz):(f-g)*h=f*h-g*h:=by grind [zm,qM]
theorem zd(f g h:Pz):f*g*h=f*(g*h):=by
 funext k;have e1:(f*g*h) k=ye (k+1) (λi=>ye (i+1)<|λj=>(λj l=>f j*g l*h (k-(j+l))) j<|i-j):=by rw[w7];refine yC λi hi=> ?_;rw[w7,<-zdp];exact yC λj a=>by grind
 rw[e1,Pn<|λj l=>f j*g l*h (k-(j+l)),w7];refine yC λj a=> ?_;rw[w7,<-uO,(W:k+1-j=k-j+1)];exact yC λl hl=>by
  show f j*g l*h (k-(j+l))=f j*(g l*h (k-j-l));rw[(W:k-(j+l)=k-j-l),xdc]
theorem zG(f g h:Pz):f*(g*h)=g*(f*h):=by grind [zd,zm]
theorem zS(c:J)(f:Pz)(k:K):(pc c*f) k=c*f k:=by simp_all [pc,w7,Zu,yU]
def zE(f:Pz):pc 1*f=f:=by funext k;rw[zS,xdh]
def yE(f:Pz):pc 0*f=pc 0:=by funext k;rw[zS,xba];unfold pc;split<;>rfl
def zV(k:K):pc 0 k=0:=by unfold pc;split<;>rfl
def jR(a b:J):pc a*pc b=pc (a*b):=by funext k;rw[zS];unfold pc;split;rfl;lia
def Cg(m:J)(f g:Pz):Prop:=∀k,f k%m=g k%m
def Cg.rfl{f:Pz}:Cg m f f:=λ_=>Eq.refl _
def Cg.of{f g:Pz}(h:f=g):Cg m f g:=λ_=>by rw[h]
def Cg.symm{m:J}{f g:Pz}(h:Cg m f g):Cg m g f:=λk=>(h k).symm
def Cg.trans{m:J}{f g h:Pz}(h1:Cg m f g)(a:Cg m g h):Cg m f h:=λk=>(h1 k).trans<|a k
def Cg.add{f f' g a:Pz}(h1:Cg m f f')(b:Cg m g a):Cg m (f+g) (f'+a):=λk=>by
 rw[zW,zW,xeq,h1,b,<-xeq]
def Cg.sub{f f' g a:Pz}(h1:Cg m f f')(b:Cg m g a):Cg m (f-g) (f'-a):=λk=>by
 rw[xd,xd,Int.sub_emod,h1,b,<-Int.sub_emod]
def ll{m:J}{f g:K->J}:∀{n},(∀k,k<n->f k%m=g k%m)->ye n f%m=ye n g%m
 |0,_=>Eq.refl _
 |n+1,h=>by
  show(ye n f+f n)%m=(ye n g+g n)%m;rw[xeq,ll λk a=>h k W,h n W,<-xeq]
def Cg.mul{f f' g a:Pz}(h1:Cg m f f')(b:Cg m g a):Cg m (f*g) (f'*a):=λk=>by
 exact ll λi _=>by rw[xcj,h1,b,<-xcj]
def Cg.down{n:J}{f g:Pz}(h:Cg m f g)(hd:n∣m):Cg n f g:=λk=>by
 have:=h k;rw[<-xcE (f k) hd,this,xcE _ hd]
def Cg.dvd{f:Pz}(h:Cg m f (pc 0))(k:K):m∣f k:=xaG<|by rw[h,zV,xar]
def Cg.of_dvd{f:Pz}(h:∀k,m∣f k):Cg m f (pc 0):=λk=>by rw[zV,xar,xax<|h k]
def ed{m:J}{f:K->J}:∀{n},(∀k,k<n->m∣f k)->m∣ye n f
 |0,_=>xdI _
 |n+1,h=>Int.dvd_add (ed λk a=>h k W)<|h n W
def Cg.mul_zero{n:J}{f g:Pz}(a:Cg m f (pc 0))(b:Cg n g (pc 0)):Cg (m*n) (f*g) (pc 0):=Cg.of_dvd λk=>by
 exact ed λi _=>xfU (a.dvd i)<|b.dvd _
def Cg.mul_zero_l{f:Pz}(g:Pz)(a:Cg m f (pc 0)):Cg m (g*f) (pc 0):=by have:=(Cg.rfl (f:=g)).mul a;rw[zm g<|pc 0,yE]at this;lia
def Cg.iff_sub{f g:Pz}:Cg m f g↔Cg m (f-g) (pc 0):=by constructor;intro h;refine Cg.of_dvd λk=> ?_;exact xaG<|xaN.1<|h k;intro h k;have:=xax<|h.dvd k;exact xaN.2 this
end
section
variable{m:wN}{f g h s:Pz}
theorem yu(f:Pz):f*pc 1=f:=by rw[zm,zE]
def zk0(f g h s t e q:Pz):f-(g+(t*e+q*g))*(h+(s*e-q*h))=(f-g*h-e)+(e*(pc 1-(s*g+t*h))-(t*s)*(e*e)+(t*h-g*s)*(q*e)+(g*h)*(q*q)):=by simp only[wM,qM,yu,zG,zm];funext k;simp only[zW,xd];lia
def zgP(g h s t b c:Pz):(s-(s*b-c*h))*g+(t-(t*b+c*g))*h-pc 1=(s*g+t*h-pc 1-b)-(s*g+t*h-pc 1-b)*b-b*b:=by simp only[wM,qM,yu,zG,zm];funext k;simp only[zW,xd];lia
def Cg.zero_add(a:Cg m f (pc 0))(b:Cg m g (pc 0)):Cg m (f+g) (pc 0):=Cg.of_dvd λk=>by skip;exact Int.dvd_add (a.dvd k)<|b.dvd k
def Cg.zero_sub(a:Cg m f (pc 0))(b:Cg m g (pc 0)):Cg m (f-g) (pc 0):=Cg.of_dvd λk=>by skip;exact xdA (a.dvd k)<|b.dvd k
def Cg.mul_zero_r(g:Pz)(a:Cg m f (pc 0)):Cg m (f*g) (pc 0):=by rw[zm];exact a.mul_zero_l g
def zgb{n:J}(b:m∣n*n)(hn:n∣m){t e q r d i:Pz}(h1:Cg n f (g*h))(p:Cg n (s*g+t*h) (pc 1))(j:Cg m e (f-g*h))(hd:Cg m (s*e) (q*h+r))(c:Cg n q (pc 0))(v:Cg n r (pc 0))(l:Cg m d (g+(t*e+q*g)))(o:Cg m i (h+r)):
 Cg m f (d*i)/\Cg n d g/\Cg n i h:=by
 have a:Cg n e (pc 0):=(j.down hn).trans<|Cg.iff_sub.1 h1;have hc:Cg m r (s*e-q*h):=by
  refine Cg.iff_sub.2<|Cg.of_dvd λk=> ?_;have:=(Cg.iff_sub.1 hd).dvd k;simp only[zW,xd]at this⊢;have e1:r k-((s*e) k-(q*h) k)= -((s*e) k-((q*h) k+r k)):=W
  simp_all
 refine⟨?_,?_,?_⟩;refine Cg.trans ?_<|Cg.symm<|l.mul<|o.trans<|Cg.rfl.add hc;refine Cg.iff_sub.2 ?_;rw[zk0];have u:Cg m (f-g*h-e) (pc 0):=Cg.iff_sub.1 j.symm;have z2:Cg n (pc 1-(s*g+t*h)) (pc 0):=Cg.iff_sub.1 p.symm;exact u.zero_add ((((a.mul_zero z2).down b).zero_sub<|((a.mul_zero a).down b).mul_zero_l _).zero_add (((c.mul_zero a).down b).mul_zero_l _)|>.zero_add (((c.mul_zero c).down b).mul_zero_l _));refine(l.down hn).trans<|Cg.iff_sub.2 ?_;have e1:g+(t*e+q*g)-g=t*e+q*g:=by funext k;simp only[zW,xd];lia
 rw[e1];exact(a.mul_zero_l t).zero_add<|c.mul_zero_r g;refine(o.down hn).trans<|Cg.iff_sub.2 ?_;have e1:h+r-h=r:=by funext k;simp only[zW,xd];lia
 simp_all
def zgm{n:J}(o:m∣n*n)(hn:n∣m){t b c d a e:Pz}(p:Cg n (s*g+t*h) (pc 1))(i:Cg m b (s*g+t*h-pc 1))(hd:Cg m (s*b) (c*h+d))(q:Cg m a (s-d))(ht:Cg m e (t-(t*b+c*g))):
 Cg m (a*g+e*h) (pc 1):=by
 have j:=(i.down hn).trans<|Cg.iff_sub.1 p;have hc:Cg m d (s*b-c*h):=by
  refine Cg.iff_sub.2<|Cg.of_dvd λk=> ?_;have:=(Cg.iff_sub.1 hd).dvd k;simp only[zW,xd]at this⊢;have e1:d k-((s*b) k-(c*h) k)= -((s*b) k-((c*h) k+d k)):=W
  simp_all
 refine((q.trans<|Cg.rfl.sub hc).mul Cg.rfl|>.add (ht.mul Cg.rfl)).trans<|Cg.iff_sub.2 ?_;rw[zgP];have l:=Cg.iff_sub.1 i.symm;exact(l.zero_sub<|l.mul_zero_r b).zero_sub<|(j.mul_zero j).down o
end
section
variable{a p:wN}{fu j m:wP}{f g:Pz}{l:wF wN}
theorem ziI(hp:0<p):(if xcG a p<0 then xcG a p+p else xcG a p)=a%p:=by have h1:=xcN a (W:p≠0);have b:=xdN a hp;by_cases h:0<=a\/p∣a;grind;grind
theorem lj(b:0<=a:=by lia):xcG a p=a%p:=by grind
def xo(hp:0<p:=by lia):0<=a%p/\a%p<p:=⟨xcN a W,xdN a hp⟩
theorem Xb(h1:1<=p)(b:p<=65521)(c:Qp a):ZM fu a p=Z (a%p):=by unfold ZM;have d:=xo (a:=a) (p:=p);have ht:=ziI (a:=a) (p:=p) W;rw[zF,y9,F];by_cases h:xcG a p<0;rw[E h]at ht;rw[E h,zb,ht];grind
def zl(n:K)(f:Pz):N J:=(xaL n).map f
def ci(l:N J):Pz:=λk=>l.getD k 0
def nl(n:K)(f:Pz):N J:=zl (dg f n) f
def Jh(l:N J)(k:K):l.getD k 0=ci l k:=O
theorem yj(n:K)(f:Pz):X (zl n f)=n:=by unfold zl;simp
def uc{n:K}(h:j<n:=by lia):(zl n f).getD j 0=f j:=by simp_all [zl]
theorem xc{n:K}(h:∀k,k<n->f k=g k):zl n f=zl n g:=by simp_all [zl]
theorem Yt{n:K}{v:J}:(zl n f).set j v=zl n (XA f j v):=by refine xcA λi=> ?_;unfold zl XA;by_cases h:j=i;grind;grind
theorem dR(n:K):So n 0=zl n (λ_=>0):=by grind [zl,List.map_const',xeC]
theorem zj2{n:K}:zl n f++[f n]=zl (n+1) f:=by grind [zl,xdm]
def zcF{n:K}(h:m<=n:=by lia):(zl n f).take m=zl m f:=by unfold zl;rw[<-xeK,List.take_range,xci h]
theorem ZJ{n:K}(h:j<n):ci (zl n f) j=f j:=uc h
theorem yB(h:X l<=j):ci l j=0:=by simp_all [ci]
theorem X9{n:K}(h:∀k,n<=k->f k=0)(j:K):ci (zl n f) j=f j:=by grind [ZJ,yB,yj]
theorem PA(l:N J):zl (X l) (ci l)=l:=by grind [zl,ci,yj,xdR]
def zga(n:K)(f:Pz):X (nl n f)=dg f n:=yj _ _
def HN(n:K)(f:Pz):X (nl n f)<=n:=by rw[zga];exact jc _ _
def EO{n:K}(h:∀k,n<=k->f k=0)(j:K):ci (nl n f) j=f j:=by refine X9 (λk b=> ?_) j;by_cases hn:k<n;exact QB f n k b hn;simp_all
theorem zmV{n:K}(c:∀k,n<=k->f k=0)(d:∀k,m<=k->g k=0)(h:∀k,f k=g k):dg f n=dg g m:=by
 refine Ux ?_ ?_ ?_;refine xbx λe=> ?_;have:=QS g m W;grind;intro k h1 i;rw[h];by_cases b:k<m;exact QB g m k h1 b;simp_all;by_cases h0:dg g m=0
 lia;right;rw[h];exact QS g m h0
theorem zoy{n:K}(b:∀k,n<=k->f k=0)(c:∀k,m<=k->g k=0)(h:∀k,f k=g k):nl n f=nl m g:=by grind [nl,zmV,xc]
theorem S4{n:K}(h:∀k,k<n->f k=g k):nl n f=nl n g:=by grind [nl,Ew,jc,xc]
def Nl(l:N J):Prop:=X l=0\/ci l (X l-1)≠0
def Bc(n:K)(f:Pz):Nl (nl n f):=by
 by_cases h:X (nl n f)=0
 exact .inl h;right;rw[zga]at h⊢;unfold nl;rw[ZJ W];exact QS f n h
def Nl.eq(h:Nl l):l=nl (X l) (ci l):=by have e:=Ux (Nm _) (λk h1 b=>by lia)<|h.imp id id;unfold nl;rw[e,PA]
def Nl.ext{a b:N J}(d:Nl a)(e:Nl b)(h:∀k,ci a k=ci b k):a=b:=by rw[d.eq,e.eq];exact zoy (λk c=>yB c) (λk c=>yB c) h
theorem Nl.le(h:Nl l){n:K}(b:∀k,n<=k->ci l k=0):X l<=n:=by
 obtain h|h:=h
 lia;grind
def Rl(l:N J):Prop:=∀k,Qp<|ci l k
structure Fp(p:J)(l:N J):Prop where
 nn:∀k,0<=ci l k
 lt:∀k,ci l k<p
 nl:Nl l
def pm(p:J)(l:N J):N J:=nl (X l)<|λk=>ci l k%p
def HY(p:J)(l:N J)(k:K):ci (pm p l) k=ci l k%p:=EO (λk b=>by rw[yB b,xar]) k
def zbz(p:J)(l:N J):X (pm p l)<=X l:=HN _ _
def Df(hp:0<p)(l:N J):Fp p (pm p l):=⟨λk=>by rw[HY];exact(xo hp).1,λk=>by rw[HY];exact(xo hp).2,Bc _ _⟩
def P9(p:J)(l:N J):Cg p (ci<|pm p l) (ci l):=λk=>by rw[HY,xaT]
def Fp.mod(h:Fp p l)(k:K):ci l k%p=ci l k:=xaJ (h.nn k)<|h.lt k
def Fp.pm{p:J}{l:N J}(h:Fp p l):pm p l=l:=by refine Nl.ext (Bc _ _) h.nl λk=> ?_;exact(HY p l k).trans<|h.mod k
theorem Fp.ext{p:J}{a b:N J}(c:Fp p a)(d:Fp p b)(h:Cg p (ci a) (ci b)):a=b:=Nl.ext c.nl d.nl λk=>by rw[<-c.mod,h,d.mod]
def Fp.rl(h:Fp p l)(hp:p<=65521):Rl l:=λk=>by
 have h1:=h.nn k;have b:=h.lt k;lia
def zP(h1:1<=p)(n:p<=65521)(o:Rl l)(hl:X l<=1000000)(r:3000000<=fu):yp fu l p=Z (pm p l):=by
 unfold yp;have hd:=jc (λk=>ci l k%p) (X l);rw[yH,y9,F,dR,Y (v:=zl (X l)<|λk=>ci l k%p)];rw[Y (v:=pm p l)];refine zC (λt:N J=>∃m,m<=X l/\t=zl m (λk=>ci l k%p)/\dg (λk=>ci l k%p) m=dg (λk=>ci l k%p) (X l)) (λt=>X t) _ ?_ _ _ ⟨X l,Nm _,O,O⟩ (by rw[yj];lia);rintro t L ⟨m,u,rfl,b⟩ c;unfold cW;rw[yj]
 cases m with
 |zero=>
  rw[zF];unfold pm nl;rw[<-b];rfl
 |succ m=>
  rw[yg,(W:((m+1:K):J)-1=(m:J)),zb,yn,F,uc];by_cases h0:ci l m%p=0
  rw[E h0,zb,yH,y9,F,zcF];exact c _ ⟨m,W,O,by rw[<-rU (f:=λk=>ci l k%p) h0,b]⟩<|by rw[yj,yj];lia
  rw[P h0];unfold pm nl;rw[<-b,eF (f:=λk=>ci l k%p) h0]
 refine zC (λs:J×N J=>∃i:K,i<=X l/\s=((i:J),zl (X l) (λk=>if k<i then ci l k%p else 0))) (λs=>X l-s.1.toNat) _ ?_ _ _ ⟨0,xah _,by rw[xc (g:=λk=>if k<0 then ci l k%p else 0)<|λk _=>by rw[zF]];rfl⟩ (by show X l-0<fu;lia);rintro s L ⟨i,hi,rfl⟩ c;unfold cU;simp only;by_cases h:i<X l;rw[yg,zp h,F,Jh,Y<|Xb h1 n<|o i,zp (by rw[yj];exact h),F,Yt,zb];refine c _ ⟨i+1,W,?_⟩ (by show X l-((i:J)+1).toNat<X l-(i:J).toNat;lia);congr 1;refine xc λk q=> ?_;unfold XA;by_cases e:k=i;rw[E e,yg,e];rw[P e];show(if k<i then ci l k%p else 0)=_;by_cases d:k<i;rw[E d,yg];rw[P d,zF];rw[zF];congr 1;exact xc λk q=>by rw[yg]
end
section
variable{f g:Pz}{p:wN}{fu:wP}{a b:wF wN}
def sh(g:Pz)(i k:K):J:=if i<=k then g (k-i)else 0
def rws(f g:Pz)(n k:K):J:=ye n<|λi=>f i*sh g i k
theorem NJ{n:K}(d:∀k,n<=k->f k=0)(k:K):rws f g n k=(f*g) k:=by have e1:=ND (f:=λi=>f i*sh g i k) (λi hi=>by rw[d i hi,xba])<|k+1;have c:=ND (f:=λi=>f i*sh g i k) (n:=k+1) (λi hi=>by unfold sh;rw[zF,xaz]) n;rw[xdW]at c;unfold rws;rw[<-e1,c];exact yC λi hi=>by unfold sh;rw[yg]
theorem S9(a b:N U)(k:K):∀n,Xr a b n k=rws (cf a) (cf b) n k
 |0=>rfl
 |n+1=>by
  show Xr a b n k+cf a n*Su b n k=rws (cf a) (cf b) n k+cf a n*sh (cf b) n k;rw[S9 a b k n];rfl
theorem uH(a b:N U):cf (xg a b)=(cf a:Pz)*cf b:=by grind [Np,S9,NJ,yq]
def BQ(f g:Pz)(i j k:K):J:=rws f g i k+if i<=k/\k<i+j then f i*g (k-i)else 0
def zdq(f g:Pz)(i k:K):BQ f g i 0 k=rws f g i k:=by unfold BQ;lia
theorem zdc{n:K}(c:∀k,n<=k->g k=0)(i k:K):BQ f g i n k=rws f g (i+1) k:=by show _=rws f g i k+f i*sh g i k;unfold BQ sh;by_cases h:i<=k;grind;grind
def zdi(f g:Pz)(p:J)(i j k:K):XA (λk=>BQ f g i j k%p) (i+j) ((BQ f g i j (i+j)%p+f i*g j)%p) k=BQ f g i (j+1) k%p:=by unfold XA;by_cases h:k=i+j;subst h;unfold BQ;simp_all;rw[P h];show BQ f g i j k%p=_;unfold BQ;congr 2;by_cases c:i<=k/\k<i+j;lia;lia
def xM(p:J)(a b:N J):N J:=nl (X a+X b)<|λk=>(ci a*ci b) k%p
theorem uX{n m:K}(c:∀k,n<=k->f k=0)(d:∀k,m<=k->g k=0){k:K}(h:n+m<=k+1:=by lia):(f*g) k=0:=by refine yU λi hi=> ?_;by_cases h1:i<n;grind;simp_all
def bU(p:J)(a b:N J)(k:K):ci (xM p a b) k=(ci a*ci b) k%p:=EO (λk d=>by rw[uX (λj c=>yB c)<|λj c=>yB c,xar]) k
theorem Yf(p:J)(a b:N J):Cg p (ci<|xM p a b) (ci a*ci b):=λk=>by rw[bU,xaT]
theorem jz(hp:0<p)(a b:N J):Fp p (xM p a b):=⟨λk=>by rw[bU];exact(xo hp).1,λk=>by rw[bU];exact(xo hp).2,Bc _ _⟩
def jV(p:J)(a b:N J):X (xM p a b)<=X a+X b:=HN _ _
def gA{x y:J}(e:p<=65521)(d:0<=x)(h:x<p)(c:0<=y)(hc:y<p):0<=x*y/\x*y<=4293001441:=by refine⟨xcB d c,?_⟩;have h1:x*y<=65521*y:=xbC W c;lia
def vo(h1:1<=p)(l:p<=65521)(m:Fp p a)(o:Fp p b)(hc:X a<=100000)(hd:X b<=100000)(q:3000000<=fu):vc fu a b p=Z (xM p a b):=by
 unfold vc;have⟨n,hn⟩:∃n,n=X a+X b:=⟨_,O⟩;rw[zb,(W:(X a:J)+(X b:J)=(n:J)),yH,y9,F,dR,Y (v:=zl n<|λk=>rws (ci a) (ci b) (X a) k%p)];have r:∀k,n<=k->rws (ci a) (ci b) (X a) k%p=0:=λk d=>by rw[NJ<|λj c=>yB c,uX (λj c=>yB c)<|λj c=>yB c,xar]
 have t:Rl (zl n<|λk=>rws (ci a) (ci b) (X a) k%p):=λk=>by
  rw[X9 r];have:=xo (a:=rws (ci a) (ci b) (X a) k) (p:=p);exact⟨W,W⟩
 rw[Y<|zP h1 l t (by rw[yj];lia) q];congr 1;unfold pm xM;rw[yj,<-hn];exact S4 λk d=>by rw[ZJ d,xaT,NJ<|λj c=>yB c]
 refine zC (λs:J×N J=>∃i:K,i<=X a/\s=((i:J),zl n<|λk=>rws (ci a) (ci b) i k%p)) (λs=>X a-s.1.toNat) _ ?_ _ _ ⟨0,xah _,by rw[xc (g:=λk=>rws (ci a) (ci b) 0 k%p) λk _=>by show(0:J)=0%p;rw[xar]];rfl⟩ (by show X a-0<fu;lia);rintro s L ⟨i,hi,rfl⟩ u;unfold K1;simp only;by_cases w:i<X a;rw[yg,Y O];simp only[Xs];rw[zp w,F,Y (v:=zl n<|λk=>rws (ci a) (ci b) (i+1) k%p),zb];exact u _ ⟨i+1,W,O⟩ (by show X a-((i:J)+1).toNat<X a-(i:J).toNat;lia);refine zC (λs:J×N J=>∃j:K,j<=X b/\s=((j:J),zl n<|λk=>BQ (ci a) (ci b) i j k%p)) (λs=>X b-s.1.toNat) _ ?_ _ _ ⟨0,xah _,by rw[xc λk _=>by rw[<-zdq]];rfl⟩ (by show X b-0<fu;lia);rintro s y ⟨j,c,rfl⟩ h;unfold KD;simp only;by_cases x:j<X b;rw[yg,Y O];simp only[Xs];have e:(i:J)+(j:J)=((i+j:K):J):=W
 have r1:=xo (a:=BQ (ci a) (ci b) i j<|i+j) (p:=p);have⟨r2,z⟩:=gA l (m.nn i) (m.lt i) (o.nn j)<|o.lt j;rw[zp x,F,e,zb,zb,zp (by rw[yj];lia),F,uc,Jh,Jh,zb,zb,y9,F,lj,zp (by rw[yj];lia),F,Yt,zb];exact h _ ⟨j+1,W,by rw[xc λk _=>zdi (ci a) (ci b) p i j k];rfl⟩ (by show X b-((j:J)+1).toNat<X b-(j:J).toNat;lia);rw[zF,Y O];simp only[xam,Z9];obtain rfl:j=X b:=W
 rw[xc λk _=>by rw[zdc<|λk d=>yB d]];rw[zF,Y O];simp only[xam,Z9];obtain rfl:i=X a:=W
 rfl
def Wj(p:J)(a b:N J)(c:J):N J:=nl (max (X a) (X b))<|λk=>(ci a k+c*ci b k)%p
def LQ(p:J)(a b:N J)(c:J)(k:K):ci (Wj p a b c) k=(ci a k+c*ci b k)%p:=EO (λk d=>by rw[yB W,yB W,xaz];exact xar _) k
def N6(p:J)(a b:N J)(c:J):Cg p (ci<|Wj p a b c) (ci a+pc c*ci b):=λk=>by rw[LQ,xaT,zW,zS]
def bS(hp:0<p)(a b:N J)(c:J):Fp p (Wj p a b c):=⟨λk=>by rw[LQ];exact(xo hp).1,λk=>by rw[LQ];exact(xo hp).2,Bc _ _⟩
def CH(p:J)(a b:N J)(c:J):X (Wj p a b c)<=max (X a) (X b):=HN _ _
theorem znk{n:K}(h:X a<=n):H3 (So n 0) a=zl n (ci a):=by unfold H3;rw[xaF,xci h,xbQ,List.drop_replicate];refine xdR (by rw[xau,xaF,yj];lia) λj h1 c=> ?_;have d:=ZJ (f:=ci a) (by rw[yj]at c;exact c);have e:(zl n<|ci a).getD j 0=a.getD j 0:=d;grind
def J2{c:J}(h1:1<=p)(o:p<=65521)(h:Fp p a)(j:Fp p b)(hc:0<=c)(hd:c<p)(z:X a<=100000)(A:X b<=100000)(q:3000000<=fu):Xa fu a b c p=Z (Wj p a b c):=by
 unfold Xa;have⟨n,hn⟩:∃n,n=max (X a) (X b):=⟨_,O⟩;have r:∀k,n<=k->ci a k+c*ci b k=0:=λk m=>by rw[yB W,yB W,xaz];rfl
 have t:∀k,0<=ci a k+c*ci b k/\ci a k+c*ci b k<=4293066962:=λk=>by
  have⟨r2,u⟩:=gA o hc hd (j.nn k)<|j.lt k;have:=h.nn k;have:=h.lt k;lia
 rw[F,(W:max (X a:J) (X b:J)=(n:J)),yH,y9,F,F,znk W,Y (v:=zl n<|λk=>ci a k+c*ci b k)]
 have w:Rl (zl n<|λk=>ci a k+c*ci b k):=λk=>by
  rw[X9 r];have:=t k;exact⟨W,W⟩
 rw[Y<|zP h1 o w (by rw[yj];lia) q];congr 1;unfold pm Wj;rw[yj,<-hn];exact S4 λk m=>by rw[ZJ m]
 refine zC (λs:J×N J=>∃i:K,i<=X b/\s=((i:J),zl n (λk=>ci a k+if k<i then c*ci b k else 0))) (λs=>X b-s.1.toNat) _ ?_ _ _ ⟨0,xah _,by rw[xc (f:=ci a) (g:=λk=>ci a k+if k<0 then c*ci b k else 0) λk _=>by rw[zF,xcc]];rfl⟩ (by show X b-0<fu;lia);rintro s L ⟨i,hi,rfl⟩ x;unfold mJ;simp only;by_cases y:i<X b;rw[yg,Y O];simp only[Xs];have⟨r2,u⟩:=gA o hc hd (j.nn i)<|j.lt i;have:=h.nn i;have:=h.lt i;rw[zp y,F,zp (by rw[yj];lia),F,uc,P<|xfQ i,xcc,Jh,zb,zb,zp (by rw[yj];lia),F,Yt,zb];refine x _ ⟨i+1,W,?_⟩ (by show X b-((i:J)+1).toNat<X b-(i:J).toNat;lia);congr 1;refine xc λk m=> ?_;unfold XA;by_cases e:k=i;rw[E e,yg,e];rw[P e];show ci a k+(if k<i then c*ci b k else 0)=_;by_cases d:k<i;rw[E d,yg];rw[P d,zF];rw[zF,Y O];simp only[xam,Z9];congr 1;refine xc λk m=> ?_;by_cases d:k<i;rw[E d];rw[P d,yB (l:=b) W,xaz]
end
section
variable{p a fu:wP}
theorem iu(hp:2<=p)(h:kU p)(h0:0<a:=by lia)(h1:a<p:=by lia):xdx p a=1:=by
 have⟨g,b⟩:∃g,g=xdx p a:=⟨_,O⟩;have d1:g∣p:=by rw[b];exact xfJ _ _
 have d2:g∣a:=by rw[b];exact xdZ _ _
 have j:g<=a:=Nat.le_of_dvd h0 d2;have i:0<g:=Nat.pos_of_dvd_of_pos d1 W;rw[<-b];refine xcK (xbx λk=> ?_) i;by_cases c:g*g<=p;exact h g W c<|Nat.mod_eq_zero_of_dvd d1;have⟨d,hd⟩:=d1;have l:d<g:=by refine xdw λf=>c ?_;rw[hd];exact xaB _ f
 have hc:2<=d:=by
  refine xbx λf=> ?_;have:d=0\/d=1:=W
  obtain e|e:=this
  grind;grind
 refine h d hc ?_ ?_;rw[hd];exact xag _ W
 rw[hd];exact Nat.mul_mod_left _ _
theorem ZF{p:J}(hp:qO p=qR)(b:400<fu:=by lia):vy fu p=Z 0:=by grind [vy,Y,Vh]
structure IvI(p a:K)(r0 r1:K)(t0 t1:J):Prop where
 lt:r1<r0
 two:2<=r0
 le:r0<=p
 c0:(p:J)∣(r0:J)-t0*a
 c1:(p:J)∣(r1:J)-t1*a
 g:xdx r0 r1=1
 s:∃u0 u1:K,((t0=u0/\t1= -u1)\/(t0= -u0/\t1=u1))/\r0*u1+r1*u0=p
theorem IvI.step{r0 r1:K}{t0 t1:J}(h:IvI p a r0 r1 t0 t1)(k:2<=r1):IvI p a r1 (r0%r1) t1 (t0-((r0/r1:K):J)*t1)/\(((r0/r1:K):J)*t1).natAbs<=p/\(t0-((r0/r1:K):J)*t1).natAbs<=p:=by
 have hd:=xbt r0 r1;have l:=xaQ r0 (W:0<r1);have⟨c,b,m,r⟩:=h.s;generalize t:r0/r1=q at*
 generalize n:r0%r1=r2 at*
 have u:=h.le;have hi:=h.lt;have e1:r1*(c+q*b)+r2*b=p:=by grind
 have v:c+q*b<=p:=by have d:1*(c+q*b)<=r1*(c+q*b):=xag _ W;lia
 have hc:((q*b:K):J)=(q:J)*(b:J):=m7
 have f:((t1=b/\t0-(q:J)*t1= -((c+q*b:K):J))\/(t1= -b/\t0-(q:J)*t1=((c+q*b:K):J)))/\((q:J)*t1).natAbs<=p:=by
  rcases m with⟨i,j⟩|⟨i,j⟩
  grind;rw[i,j,<-hc];exact⟨.inl ⟨O,W⟩,W⟩
 refine⟨⟨l,k,W,h.c1,?_,?_,b,c+q*b,f.1,e1⟩,f.2,by rcases f.1 with⟨_,e⟩|⟨_,e⟩<;>lia⟩;have d:=xdA h.c0<|xbv h.c1<|xcP (q:J) _;have o:(r0:J)-t0*a-(q:J)*((r1:J)-t1*a)=(r2:J)-(t0-(q:J)*t1)*a:=by
  rw[Int.mul_sub,Int.sub_mul,xdc];have:(r0:J)=(r1:J)*(q:J)+(r2:J):=by rw[<-hd];simp
  rw[this,xbB (r1:J)];lia
 rw[o]at d;exact d;have d:=h.g;rw[<-n,xdJ,<-Nat.gcd_rec,xdJ];exact d
def zeK(hp:p<=65521)(j:70000<fu){t:J}:∀{r0 r1:K}{t0 t1:J},IvI p a r0 r1 t0 t1->∀n,r1<n->∃x:J,zg (nS fu) n ((r0:J),(r1:J),t0,t1)=Z (.inl x)/\(p:J)∣1-x*a/\x.natAbs<=p:=by
 intro r0 r1
 induction r1 using xdG generalizing r0 with
 |_ r1 c=>
  intro t0 t1 h n hn;obtain⟨n,rfl⟩:∃k,n=k+1:=⟨n-1,W⟩;rw[ux];unfold nS;simp only;have hc:=h.lt;have l:=h.two;have hd:=h.le;by_cases h0:r1=0
  have:=h.g;simp_all;rw[zF];by_cases h1:r1=1
  rw[yg];refine⟨t1,O,?_,?_⟩;have:=h.c1;rw[h1]at this;exact this;have⟨m,b,d,o⟩:=h.s;have q:1*b<=r0*b:=xag _ W;rcases d with⟨_,e⟩|⟨_,e⟩<;>lia
  have⟨f,r,u⟩:=h.step W;have e1:xdC (r0:J) (r1:J)=((r0/r1:K):J):=O;have v:=xbt r0 r1;have i:((r0/r1:K):J)*(r1:J)=((r1*(r0/r1):K):J):=by rw[xbB];simp
  have hi:((r0/r1:K):J)<=(r0:J):=Int.ofNat_le.2<|xcI _ _;have w:(0:J)<=((r0/r1:K):J):=xeR _;rw[zF,y9,e1,zb,i,zb,(W:(r0:J)-((r1*(r0/r1):K):J)=((r0%r1:K):J)),zb,zb,zb];exact c (r0%r1) (xaQ _ W) f n (by have:=xaQ r0 (W:0<r1);lia)
def Uq{p a:J}(hp:qO p=qR)(h0:0<a)(h1:a<p)(f:3000000<=fu):∃x,VF fu a p=Z (x,0)/\0<=x/\x<p/\(x*a)%p=1:=by
 have⟨g,i⟩:=zB hp;have c:kU p.toNat:=by refine xad λh=> ?_;rw[Ik<|λe=>h e.2.2]at hp;simp_all
 obtain⟨P,rfl⟩:=xaE (W:0<=p);obtain⟨A,rfl⟩:=xaE (W:0<=a);have d:IvI P A P A 0 1:=⟨W,W,Nm _,by rw[xba,xdk];exact xer _,by rw[xdh,xes];exact xdI _,iu W c,0,1,.inr ⟨O,O⟩,W⟩;have⟨x,k1,k2,k3⟩:=zeK (fu:=fu) (t:=0) (W:P<=65521) W d fu W;have b:=xo (a:=x) (p:=(P:J));refine⟨x%P,?_,b.1,b.2,?_⟩;unfold VF;rw[Y<|ZF hp,E O,Y<|Xb W W ⟨W,W⟩,xaJ (a:=(A:J)) W W,Y k1];simp only;rw[Y<|Xb W W ⟨W,W⟩];rw[xcj,xaT,<-xcj];have:=xaN.2<|xax k2;rw[<-this];exact xaJ m6 W
end
section
variable{p:wN}{fu i qn:wP}{a b:wF wN}{R Q:Pz}
def zU{α β:Type}{f:(β->V α)->β->V α}(j:β->Prop)(m:β->K)(Q:α->Prop)
 (step:∀s L,j s->(∀c,j c->m c<m s->∃r,L c=Z r/\Q r)->∃r,f L s=Z r/\Q r):∀(n:K) (s:β),j s->m s<n->∃r,zg f n s=Z r/\Q r
 |0,s,_,h=>kW h<|xbc _
 |n+1,s,d,h=>step s _ d λc e g=>zU j m Q step n c e W
theorem wH{f:K->J}{i:K}(h:∀k,k≠i->f k=0):∀n,ye n f=if i<n then f i else 0
 |0=>by skip;rfl
 |n+1=>by
  show ye n f+f n=_;rw[wH h n];by_cases h1:i<n;grind;grind
theorem VO(i:K)(c:J)(g:Pz)(k:K):((mono i c:Pz)*g) k=c*sh g i k:=by rw[w7,wH λj d=>by show mono i c j*_=0;unfold mono;rw[P d,xba]];unfold sh;by_cases h:i<=k;rw[yg];unfold mono;simp_all;grind
theorem kv(x:J):ci [x]=pc x:=by
 funext k
 cases k with
 |zero=>rfl
 |succ k=>exact yB m7
def QN{x:J}(h0:0<x:=by lia)(h1:x<p:=by lia):Fp p [x]:=⟨λk=>by rw[kv];unfold pc;split<;>lia,λk=>by rw[kv];unfold pc;split<;>lia,.inr (by show x≠0;lia)⟩
def zbi(h:0<p:=by lia):Fp p []:=⟨λk=>by rw[yB<|xah _];lia,λk=>by skip;exact h,.inl O⟩
def zlx{x c:J}(h:0<=x)(d:(x*c)%p=1):0<x:=by
 obtain h|h:=Int.lt_or_eq_of_le h
 exact h;rw[<-h,xba]at d;cases d
def K8{c:J}(hp:qO p=qR)(h:Fp p a)(h0:0<c)(h1:c<p)(hc:X a<=90000)(d:3000000<=fu):∃x,0<x/\x<p/\(x*c)%p=1/\VF fu c p=Z (x,0)/\qV fu a c p=Z (xM p a [x]):=by have⟨l,j⟩:=zB hp;have⟨x,e1,k,e,f⟩:=Uq hp h0 h1 d;have g:=zlx k f;refine⟨x,g,e,f,e1,?_⟩;unfold qV;rw[Y e1];simp only;rw[Y<|vo W j h (QN g e) W m7 d]
def nZ(R g:Pz)(p c:J)(i j:K):Pz:=λk=>if i<=k/\k<i+j then(R k+(p-c)*g (k-i))%p else R k
theorem zdm(R g:Pz)(p c:J)(i j k:K):XA (nZ R g p c i j) (i+j) ((R (i+j)+(p-c)*g j)%p) k=nZ R g p c i (j+1) k:=by grind [nZ,XA]
theorem zeC{g:Pz}{c:J}{n:K}(d:∀k,R k%p=R k)(e:∀k,n<=k->g k=0)(k:K):nZ R g p c i n k%p=(R k-c*sh g i k)%p:=by unfold nZ sh;by_cases h:i<=k/\k<i+n;rw[E h,E h.1,xaT,Int.sub_mul];refine xaN.2<|xax ⟨g<|k-i,?_⟩;lia;grind
def zdK{n:K}{c x:J}(h1:1<=p)(q:p<=65521)(d:Fp p b)(h:∀k,0<=R k/\R k<p)(hc:0<=c)(r:c<p)(hd:i+X b<=n)(hn:n<=100000)(t:3000000<=fu):
 zg (XF fu b (i:J) c) fu (b,p,x,0,zl n R,zl qn Q)=Z (b,p,x,zl n<|nZ R (ci b) p c i (X b),zl qn Q):=by
 refine zC (λs:N J×J×J×J×N J×N J=>∃j:K,j<=X b/\s=(b,p,x,(j:J),zl n<|nZ R (ci b) p c i j,zl qn Q)) (λs=>X b-s.2.2.2.1.toNat) _ ?_ _ _ ⟨0,xah _,by rw[xc (f:=R) (g:=nZ R (ci b) p c i 0) λk _=>by unfold nZ;rw[zF]];rfl⟩ (by show X b-0<fu;lia);rintro s L ⟨j,u,rfl⟩ l;unfold XF;simp only;by_cases m:j<X b;rw[yg,Y O];simp only[Xs];have e:(i:J)+(j:J)=((i+j:K):J):=W
 have o:nZ R (ci b) p c i j (i+j)=R (i+j):=by unfold nZ;rw[zF]
 have⟨r1,r2⟩:=h<|i+j;have v:0<=(p-c)*ci b j:=xcB W<|d.nn j;have w:(p-c)*ci b j<=65521*ci b j:=xbC W<|d.nn j;have y:=d.lt j;rw[zp m,F,e,zb,zb,zp (by rw[yj];lia),F,uc,Jh,o,zb,zb,zb,y9,F,lj,zp (by rw[yj];lia),F,Yt,zb];exact l _ ⟨j+1,W,by rw[xc λk _=>zdm R (ci b) p c i j k];rfl⟩ (by show X b-((j:J)+1).toNat<X b-(j:J).toNat;lia);rw[zF,Y O];simp only[xam,Z9];obtain rfl:j=X b:=W
 rfl
structure FdI(p:J)(a b:N J)(qn i:K)(R Q:Pz):Prop where
 hi:i<=qn
 rr:∀k,0<=R k/\R k<p
 qr:∀k,0<=Q k/\Q k<p
 rz:∀k,i+(b.length-1)<=k->R k=0
 ql:∀k,k<i->Q k=0
 qz:∀k,qn<=k->Q k=0
 cg:Cg p (ci a) (Q*ci b+R)
def FdI.step{x:J}(h1:1<=p)(h:FdI p a b qn (i+1) R Q)(s:0<X b)(j:(x*ci b (X b-1))%p=1):
 FdI p a b qn i (nZ R (ci b) p (R (i+(X b-1))*x%p) i (X b)) (XA Q i<|R (i+(X b-1))*x%p):=by
 have⟨c,hc⟩:∃c,c=R (i+(X b-1))*x%p:=⟨_,O⟩;have hi:=h.hi;have e:=xo (a:=R (i+(X b-1))*x) (p:=p);rw[<-hc]at e⊢;have m:∀k,R k%p=R k:=λk=>xaJ (h.rr k).1 (h.rr k).2;have f:=zeC (g:=ci b) (c:=c) (i:=i) (n:=X b) m<|λk d=>yB d;have hd:∀k,0<=nZ R (ci b) p c i (X b) k/\nZ R (ci b) p c i (X b) k<p:=λk=>by
  unfold nZ;split;exact xo;exact h.rr k
 have o:∀k,XA Q i c k=(Q+(mono i c:Pz)) k:=λk=>by
  rw[zW];unfold XA mono;by_cases d:k=i;rw[E d,E d,h.ql k W,xcO];lia
 refine⟨W,hd,λk=> ?_,λk d=> ?_,λk d=> ?_,λk d=> ?_,?_⟩;unfold XA;split;exact e;exact h.qr k;have q:=xaJ (hd k).1 (hd k).2;rw[<-q,f];by_cases r:k=i+(X b-1);unfold sh;rw[yg,(W:k-i=X b-1),hc,r,Int.sub_emod,xcj,xaT,<-xcj,xdc,xcj _<|x*_,j,xcU,xaT,<-Int.sub_emod,xes,xar];unfold sh;rw[h.rz k W,yg,yB (l:=b) W,xaz,xdk,xar];unfold XA;rw[zF];exact h.ql k W
 unfold XA;rw[zF];exact h.qz k d;refine h.cg.trans λk=> ?_;rw[show XA Q i c=Q+(mono i c:Pz)from Z0 o,yY,zW,zW,zW,VO,xeq<|_+_,f,<-xeq];congr 1;lia
def xN(hp:qO p=qR)(g:Fp p a)(c:Fp p b)(m:0<X b)(B:X a<=90000)(ht:X b<=90000)(d:3000000<=fu):
 ∃q r,xR fu a b p=Z (q,r)/\Fp p q/\Fp p r/\Cg p (ci a) (ci q*ci b+ci r)/\X r<X b/\X q<=X a:=by
 have⟨C,e⟩:=zB hp;unfold xR;rw[va (by simp;lia),F,xbO,zb];by_cases hl:X a<X b;rw[yg];refine⟨[],a,O,zbi,g,Cg.of ?_,hl,xah _⟩;funext k;rw[zW,show ci []=pc 0 from Z0 λj=>by rw[yB<|xah _,zV],yE,zV,xcO];have⟨qn,D⟩:∃qn,qn=X a-X b+1:=⟨_,O⟩;have E:ci b (X b-1)≠0:=by
  obtain h|h:=c.nl
  lia;exact h
 have t1:=c.nn<|X b-1;have t2:=c.lt<|X b-1;have⟨x,e1,o,t,u⟩:=Uq (fu:=fu) hp (W:0<ci b (X b-1)) t2 d;have c1:(X b:J)-1=((X b-1:K):J):=W
 have c2:(X a:J)-(X b:J)+1=(qn:J):=W
 rw[zF,c1,zb,yn,F,Jh,Y e1];simp only;rw[zb,c2,yH,y9,F]
 have hc:=zU (f:=X6 fu b p x) (λs:J×N J×N J=>∃(i:K) (R Q:Pz),s=((i:J)-1,zl (X a) R,zl qn Q)/\FdI p a b qn i R Q) (λs=>(s.1+1).toNat)
  (λr=>∃R Q:Pz,r=(zl (X a) R,zl qn Q)/\FdI p a b qn 0 R Q) (by
   rintro s L ⟨i,R,Q,rfl,h⟩ v;unfold X6;simp only
   cases i with
   |zero=>
    rw[zF];exact⟨_,O,R,Q,O,h⟩
   |succ i=>
    have hi:=h.hi;have⟨r1,r2⟩:=h.rr<|i+(X b-1);have⟨w,G⟩:=gA e r1 r2 o t;have hd:=xo (a:=R (i+(X b-1))*x) (p:=p);rw[(W:((i+1:K):J)-1=(i:J)),yg,zb,(W:(i:J)+(X b:J)-1=((i+(X b-1):K):J)),zb,zp (by rw[yj];lia),F,uc,zb,y9,F,lj w,zp (by rw[yj];lia),F,Yt,Y<|zdK W e c h.rr hd.1 hd.2 W W d];simp only;rw[zb];exact v _ ⟨i,_,_,O,h.step W m u⟩ (by show((i:J)-1+1).toNat<(((i+1:K):J)-1+1).toNat;lia))
  fu ((X a:J)-(X b:J),a,So qn 0) ⟨qn,ci a,λ_=>0,by rw[PA,dR,(W:(X a:J)-(X b:J)=(qn:J)-1)],Nm _,λk=>⟨g.nn k,g.lt k⟩,λk=>⟨xfV _,W⟩,λk y=>yB W,λk _=>O,λk _=>O,Cg.of (by funext k;rw[zW,show((λ_=>0:Pz))=pc 0 from Z0 λj=>(zV j).symm,yE,zV,xcO])⟩ (by show((X a:J)-(X b:J)+1).toNat<fu;lia)
 obtain⟨_,z,R,Q,rfl,h⟩:=hc;rw[Y z];simp only;have A:Rl (zl (X a) R):=λk=>by
  rw[X9 λj l=>h.rz j W];have:=h.rr k;exact⟨W,W⟩
 have hn:Rl (zl qn Q):=λk=>by
  rw[X9 h.qz];have:=h.qr k;exact⟨W,W⟩
 rw[Y<|zP W e hn (by rw[yj];lia) d,Y<|zP W e A (by rw[yj];lia) d];refine⟨_,_,O,Df W _,Df W _,?_,?_,?_⟩;refine h.cg.trans<|Cg.add (Cg.mul (Cg.symm<|(P9 p _).trans<|Cg.of<|funext (X9 h.qz)) Cg.rfl)<|Cg.symm<|(P9 p _).trans<|Cg.of<|funext (X9 λj l=>h.rz j W);have:=(Df (p:=p) W<|zl (X a) R).nl.le (n:=X b-1) λk y=>by rw[HY,X9 (λj l=>h.rz j W),h.rz k W,xar]
 lia;have:=zbz p<|zl qn Q;rw[yj]at this;lia
end
section
variable{p:wN}{fu N:wP}{r0 s0 t0 r1 s1 t1 g h:wF wN}{f:Pz}
def zol(f:Pz):Cg p (pc (p-1)*f) (-f):=λk=>by
 rw[zS,zbw,Int.sub_mul];simp_all
def aR(a b:wF J):Cg p (ci<|Wj p a b<|p-1) (ci a-ci b):=by refine(N6 p a b<|p-1).trans ?_;exact Cg.rfl.add<|zol _
def B9{S:K}(hp:qO p=qR)(b:Fp p r0)(l:Fp p s0)(m:Fp p t0)(hc:Fp p r1)(hl:Fp p s1)(o:Fp p t1)(h0:0<X r1)(l1:X r0<=N)(C:X r1<=N)(D:X s0<=S)(E:X t0<=S)(H:X s1<=S)(M:X t1<=S)(Q:N<=9000)(R:S<=90000)(a:3000000<=fu):
 ∃q,Fp p q/\X q<=N/\Cg p (ci r0) (ci q*ci r1+ci (Wj p r0 (xM p q r1)<|p-1))/\X (Wj p r0 (xM p q r1)<|p-1)<X r1/\
  X5 fu [r0,s0,t0] [r1,s1,t1] p=Z [Wj p r0 (xM p q r1)<|p-1,Wj p s0 (xM p q s1)<|p-1,Wj p t0 (xM p q t1)<|p-1]:=by
 have⟨T,c⟩:=zB hp;have⟨q,r,e1,d,s,hd,t,hv⟩:=xN (fu:=fu) hp b hc h0 W W a;have e:Wj p r0 (xM p q r1) (p-1)=r:=by refine Fp.ext (bS W _ _ _) s<|(aR r0<|xM p q r1).trans ?_;refine(hd.sub<|Yf p q r1).trans<|Cg.of ?_;funext k;simp only[zW,xd];lia
 refine⟨q,d,W,by rw[e];exact hd,by rw[e];exact t,?_⟩;unfold X5;have f1:=jV p q r1;have f2:=jV p q s1;have f3:=jV p q t1;rw[show(0:J)=((0:K):J)from O,zp m6,zp m6,F];show G (xR fu r0 r1 p) _=_;rw[Y e1];simp only;rw[Y (v:=([Wj p r0 (xM p q r1)<|p-1,Wj p s0 (xM p q s1)<|p-1,Wj p t0 (xM p q t1)<|p-1],So 3 []))];have⟨n,hn⟩:∃n,fu=n+4:=⟨fu-4,W⟩
 have step:∀(L:wF J×J×wF (wF J)×wF (wF J)->V (wF (wF J)×wF (wF J))) (i:K) (x y z u:wF J) (ts:wF (wF J)),i<3->X ts=3->ts.getD i []=x->[r1,s1,t1].getD i []=y->Fp p x->Fp p y->X x<=90000->X y<=90000->
  ZH fu [r1,s1,t1] p L (q,(i:J),ts,So 3 [])=L (q,((i+1:K):J),ts.set i<|Wj p x (xM p q y)<|p-1,So 3 []):=λL i x y z u ts hi U w A ht B hz hA=>by
  unfold ZH;simp only;have f4:=jV p q y;rw[yg,Y O];simp only[Xs];rw[zp hi,zp hi,F,w,A,Y<|vo W c d B W W a,zb,Y<|J2 W c ht (jz W _ _) W W W W a,zp hi,F,zb];rfl
 have j:zg (ZH fu [r1,s1,t1] p) (n+4) (q,((0:K):J),[r0,s0,t0],So 3 [])=Z ([Wj p r0 (xM p q r1)<|p-1,Wj p s0 (xM p q s1)<|p-1,Wj p t0 (xM p q t1)<|p-1],So 3 []):=by rw[ux,step _ 0 r0 r1 [] [] _ m6 O O O b hc W W,ux,step _ 1 s0 s1 [] [] _ m6 O O O l hl W W,ux,step _ 2 t0 t1 [] [] _ m6 O O O m o W W,ux];unfold ZH;simp only;rw[P m6,Y O];rfl
 rw[<-hn]at j;exact j
def Fs(f:Pz):Prop:=∃n,∀k,n<=k->f k=0
def Fs.add{g:Pz}(a:Fs f)(b:Fs g):Fs (f+g):=by have⟨n,hn⟩:=a;have⟨m,c⟩:=b;exact⟨n+m,λk d=>by rw[zW,hn k W,c k W];rfl⟩
def Fs.mul{g:Pz}(a:Fs f)(b:Fs g):Fs (f*g):=by have⟨n,hn⟩:=a;have⟨m,c⟩:=b;exact⟨n+m,λk d=>uX hn c⟩
def Fs.pc(c:J):Fs (pc c):=⟨1,λk a=>by unfold Go.Proofs.YtoegnnjcmlghhaaGreat.pc;rw[zF]⟩
theorem Fs.ci(l:wF J):Fs (ci l):=⟨X l,λk a=>yB a⟩
def Fs.cf(l:wF U):Fs (cf l):=⟨X l,λk a=>yq a⟩
structure BzR(p:J)(g h d s t:wF J)(S:K):Prop where
 df:Fp p d
 sf:Fp p s
 tf:Fp p t
 cg:Cg p (ci d) (ci s*ci g+ci t*ci h)
 dv:∃A C:Pz,Fs A/\Fs C/\Cg p (ci g) (A*ci d)/\Cg p (ci h) (C*ci d)
 dl:d.length<=S
 sl:s.length<=S
 tl:t.length<=S
structure BzI(p:J)(g h r0 s0 t0 r1 s1 t1:wF J)(N:K):Prop where
 f0:Fp p r0
 g0:Fp p s0
 h0:Fp p t0
 f1:Fp p r1
 g1:Fp p s1
 h1:Fp p t1
 c0:Cg p (ci r0) (ci s0*ci g+ci t0*ci h)
 c1:Cg p (ci r1) (ci s1*ci g+ci t1*ci h)
 dv:∃A B C D:Pz,Fs A/\Fs B/\Fs C/\Fs D/\Cg p (ci g) (A*ci r0+B*ci r1)/\Cg p (ci h) (C*ci r0+D*ci r1)
 l0:r0.length<=N
 l1:r1.length<=N
 b0:s0.length<=1+N*(N+1-r1.length)
 b1:t0.length<=1+N*(N+1-r1.length)
 b2:s1.length<=1+N*(N+1-r1.length)
 b3:t1.length<=1+N*(N+1-r1.length)
def BzI.step(a:BzI p g h r0 s0 t0 r1 s1 t1 N)(hp:qO p=qR)(i:N<=290)(j:0<X r1)(l:3000000<=fu):
 ∃r2 c t2,X5 fu [r0,s0,t0] [r1,s1,t1] p=Z [r2,c,t2]/\X r2<X r1/\BzI p g h r1 s1 t1 r2 c t2 N:=by
 have⟨u,v⟩:=zB hp;have m:1+N*(N+1-X r1)<=90000:=by have:N*(N+1-X r1)<=290*290:=xcb i W;lia
 have hd:=a.l0;have d:=a.l1;have n:=a.b0;have hi:=a.b1;have o:=a.b2;have r:=a.b3;have⟨q,w,x,hc,hl,s⟩:=B9 (fu:=fu) (S:=1+N*(N+1-X r1)) hp a.f0 a.g0 a.h0 a.f1 a.g1 a.h1 j hd d n hi o r W m l;refine⟨_,_,_,s,hl,a.f1,a.g1,a.h1,bS W _ _ _,bS W _ _ _,bS W _ _ _,a.c1,?_,?_,d,W,?_,?_,?_,?_⟩;refine(aR _ _).trans<|(a.c0.sub<|(Yf p q r1).trans<|Cg.rfl.mul a.c1).trans ?_;refine Cg.trans (Cg.of ?_)<|Cg.symm (((aR s0<|xM p q s1).trans<|Cg.rfl.sub<|Yf p q s1).mul (Cg.rfl (f:=ci g))|>.add (((aR t0<|xM p q t1).trans<|Cg.rfl.sub<|Yf p q t1).mul<|Cg.rfl (f:=ci h)));simp only[wM,yY,qM,kh,zd];funext k;simp only[zW,xd];lia;have⟨A,B,C,D,e,z2,z3,z4,d1,d2⟩:=a.dv;refine⟨A*ci q+B,A,C*ci q+D,C,(e.mul<|Fs.ci q).add z2,e,(z3.mul<|Fs.ci q).add z4,z3,?_,?_⟩;refine d1.trans<|((Cg.rfl (f:=A)).mul hc|>.add Cg.rfl).trans<|Cg.of ?_;simp only[wM,yY,zd];funext k;simp only[zW];lia;refine d2.trans<|((Cg.rfl (f:=C)).mul hc|>.add Cg.rfl).trans<|Cg.of ?_;simp only[wM,yY,zd];funext k;simp only[zW];lia;have:N*(N+1-X r1)<=N*(N+1-X (Wj p r0 (xM p q r1)<|p-1)):=xaB _ W;lia;have:N*(N+1-X r1)<=N*(N+1-X (Wj p r0 (xM p q r1)<|p-1)):=xaB _ W;lia;have h1:=CH p s0 (xM p q s1)<|p-1;have t:=jV p q s1;have b:N*(N+1-X r1+1)<=N*(N+1-X (Wj p r0 (xM p q r1)<|p-1)):=xaB _ W;rw[xcm,xdQ]at b;lia;have h1:=CH p t0 (xM p q t1)<|p-1;have t:=jV p q t1;have b:N*(N+1-X r1+1)<=N*(N+1-X (Wj p r0 (xM p q r1)<|p-1)):=xaB _ W;rw[xcm,xdQ]at b;lia
def zgR(hp:qO p=qR)(e:N<=290)(i:3000000<=fu)(a:BzI p g h r0 s0 t0 r1 s1 t1 N):
 ∃d s t,zg (Yi fu p) fu ([r0,s0,t0],[r1,s1,t1])=Z [d,s,t]/\BzR p g h d s t (1+N*(N+1)):=by
 obtain⟨r,e1,d,s,t,rfl,j⟩:=zU (f:=Yi fu p) (λx:wF (wF J)×wF (wF J)=>∃r0 s0 t0 r1 s1 t1,x=([r0,s0,t0],[r1,s1,t1])/\BzI p g h r0 s0 t0 r1 s1 t1 N) (λx=>X (x.2.getD 0 [])) (λr=>∃d s t,r=[d,s,t]/\BzR p g h d s t (1+N*(N+1))) (by
  rintro x L ⟨r0,s0,t0,r1,s1,t1,rfl,a⟩ n;unfold Yi;simp only;rw[show(0:J)=((0:K):J)from O,zp m6];show∃r,(if((0:K):J)<(X r1:J)then _ else _)=Z r/\_;by_cases h0:0<X r1;have⟨r2,o,t2,l,q,hc⟩:=a.step (fu:=fu) hp e h0 i;rw[yg,Y l];simp_all;rw[zF];have b:ci r1=pc 0:=Z0 λk=>by rw[yB W,zV]
  have c:1+N*(N+1-X r1)<=1+N*(N+1):=by have:N*(N+1-X r1)<=N*(N+1):=xaB _ W;lia
  have hd:=a.l0;have u:N*1<=N*(N+1):=xaB _ W;refine⟨_,O,r0,s0,t0,O,a.f0,a.g0,a.h0,a.c0,?_,W,xao a.b0 c,xao a.b1 c⟩;have⟨A,B,C,D,m,z2,z3,z4,d1,d2⟩:=a.dv;rw[b,zm B,yE]at d1;rw[b,zm D,yE]at d2;refine⟨A,C,m,z3,d1.trans<|Cg.of ?_,d2.trans<|Cg.of ?_⟩<;>funext k<;>rw[zW,zV,xcc]) fu ([r0,s0,t0],[r1,s1,t1]) ⟨_,_,_,_,_,_,O,a⟩ (by have:=a.l1;show X r1<fu;lia)
 exact⟨d,s,t,e1,j⟩
theorem Zh(hp:qO p=qR)(o:Fp p g)(q:Fp p h)(hu:X g<=290)(hv:X h<=290)(j:3000000<=fu):
 ∃d s t,ZN fu g h p=Z (d,s,t,0)/\BzR p g h d s t (2+max (X g) (X h)*(max (X g) (X h)+1))/\(X d=0\/ci d (X d-1)=1):=by
 have⟨p1,l⟩:=zB hp;unfold ZN;rw[Y<|ZF hp,E O,Y<|zP W l (o.rl l) W j,Y<|zP W l (q.rl l) W j,o.pm,q.pm];have z0:ci ([]:wF J)=pc 0:=Z0 λk=>by rw[yB<|xah _,zV]
 have c:∀f:Pz,f+pc 0=f:=λf=>Z0 λk=>by rw[zW,zV,xcc]
 have e:∀f:Pz,pc 0+f=f:=λf=>Z0 λk=>by rw[zW,zV,xcO]
 have D:BzI p g h g [1] [] h [] [1] (max (X g) (X h)):=by refine⟨o,QN,zbi,q,zbi,QN,Cg.of ?_,Cg.of ?_,⟨pc 1,pc 0,pc 0,pc 1,Fs.pc 1,Fs.pc 0,Fs.pc 0,Fs.pc 1,Cg.of ?_,Cg.of ?_⟩,xeg _ _,xdP _ _,xbL _ _,xah _,xah _,xbL _ _⟩;rw[kv,z0,zE,yE,c];rw[kv,z0,zE,yE,e];rw[zE,yE,c];rw[zE,yE,e]
 have⟨d,s,t,e1,b⟩:=zgR (fu:=fu) hp W j D;have hS:max (X g) (X h)*(max (X g) (X h)+1)<=290*291:=xcb W W;generalize max (X g) (X h)*(max (X g) (X h)+1)=S at*
 rw[Y e1,show(0:J)=((0:K):J)from O,zp m6];show∃r u v,G (if((0:K):J)<(X d:J)then Z qR else Z I) _=_/\_;by_cases h0:0<X d;have hw:=b.dl;have ht:ci d (X d-1)≠0:=by
  obtain h|h:=b.df.nl
  lia;exact h
 have t1:=b.df.nn<|X d-1;have t2:=b.df.lt<|X d-1;have⟨x,H,M,w,Q,x5⟩:=K8 (fu:=fu) hp b.df (W:0<ci d (X d-1)) t2 W j;have sc:∀{a:wF J},Fp p a->X a<=90000->qV fu a (ci d<|X d-1) p=Z (xM p a [x]):=λ{a} R hl=>by
  unfold qV;rw[Y Q];simp only;rw[Y<|vo W l R (QN H M) W m7 j]
 rw[yg,Y O,E O,zp m6];show∃r u v,zf ((X d:J)-1) _=_/\_;rw[(W:(X d:J)-1=((X d-1:K):J)),zb];show∃r u v,zI ((X d-1:K):J) (X d) _=_/\_;rw[yn,ze];show∃r u v,G (zg (vt fu p<|ci d<|X d-1) fu (((0:K):J),[d,s,t])) _=_/\_;have T:zg (vt fu p<|ci d<|X d-1) fu (((0:K):J),[d,s,t])=Z [xM p d [x],xM p s [x],xM p t [x]]:=by
  have⟨n,hn⟩:∃n,fu=n+4:=⟨fu-4,W⟩
  have step:∀(L:J×wF (wF J)->V (wF<|wF J)) (i:K) (y:wF J) (ts:wF (wF J)),i<3->ts.getD i []=y->Fp p y->X y<=90000->
   vt fu p (ci d<|X d-1) L ((i:J),ts)=L (((i+1:K):J),ts.set i<|xM p y [x]):=λL i y ts hi U hq hr=>by
   unfold vt;simp only;rw[yg,zp hi,U,Y<|sc hq hr,zp hi,ze,zb];rfl
  have z:zg (vt fu p<|ci d<|X d-1) (n+4) (((0:K):J),[d,s,t])=Z [xM p d [x],xM p s [x],xM p t [x]]:=by rw[ux,step _ 0 d _ m6 O b.df (xao b.dl W),ux,step _ 1 s _ m6 O b.sf (xao b.sl W),ux,step _ 2 t _ m6 O b.tf (xao b.tl W),ux];unfold vt;simp only;rw[P m6];rfl
  rw[<-hn]at z;exact z
 rw[Y T];have hc:∀a:wF J,Cg p (ci<|xM p a [x]) (ci a*pc x):=λa=>by
  have:=Yf p a [x];rw[kv]at this;exact this
 have hj:Cg p (pc x*pc (ci d<|X d-1)) (pc 1):=λk=>by
  rw[jR];unfold pc;split;rw[w];exact(xaJ m6 W).symm;rfl
 have f1:=jV p d [x];have f2:=jV p s [x];have f3:=jV p t [x];have hz:=b.sl;have hA:=b.tl;simp only[xaw,xbR]at f1 f2 f3;have hd:∀k,ci (xM p d [x]) k=(x*ci d k)%p:=λk=>by rw[bU,kv,zm,zS]
 have hm:X (xM p d [x])=X d:=by refine xcK ((jz W _ _).nl.le λk hk=> ?_)<|xbx λhB=> ?_;rw[hd,yB hk,xaz,xar];have B:=hd<|X d-1;rw[w,yB W]at B;cases B
 refine⟨xM p d [x],xM p s [x],xM p t [x],O,⟨jz W _ _,jz W _ _,jz W _ _,?_,?_,W,W,W⟩,.inr ?_⟩;refine(hc d).trans<|(b.cg.mul Cg.rfl).trans<|Cg.trans (Cg.of ?_)<|Cg.symm<|((hc s).mul Cg.rfl).add<|(hc t).mul Cg.rfl;simp only[wM,yY,zd,zm,zG]
 have⟨A,C,z1,z3,d1,d2⟩:=b.dv;have m:∀F:Pz,Cg p (F*ci d) (F*pc (ci d<|X d-1)*ci (xM p d [x])):=λF=>by
  refine Cg.symm<|(Cg.rfl.mul<|hc d).trans<|Cg.trans (Cg.of ?_)<|((Cg.rfl (f:=F*ci d)).mul hj).trans<|Cg.of<|yu _;simp only[zd,zm,zG]
 exact⟨_,_,z1.mul<|Fs.pc _,z3.mul<|Fs.pc _,d1.trans<|m A,d2.trans<|m C⟩;rw[hm,hd,w];rw[zF,Y O,P m6];exact⟨d,s,t,O,⟨b.df,b.sf,b.tf,b.cg,b.dv,xao b.dl W,xao b.sl W,xao b.tl W⟩,.inl W⟩
end
section
variable{fu:wP}{a l b:wF wN}{p:wN}
def zdj{n:K}(h:n<9223372036854775808):sgn n=(n:J):=by unfold sgn;lia
def BJ{x:J}(h0:0<=x)(h:x<9223372036854775808)(f:3000000<=fu):Jn fu (yK x)=Z (x,qR):=by
 have c:Bz 1 x:=by unfold Bz;lia
 unfold Jn;rw[Y<|uD (c.ok m6) f,zt];have g:(yK x).1=I:=by unfold yK;simp;lia
 by_cases d:x=0
 subst d;rfl;have hc:=CM.2 d;have hd:=c.len;obtain⟨n,rfl⟩:=xaE h0;have e:(yK (n:J)).2.getD 0 0=n:=by show(yM<|(n:J).natAbs).getD 0 0=n;rw[xaH,VW,xeo,xef,xap W]
 rw[zF,Y O,P m6,zF,Y O,P m6,g,P m6,Y O,P m6,P m6,show(0:J)=((0:K):J)from O,yn,F,e,zF,yn,F,e,F,zdj W]
def Du{a:U}(d:eJ a)(h1:1<=p)(g:p<=65521)(c:3000000<=fu):KF fu a p=Z (zv a%p,0):=by
 unfold KF;have e:Bz 1 p:=by unfold Bz;lia
 have f:=xo (a:=zv a) (p:=p);rw[Y<|yw ⟨W,W⟩ c,Y<|YN d (e.okS m6) c,zt];unfold IF;rw[zF];simp only[Xs];rw[Y<|BJ f.1 W c]
def jr(p:J)(a:N U):N J:=nl (X a)<|λk=>cf a k%p
def KP(p:J)(a:N U)(k:K):ci (jr p a) k=cf a k%p:=EO (λk c=>by rw[yq c,xar]) k
def iE(p:J)(a:N U):Cg p (ci<|jr p a) (cf a):=λk=>by rw[KP,xaT]
def Q9(hp:0<p)(a:N U):Fp p (jr p a):=⟨λk=>by rw[KP];exact(xo hp).1,λk=>by rw[KP];exact(xo hp).2,Bc _ _⟩
def zjy(p:J)(a:N U):X (jr p a)<=X a:=HN _ _
def Zs{k:K}{a:N U}(o:xf k a)(c:k<=40000)(h1:1<=p)(q:p<=65521)(hl:X a<=1000000:=by lia)(r:3000000<=fu:=by lia):Zx fu a p=Z (jr p a,0):=by
 unfold Zx;have hd:=jc (λk=>cf a k%p) (X a);rw[zF,Y (v:=zl (X a)<|λk=>cf a k%p)];rw[Y (v:=jr p a)];refine zC (λt:N J=>∃m,m<=X a/\t=zl m (λk=>cf a k%p)/\dg (λk=>cf a k%p) m=dg (λk=>cf a k%p) (X a)) (λt=>X t) _ ?_ _ _ ⟨X a,Nm _,O,O⟩ (by rw[yj];lia);rintro t L ⟨m,u,rfl,d⟩ j;unfold mr;rw[yj]
 cases m with
 |zero=>
  rw[zF];unfold jr nl;rw[<-d];rfl
 |succ m=>
  rw[yg,(W:((m+1:K):J)-1=(m:J)),zb,yn,F,uc];by_cases h0:cf a m%p=0
  rw[E h0,zb,yH,y9,F,zcF];exact j _ ⟨m,W,O,by rw[<-rU (f:=λk=>cf a k%p) h0,d]⟩<|by rw[yj,yj];lia
  rw[P h0];unfold jr nl;rw[<-d,eF (f:=λk=>cf a k%p) h0]
 unfold jN;rw[yH,y9,F,dR,Y];refine zC (λs:J×N J=>∃i:K,i<=X a/\s=((i:J),zl (X a) (λk=>if k<i then cf a k%p else 0))) (λs=>X a-s.1.toNat) _ ?_ _ _ ⟨0,xah _,by rw[xc (g:=λk=>if k<0 then cf a k%p else 0)<|λk _=>by rw[zF]];rfl⟩ (by show X a-0<fu;lia);rintro s L ⟨i,hi,rfl⟩ j;unfold ZR;simp only;by_cases h:i<X a;rw[yg,Y O];simp only[Xs];have e1:Vp fu (i:J) (a.getD i (I,[])) p=Z (cf a i%p):=by unfold Vp;rw[Y<|Du (o.okS c i) h1 q r];rfl
 rw[zp h,F,Y e1,zp (by rw[yj];exact h),F,Yt,zb];refine j _ ⟨i+1,W,?_⟩ (by show X a-((i:J)+1).toNat<X a-(i:J).toNat;lia);congr 1;refine xc λk c=> ?_;unfold XA;by_cases e:k=i;rw[E e,yg,e];rw[P e];show(if k<i then cf a k%p else 0)=_;by_cases n:k<i;rw[E n,yg];rw[P n,zF];rw[zF,Y O];simp only[xam,Z9];congr 1;exact xc λk c=>by rw[yg]
def uE(l:N J):N U:=w8 (X l)<|ci l
def ks(l:N J):cf (uE l)=ci l:=Z0 λk=>km (λk c=>yB c) k
def RK(l:N J):X (uE l)<=X l:=by unfold uE;rw[xJ];exact jc _ _
def Rl.bz(h:Rl l)(k:K):Bz 1 (ci l k):=by have⟨h1,c⟩:=h k;unfold Bz;lia
def RY(h:Rl l):xf 1 (uE l):=xp h.bz
theorem uJ(h:Rl l)(hl:X l<=1000000)(c:3000000<=fu):jo fu l=Z (uE l):=by
 unfold jo;rw[Y (v:=zi (X l)<|ci l)];rw[Y<|zM (Xy h.bz) m6 (by rw[yA];lia) c,yA,DJ];rfl;unfold jJ;rw[yH,y9,F,aZ,Y];refine zC (λs:J×N U=>∃i:K,i<=X l/\s=((i:J),zi (X l) (λk=>if k<i then ci l k else 0))) (λs=>X l-s.1.toNat) _ ?_ _ _ ⟨0,xah _,by rw[xe (g:=λk=>if k<0 then ci l k else 0)<|λk _=>by rw[zF]];rfl⟩ (by show X l-0<fu;lia);rintro s L ⟨i,hi,rfl⟩ f;unfold Zp;simp only;by_cases h1:i<X l;have e1:XO fu (i:J) (l.getD i 0)=Z (yK<|ci l i):=by unfold XO;rw[Jh,Y<|yw (h i) c]
 rw[yg,zp h1,F,Y e1,zp (by rw[yA];exact h1),F,bj,zb];refine f _ ⟨i+1,W,?_⟩ (by show X l-((i:J)+1).toNat<X l-(i:J).toNat;lia);congr 1;refine xe λk j=> ?_;unfold XA;by_cases e:k=i;rw[E e,yg,e];rw[P e];show(if k<i then ci l k else 0)=_;by_cases d:k<i;rw[E d,yg];rw[P d,zF];rw[zF];congr 1;exact xe λk j=>by rw[yg]
theorem Gw(h:Rl l)(hl:X l<=1000000)(c:3000000<=fu):Kx fu l=Z (uE l):=by grind [Kx,Y,uJ]
def ZU(hp:qO p=qR)(d:Fp p a)(e:Fp p b)(hc:X a<=90000:=by lia)(hd:X b<=90000:=by lia)(f:3000000<=fu:=by lia):kS fu a b p=Z (xM p a b,0):=by have⟨g,c⟩:=zB hp;unfold kS;rw[Y<|ZF hp,E O,Y<|zP W c (d.rl c) W f,Y<|zP W c (e.rl c) W f,d.pm,e.pm,Y<|vo W c d e W W f]
def dF(hp:qO p=qR)(d:Fp p a)(e:Fp p b)(hc:X a<=90000)(hd:X b<=90000)(f:3000000<=fu):VM fu a b p=Z (Wj p a b<|p-1,0):=by have⟨g,c⟩:=zB hp;unfold VM;rw[Y<|ZF hp,E O,Y<|zP W c (d.rl c) W f,Y<|zP W c (e.rl c) W f,d.pm,e.pm,zb,Y<|J2 W c d e W W W W f]
def K7(hp:qO p=qR)(c:Fp p a)(d:Fp p b)(hd:X a<=90000)(f:X b<=90000)(g:3000000<=fu):Wi fu a b p=Z (decide<|a=b):=by
 have⟨i,j⟩:=zB hp;unfold Wi;rw[Y<|dF hp c d hd f g];simp only;have e:=bS (p:=p) W a b<|p-1;have hc:=aR (p:=p) a b;by_cases h:a=b
 have hl:X (Wj p a b<|p-1)<=0:=e.nl.le λk _=>by
  have:=hc k;rw[e.mod,xd]at this;simp_all
 simp_all;rw[WF h,if_neg];intro h0;refine h<|c.ext d<|Cg.iff_sub.2<|hc.symm.trans λk=> ?_;rw[yB W,zV]
end
section
variable{p:wN}{l:wF wN}{fu M i:wP}
def Tr(p:J)(l:N J):Prop:=(∀j,j<X l->0<=ci l j/\ci l j<p)/\1<X l/\ci l (X l-1)=1
def Tr.fp(hp:0<p)(h:Tr p l):Fp p l:=by refine⟨λk=> ?_,λk=> ?_,.inr<|by rw[h.2.2];decide⟩;by_cases a:k<X l;exact(h.1 k a).1;rw[yB W];lia;by_cases a:k<X l;exact(h.1 k a).2;rw[yB W];exact hp
theorem Ui(hl:X l<=1000000)(n:3000000<=fu):∃b,XK fu l p=Z b/\(b=qR↔Tr p l):=by
 unfold XK;have⟨r,e1,g⟩:=zU (f:=WI fu l p) (λi:J=>∃j:K,i=(j:J)/\j<=X l/\∀t,t<j->0<=ci l t/\ci l t<p) (λi=>X l-i.toNat) (λr=>(r=.inl ()/\∀t,t<X l->0<=ci l t/\ci l t<p)\/(r=.inr ()/\¬∀t,t<X l->0<=ci l t/\ci l t<p)) (by
  rintro i L ⟨j,rfl,o,c⟩ k;unfold WI;by_cases h1:j<X l;rw[yg,zp h1,F,Jh];by_cases a:ci l j<0;grind;rw[P a];by_cases d:p<=ci l j;rw[E d];exact⟨_,O,.inr ⟨O,λe=>by have:=(e j h1).2;lia⟩⟩;rw[P d,zb];refine k _ ⟨j+1,O,W,λt ht=> ?_⟩ W;by_cases m:t=j;rw[m];lia;exact c t W
  rw[zF];exact⟨_,O,.inl ⟨O,λt ht=>c t W⟩⟩) fu 0 ⟨0,O,xah _,λt h=>kW h (xbc _)⟩ (by show X l-0<fu;lia)
 rw[Y e1];rcases g with⟨rfl,h⟩|⟨rfl,h⟩
 simp only;by_cases h1:1<X l;rw[yg,(W:(X l:J)-1=((X l-1:K):J)),zb,yn,F,Jh];by_cases a:ci l (X l-1)=1
 rw[E a];exact⟨_,O,λ_=>⟨h,h1,a⟩,λ_=>O⟩;rw[P a];exact⟨_,O,λe=>kW e m6,λe=>kW e.2.2 a⟩;rw[zF];exact⟨_,O,λe=>kW e m6,λe=>kW e.2.1 h1⟩;exact⟨_,O,λe=>kW e m6,λe=>kW e.1 h⟩
def Q4(p:J)(fs:N (N J)):N J:=fs.foldl (xM p) [1]
def prZ:N Pz->Pz
 |[]=>pc 1
 |f::r=>f*prZ r
theorem vz:∀(a b:N Pz),prZ (a++b)=prZ a*prZ b
 |[],b=>(zE _).symm
 |f::r,b=>by show f*prZ (r++b)=f*prZ r*prZ b;rw[vz r b,zd]
def zcx(p:J):∀(fs:N (N J)) (t:N J),Cg p (ci<|fs.foldl (xM p) t) (ci t*prZ (fs.map ci))
 |[],t=>by show Cg p (ci t) (ci t*pc 1);rw[yu];exact Cg.rfl
 |f::r,t=>by refine(zcx p r<|xM p t f).trans<|((Yf p t f).mul Cg.rfl).trans<|Cg.of<|zd _ _ _
def rq(p:J)(fs:N (N J)):Cg p (ci<|Q4 p fs) (prZ<|fs.map ci):=by have:=zcx p fs [1];rw[kv,zE]at this;exact this
def zbP{p:J}(hp:0<p):∀(fs:N (N J)) {t:N J},Fp p t->Fp p (fs.foldl (xM p) t)
 |[],_,h=>h
 |f::r,t,h=>zbP hp r<|jz hp t f
def gN(hp:2<=p)(fs:N (N J)):Fp p (Q4 p fs):=zbP W fs<|QN
theorem zcc{p:J}{M:K}:∀{fs:N (N J)}{t:N J},(∀f∈fs,X f<=M)->X (fs.foldl (xM p) t)<=X t+X fs*M
 |[],_,_=>by simp
 |f::r,t,h=>by
  have h1:=zcc (p:=p) (t:=xM p t f) λg a=>h g<|FS _ a;have b:=jV p t f;show(r.foldl (xM p)<|xM p t f).length<=X t+(X r+1)*M;grind
def dU{fs:N (N J)}(h:∀f∈fs,X f<=M):X (Q4 p fs)<=1+X fs*M:=zcc h
theorem HS{l:N (N J)}(h:i<X l):l.getD i []∈l:=by grind
theorem zdL{l:N (N J)}(h:i<X l):l.take (i+1)=l.take i++[l.getD i []]:=by grind [xeZ]
def jW{fs:N (N J)}(hp:qO p=qR)(d:∀f∈fs,Fp p f)(a:∀f∈fs,X f<=M)(g:1+X fs*M<=90000)(h:M<=90000)(hc:X fs<=90000:=by lia)(b:3000000<=fu:=by lia):qL fu fs p=Z (Q4 p fs):=by have⟨j,k⟩:=zB hp;unfold qL;rw[Y (v:=Q4 p fs)];refine zC (λs:N J×J=>∃i:K,i<=X fs/\s=(Q4 p<|fs.take i,(i:J))) (λs=>X fs-s.2.toNat) _ ?_ _ _ ⟨0,xah _,O⟩ (by show X fs-0<fu;lia);rintro s L ⟨i,hi,rfl⟩ e;unfold Kg;simp only;by_cases h1:i<X fs;have c:=HS h1;have hl:=dU (p:=p) (fs:=fs.take i) (M:=M) λf b=>a f<|xdt b;have hd:X (fs.take i)*M<=X fs*M:=xag _<|List.length_take_le' ..;have m:=a _ c;rw[yg,zp h1,F,Y<|ZU hp (gN W _)<|d _ c];simp only;rw[zb];refine e _ ⟨i+1,W,?_⟩ (by show X fs-((i:J)+1).toNat<X fs-(i:J).toNat;lia);congr 1;unfold Q4;rw[zdL h1,List.foldl_append];rfl;rw[zF,xaY W]
def kM(p:J)(f g:Pz):Prop:=∃s t:Pz,Fs s/\Fs t/\Cg p (s*f+t*g) (pc 1)
theorem kM.symm{f g:Pz}(h:kM p f g):kM p g f:=by have⟨s,t,a,z2,h⟩:=h;refine⟨t,s,z2,a,(Cg.of ?_).trans h⟩;funext k;rw[zW,zW,Int.add_comm]
def kM.mul{p:J}{f g h:Pz}(c:Fs g)(d:Fs h)(e:Fs f)(h1:kM p f h)(a:kM p g h):kM p (f*g) h:=by have⟨s,t,b,z2,h1⟩:=h1;have⟨u,v,z3,z4,a⟩:=a;refine⟨s*u,s*f*v+t*(u*g+v*h),b.mul z3,((b.mul e).mul z4).add<|z2.mul<|(z3.mul c).add<|z4.mul d,Cg.trans (Cg.of ?_)<|(h1.mul a).trans<|Cg.of<|zE _⟩;simp only[wM,zG,zm];funext k;simp only[zW];lia
def kM.one(p:J)(h:Pz):kM p (pc 1) h:=⟨pc 1,pc 0,Fs.pc 1,Fs.pc 0,Cg.of (by rw[zE,yE];funext k;rw[zW,zV,xcc])⟩
theorem Fs.prZ:∀{fs:N Pz},(∀f∈fs,Fs f)->Fs (prZ fs)
 |[],_=>Fs.pc 1
 |f::r,a=>(a f<|IR).mul<|Fs.prZ λg b=>a g<|FS _ b
theorem kM.prZ{p:J}{h:Pz}(c:Fs h):∀{fs:N Pz},(∀f∈fs,Fs f)->(∀f∈fs,kM p f h)->kM p (prZ fs) h
 |[],_,_=>kM.one p h
 |f::r,b,d=>kM.mul (Fs.prZ λg a=>b g<|FS _ a) c (b f<|IR) (d f<|IR)<|kM.prZ c (λg a=>b g<|FS _ a) λg a=>d g<|FS _ a
def ME{g h d s t:N J}{S:K}(a:BzR p g h d s t S)(hl:X d=1)(h1:ci d (X d-1)=1):kM p (ci g) (ci h):=by
 have e:ci d=pc 1:=by
  funext k;unfold pc;by_cases b:k=0
  simp_all;rw[P b,yB W]
 have:=a.cg;rw[e]at this;exact⟨ci s,ci t,Fs.ci s,Fs.ci t,this.symm⟩
structure ia(p:J)(a:N U)(fs:N (N J)):Prop where
 a0:a.length≠0
 al:(jr p a).length=a.length
 fl:fs.length<=a.length
 pl:∀i,i<fs.length->(fs.getD i []).length<=a.length/\Tr p (fs.getD i [])
 cp:∀i j,i<fs.length->j<i->kM p (ci<|fs.getD i []) (ci<|fs.getD j [])
 pr:xM p (Q4 p fs) [ci (jr p a)<|a.length-1]=jr p a
def RV{f:N J}{fs:N (N J)}(hp:qO p=qR)(hc:Fp p f)(hd:X f<=290)(hi:i<=X fs)(hl:i<=1000000)(c:∀j,j<i->Fp p (fs.getD j [])/\X (fs.getD j [])<=290)(g:3000000<=fu):
 ∃r,zg (kJ fu p f<|fs.take i) fu 0=Z r/\(r=.inl ()->∀j,j<i->kM p (ci f) (ci<|fs.getD j [])):=by
 have w:X (fs.take i)=i:=by rw[xan];lia
 have k:∀j,j<i->(fs.take i).getD j []=fs.getD j []:=λj a=>by rw[UV,xbF,E a,<-UV]
 refine zU (λx:J=>∃j:K,x=(j:J)/\j<=i/\∀t,t<j->kM p (ci f) (ci<|fs.getD t [])) (λx=>i-x.toNat) _ ?_ _ _ ⟨0,O,xah _,λt h=>kW h<|xbc _⟩ (by show i-0<fu;lia);rintro x L ⟨j,rfl,a,b⟩ m;unfold kJ;by_cases h1:j<i;have⟨k1,k2⟩:=c j h1;have⟨d,s,t,e1,n,o⟩:=Zh (fu:=fu) hp hc k1 hd k2 g;rw[yg,yn,F,k j h1];have q:kP fu f (fs.getD j []) p=Z (d,0):=by unfold kP;rw[Y e1]
 rw[Y q];simp only;by_cases u:X d=1
 rw[yg,zb];refine m _ ⟨j+1,O,W,λt ht=> ?_⟩ W;by_cases v:t=j;rw[v];exact ME n u<|o.resolve_left W
 exact b t W
 rw[zF];exact⟨_,O,λe=>kW e m7⟩;rw[zF];exact⟨_,O,λ_ t ht=>b t W⟩
def sI{k:K}{a:N U}{fs:N (N J)}(hp:qO p=qR)(s:xf k a)(u:k<=40000)(D:X a<=66)(d:3000000<=fu):
 ∃b,vM fu a fs p=Z b/\(b=qR->ia p a fs):=by
 have⟨G,v⟩:=zB hp;unfold vM;rw[Y<|Zs s u W v];simp only;by_cases h0:X a=0
 simp_all;rw[zF];by_cases hl:X (jr p a)=X a;rw[yg];by_cases hv:X a<X fs;simp_all;rw[zF]
 have⟨r,e1,w⟩:=zU (f:=ku fu a fs p) (λx:J×N J=>∃i:K,x=((i:J),jr p a)/\i<=X fs/\(∀t,t<i->X (fs.getD t [])<=X a/\Tr p (fs.getD t []))/\∀t j,t<i->j<t->kM p (ci<|fs.getD t []) (ci<|fs.getD j [])) (λx=>X fs-x.1.toNat)
  (λr=>r=.inr ()\/(r=.inl (jr p a)/\(∀t,t<X fs->X (fs.getD t [])<=X a/\Tr p (fs.getD t []))/\∀t j,t<X fs->j<t->kM p (ci<|fs.getD t []) (ci<|fs.getD j []))) (by
   rintro x L ⟨i,rfl,hi,g1,g⟩ y;unfold ku;simp only;by_cases h1:i<X fs;rw[yg,Y O];simp only[Xs];rw[zp h1,F];by_cases H:X a<X (fs.getD i []);rw[yg];exact⟨_,O,.inl O⟩;have⟨b,b1,b2⟩:=Ui (fu:=fu) (l:=fs.getD i []) (p:=p) W d;rw[zF,Y b1]
   cases b with
   |false=>
    rw[E m6];exact⟨_,O,.inl O⟩
   |true=>
    have hd:=b2.1 O;rw[P m6,yH,y9,F];have⟨q,q1,q2⟩:=RV (fu:=fu) (i:=i) (fs:=fs) hp (hd.fp W) W W W (λj c=>⟨(g1 j c).2.fp W,by have:=(g1 j c).1;lia⟩) d;rw[Y q1];obtain q|q:=q
    simp only;rw[zb];refine y _ ⟨i+1,O,W,λt ht=> ?_,λt j ht c=> ?_⟩ (by show X fs-((i:J)+1).toNat<X fs-(i:J).toNat;lia);by_cases n:t=i;rw[n];exact⟨W,hd⟩;exact g1 t W
    by_cases n:t=i;rw[n]at c⊢;exact q2 O j c;exact g t j W c;exact⟨_,O,.inl O⟩
   rw[zF,Y O];simp only[xam,Z9];exact⟨_,O,.inr ⟨O,λt ht=>g1 t W,λt j ht c=>g t j W c⟩⟩) fu (0,jr p a) ⟨0,O,xah _,λt h=>kW h (xbc _),λt j h=>kW h (xbc _)⟩ (by show X fs-0<fu;lia)
 rw[Y e1];obtain rfl|⟨rfl,g1,g⟩:=w
 exact⟨_,O,λe=>kW e m6⟩
 simp only;have hc:∀{q:N J->Prop},(∀t,t<X fs->q (fs.getD t []))->∀f∈fs,q f:=λ{q} h f d=>by
  obtain⟨j,c,rfl⟩:=xbZ.1 d;have:=h j c;rw[UV,xaa c]at this;exact this
 have hn:∀f∈fs,Fp p f:=hc λt ht=>(g1 t ht).2.fp W;have o:∀f∈fs,X f<=66:=hc λt ht=>by have:=(g1 t ht).1;lia
 have Q:X fs*66<=66*66:=xag _ W;have hd:=dU (p:=p) o;have m:=Q9 (p:=p) W a;have R:ci (jr p a) (X a-1)≠0:=by
  obtain h|h:=m.nl
  lia;rw[hl]at h;exact h
 have S:=m.nn<|X a-1;have z:=m.lt<|X a-1;have A:(jr p a).drop (X a-1)=[ci (jr p a)<|X a-1]:=by rw[xca W,xbU W];unfold ci;rw[UV,xaa W];rfl
 have B:=QN (p:=p) (x:=ci (jr p a)<|X a-1) W z;have C:=jV p (Q4 p fs) [ci (jr p a)<|X a-1];simp only[xaw,xbR]at C;rw[Y (jW hp hn o W m6),hl,(W:(X a:J)-1=((X a-1:K):J)),zb,yH,y9,F,A,Y<|ZU hp (gN W fs) B W m7];simp only;rw[Y<|K7 hp (jz W _ _) m W W d];exact⟨_,O,λe=>⟨h0,hl,W,g1,g,WP e⟩⟩;rw[zF];exact⟨_,O,λe=>kW e m6⟩
end
section
variable{k fu K:wP}{a b d f g h s:wF Zr}{m:wN}
def bT(a b:N U):N U:=w8 (max (X a) (X b))<|λj=>cf a j+cf b j
def zbx(a b:N U)(k:wP):cf (bT a b) k=cf a k+cf b k:=km (λj c=>Qa c) k
def dS(a b:N U):X (bT a b)<=max (X a) (X b):=by unfold bT;rw[xJ];exact jc _ _
def pj(c:xf k a)(e:xf k b):xf (k+1) (bT a b):=xp λj=>(c.bz j).add<|e.bz j
def sy(c:xf k a)(e:xf k b)(i:k+1<=100000)(hc:X a<=1000000)(hd:X b<=1000000)(j:3000000<=fu):qG fu a b=Z (bT a b):=eE c e i hc hd j
def SV:N U:=uE [1]
def zkh:(cf SV:Pz)=pc 1:=by unfold SV;rw[ks,kv]
def zhq:X SV<=1:=RK [1]
def zin:Rl [1]:=λk=>by
 rw[kv];unfold pc;split<;>exact⟨m6,m6⟩
def zct:xf 1 SV:=RY zin
def gY(f g h:N U)(m:J):N U:=vJ (bn f<|xg g h) m
def FU(x d:N U)(m:J):N U:=Gn (vJ x m) d m
def CK(x d:N U)(m:J):N U:=Vw (vJ x m) d m
def puG(f g h s t:N U)(m:J):N U:=vJ (bT g<|bT (xg t<|gY f g h m)<|xg (FU (xg s<|gY f g h m) h m) g) m
def GN(f g h s:N U)(m:J):N U:=vJ (bT h<|CK (xg s<|gY f g h m) h m) m
def mQ(g h s t:N U)(m:J):N U:=vJ (bn (bT (xg s g)<|xg t h) SV) m
def puS(g h s t:N U)(m:J):N U:=vJ (bn s<|CK (xg s<|mQ g h s t m) h m) m
def puT(g h s t:N U)(m:J):N U:=vJ (bn t<|bT (xg t<|mQ g h s t m)<|xg (FU (xg s<|mQ g h s t m) h m) g) m
def zie{x:N U}(c:Bz K m)(h0:0<m):xf K (FU x d m):=xp λj=>c.emod h0
def zjc{x:N U}(c:Bz K m)(h0:0<m):xf K (CK x d m):=xp λj=>c.emod h0
theorem zbM(x d:N U)(m:J):X (FU x d m)<=X x+1:=by grind [Gn,FU,xJ,XX,jc]
theorem zb9(x d:N U)(m:J):X (CK x d m)<=X x:=by grind [Vw,CK,xJ,jc,XX]
def Hq{x:N U}(c:0<X d)(hc:cf d (X d-1)=1):X (CK x d m)<X d:=Gi c hc
def zcn(i:2<=m)(hl:0<X h)(h1:cf h (X h-1)=1):X (GN f g h s m)=X h/\cf (GN f g h s m) (X h-1)=1:=by
 have j:=Hq (x:=xg s<|gY f g h m) (m:=m) hl h1;have e:∀k,cf (GN f g h s m) k=(cf h k+cf (CK (xg s<|gY f g h m) h m) k)%m:=λk=>by unfold GN;rw[Zj,zbx]
 have e1:cf (GN f g h s m) (X h-1)=1:=by rw[e,h1,yq (p:=CK _ _ _) W];exact xaJ m6 W
 refine⟨xcK (Mj (ai _ _) λk c=> ?_)<|xbx λl=> ?_,e1⟩;have:=e k;unfold GN at this;rw[this,yq c,yq (p:=CK _ _ _) W,xcc,xar];rw[yq W]at e1;cases e1
def lD{W:wP}{t:N U}{m:U}(H:xf K f)(n:xf K g)(u:xf K h)(j:xf K s)(ht:xf K t)(lf:X f<=W)(lg:X g<=W)(lh:X h<=W)(ls:X s<=W)(lt:X t<=W)(hW:W<=5000)(hi:1<=K)(hK:K<=1000)(hc:zn m.2)(hd:X m.2<=K)(h2:2<=zv m)(hl:0<X h)(h1:cf h (X h-1)=1)(e:3000000<=fu):
 kI fu [g,h,s,t] f m=Z [puG f g h s t<|zv m,GN f g h s<|zv m,puS (puG f g h s t<|zv m) (GN f g h s<|zv m) s t<|zv m,puT (puG f g h s t<|zv m) (GN f g h s<|zv m) s t<|zv m]:=by
 have l:Bz K (zv m):=(Bz.of hc).mono hd;have o:eJ m:=⟨hc,mS⟩;have h0:0<zv m:=mS
 unfold kI;rw[DX (i:=0) m6,F,DX (i:=1) m6,F,DX (i:=2) m6,F,DX (i:=3) m6,F,show[g,h,s,t].getD (Int.toNat 0) []=g from O,show[g,h,s,t].getD (Int.toNat 1) []=h from O,show[g,h,s,t].getD (Int.toNat 2) []=s from O,show[g,h,s,t].getD (Int.toNat 3) []=t from O];have p:=XR n u;have l1:=uC g h;have L:=aa f<|xg g h;rw[Y<|wo n u mS mS e,Y<|ZS (k:=K+K+X g) (H.mono mS) p mS mS mS e,Y<|XN (CB (H.mono mS) p) mS o h0,show vJ (bn f<|xg g h) (zv m)=gY f g h (zv m)from O];have v:xf K (gY f g h<|zv m):=bu l h0;have le:X (gY f g h<|zv m)<=W+W:=xao (XX _ _) mS;have w:=XR j v;have M:=uC s<|gY f g h<|zv m;have D:=zie (x:=xg s<|gY f g h<|zv m) (d:=h) l h0;have pr:=zjc (x:=xg s<|gY f g h<|zv m) (d:=h) l h0;have lq:=zbM (xg s<|gY f g h<|zv m) h<|zv m;have lr:=zb9 (xg s<|gY f g h<|zv m) h<|zv m;rw[Y<|wo j v mS mS e,Y<|Q2 w mS u hc hd h0 hl mS mS e,show Gn (vJ (xg s<|gY f g h<|zv m)<|zv m) h (zv m)=FU (xg s<|gY f g h<|zv m) h (zv m)from O,show Vw (vJ (xg s<|gY f g h<|zv m)<|zv m) h (zv m)=CK (xg s<|gY f g h<|zv m) h (zv m)from O];simp only;have q:=XR ht v;have P:=uC t<|gY f g h<|zv m;have y:=XR D n;have Q:=uC (FU (xg s<|gY f g h<|zv m) h<|zv m) g;have r:=pj (k:=K+K+W+W+W+1) (q.mono mS) (y.mono mS);have R:=dS (xg t<|gY f g h<|zv m)<|xg (FU (xg s<|gY f g h<|zv m) h<|zv m) g;have z:=pj (k:=K+K+W+W+W+2) (n.mono mS) r;have S:=dS g<|bT (xg t<|gY f g h<|zv m)<|xg (FU (xg s<|gY f g h<|zv m) h<|zv m) g;rw[Y<|wo ht v mS mS e,Y<|wo D n mS mS e,Y<|sy (k:=K+K+W+W+W+1) (q.mono mS) (y.mono mS) mS mS mS e,Y<|sy (k:=K+K+W+W+W+2) (n.mono mS) r mS mS mS e,Y<|XN z mS o h0,show vJ (bT g<|bT (xg t<|gY f g h<|zv m)<|xg (FU (xg s<|gY f g h<|zv m) h<|zv m) g) (zv m)=puG f g h s t (zv m)from O];have T:=dS h<|CK (xg s<|gY f g h<|zv m) h<|zv m;rw[Y<|sy u pr mS mS mS e,Y<|XN (pj u pr) mS o h0,show vJ (bT h<|CK (xg s<|gY f g h<|zv m) h<|zv m) (zv m)=GN f g h s (zv m)from O];have⟨hj,hk⟩:=zcn (f:=f) (g:=g) (s:=s) h2 hl h1;have B:xf K (puG f g h s t<|zv m):=bu l h0;have E:xf K (GN f g h s<|zv m):=bu l h0;have lG:X (puG f g h s t<|zv m)<=4*W+1:=xao (XX _ _) mS;clear l1 L M P Q R S T p w q y r z v le D pr lq lr;generalize puG f g h s t (zv m)=G at*
 generalize GN f g h s (zv m)=c at*
 have p:=XR j B;have l1:=uC s G;have w:=XR ht E;have L:=uC t c;have q:=pj (k:=K+K+W) (p.mono mS) (w.mono mS);have M:=dS (xg s G)<|xg t c;have P:=aa (bT (xg s G)<|xg t c) SV;have Q:=zhq;rw[Y<|wo j B mS mS e,Y<|wo ht E mS mS e,Y<|sy (k:=K+K+W) (p.mono mS) (w.mono mS) mS mS mS e];rw[Y<|Gw zin m6 e,show uE [1]=SV from O,Y<|ZS q (zct.mono mS) mS mS mS e,Y<|XN (CB q<|zct.mono mS) mS o h0,show vJ (bn (bT (xg s G)<|xg t c) SV) (zv m)=mQ G c s t (zv m)from O];have C:xf K (mQ G c s t<|zv m):=bu l h0;have lb:X (mQ G c s t<|zv m)<=5*W+2:=xao (XX _ _) mS;have y:=XR j C;have R:=uC s<|mQ G c s t<|zv m;have A:=zie (x:=xg s<|mQ G c s t<|zv m) (d:=c) l h0;have pd:=zjc (x:=xg s<|mQ G c s t<|zv m) (d:=c) l h0;have lc:=zbM (xg s<|mQ G c s t<|zv m) c<|zv m;have ld:=zb9 (xg s<|mQ G c s t<|zv m) c<|zv m;have S:=aa s<|CK (xg s<|mQ G c s t<|zv m) c<|zv m;rw[Y<|wo j C mS mS e,Y<|Q2 y mS E hc hd h0 mS mS mS e,show Gn (vJ (xg s<|mQ G c s t<|zv m)<|zv m) c (zv m)=FU (xg s<|mQ G c s t<|zv m) c (zv m)from O,show Vw (vJ (xg s<|mQ G c s t<|zv m)<|zv m) c (zv m)=CK (xg s<|mQ G c s t<|zv m) c (zv m)from O];simp only;rw[Y<|ZS j pd mS mS mS e,Y<|XN (CB j pd) mS o h0,show vJ (bn s<|CK (xg s<|mQ G c s t<|zv m) c<|zv m) (zv m)=puS G c s t (zv m)from O];have r:=XR ht C;have T:=uC t<|mQ G c s t<|zv m;have z:=XR A B;have l9:=uC (FU (xg s<|mQ G c s t<|zv m) c<|zv m) G;have V:=pj (k:=K+K+6*W+3) (r.mono mS) (z.mono mS);have a0:=dS (xg t<|mQ G c s t<|zv m)<|xg (FU (xg s<|mQ G c s t<|zv m) c<|zv m) G;have a1:=aa t<|bT (xg t<|mQ G c s t<|zv m)<|xg (FU (xg s<|mQ G c s t<|zv m) c<|zv m) G;rw[Y<|wo ht C mS mS e,Y<|wo A B mS mS e,Y<|sy (k:=K+K+6*W+3) (r.mono mS) (z.mono mS) mS mS mS e,Y<|ZS (ht.mono mS) V mS mS mS e,Y<|XN (CB (ht.mono mS) V) mS o h0,show vJ (bn t<|bT (xg t<|mQ G c s t<|zv m)<|xg (FU (xg s<|mQ G c s t<|zv m) c<|zv m) G) (zv m)=puT G c s t (zv m)from O]
end
section
variable{d f g h s:wF Zr}{m:wN}
def Wh(a:N U)(m:J):Cg m (cf<|vJ a m) (cf a):=λk=>by rw[Zj,xaT]
def NU(a b:N U):(cf (bn a b):Pz)=cf a-cf b:=Z0 λk=>zc5 a b k
def EF(a b:N U):(cf (bT a b):Pz)=cf a+cf b:=Z0 λk=>zbx a b k
def zfL{x:N U}(b:0<X d)(hc:cf d (X d-1)=1):Cg m (cf x) ((cf (FU x d m):Pz)*cf d+cf (CK x d m)):=by
 intro k;unfold FU CK;rw[zW,<-uH,nB W b hc,xeq,xaT,<-xeq];have c:=Zj x m k;generalize vJ x m=r at*
 have⟨qn,a⟩:∃qn,qn=X r+1-X d:=⟨_,O⟩;have hd:∀j,j<qn->cf (Gn r d m) j=dvC r d m qn j:=λj i=>by
  rw[zbG];unfold dvQ dvC;simp_all
 have e:X (Gn r d m)<=qn:=by unfold Gn;rw[xJ,<-a];exact jc _ _
 have h:=zcg hd k qn<|Nm _;rw[Cv,Rs e]at h;rw[Np,<-a,Int.add_comm,<-h,c,xaT]
def gF{n x:J}(hn:n∣m)(a:n∣x):n∣x%m:=by rw[Int.emod_def];exact xdA a<|xbv hn<|xcd _ _
def Cj{r d:N U}{n m:J}{qn:K}(hn:n∣m)(a:∀k,n∣cf r k):∀s k,n∣dvF r d m qn s k
 |0,k=>a k
 |s+1,k=>xdA (Cj hn a s k)<|xbv (gF hn<|Cj hn a s _)<|xcd _ _
def zjk{x:N U}{n:J}(hn:n∣m)(b:Cg n (cf x) (pc 0))(c:0<X d)(hc:cf d (X d-1)=1):Cg n (cf<|FU x d m) (pc 0)/\Cg n (cf<|CK x d m) (pc 0):=by
 have a:∀k,n∣cf (vJ x m) k:=λk=>by rw[Zj];exact gF hn<|b.dvd k
 refine⟨Cg.of_dvd λk=> ?_,Cg.of_dvd λk=> ?_⟩;unfold FU;rw[zbG];refine gF hn ?_;unfold dvQ;split;exact gF hn<|Cj hn a _ _;simp_all;unfold CK;rw[nB W c hc];exact gF hn<|Cj hn a _ _
def znb{n:J}(c:m∣n*n)(hn:n∣m){t:N U}(h1:Cg n (cf f) ((cf g:Pz)*cf h))(e:Cg n ((cf s:Pz)*cf g+(cf t:Pz)*cf h) (pc 1))(a:0<X h)(hc:cf h (X h-1)=1):
 Cg m (cf f) ((cf (puG f g h s t m):Pz)*cf (GN f g h s m))/\Cg n (cf<|puG f g h s t m) (cf g)/\Cg n (cf<|GN f g h s m) (cf h):=by
 have b:Cg m (cf<|gY f g h m) ((cf f:Pz)-(cf g:Pz)*cf h):=by refine(Wh _ _).trans<|Cg.of ?_;rw[NU,uH]
 have i:Cg n (cf<|gY f g h m) (pc 0):=(b.down hn).trans<|Cg.iff_sub.1 h1;have hd:Cg m ((cf s:Pz)*cf (gY f g h m)) ((cf (FU (xg s<|gY f g h m) h m):Pz)*cf h+cf (CK (xg s<|gY f g h m) h m)):=by rw[<-uH];exact zfL a hc
 have⟨j,z2⟩:=zjk (x:=xg s<|gY f g h m) (d:=h) hn (by rw[uH];exact i.mul_zero_l _) a hc;refine zgb c hn (q:=cf<|FU (xg s<|gY f g h m) h m) (r:=cf<|CK (xg s<|gY f g h m) h m) h1 e b hd j z2 ?_ ?_;refine(Wh _ _).trans<|Cg.of ?_;rw[EF,EF,uH,uH];refine(Wh _ _).trans<|Cg.of ?_;rw[EF]
def zm1{n:J}(a:m∣n*n)(hn:n∣m){t:N U}(b:Cg n ((cf s:Pz)*cf g+(cf t:Pz)*cf h) (pc 1))(c:0<X h)(hc:cf h (X h-1)=1):
 Cg m ((cf (puS g h s t m):Pz)*cf g+(cf (puT g h s t m):Pz)*cf h) (pc 1):=by
 have e:Cg m (cf<|mQ g h s t m) ((cf s:Pz)*cf g+(cf t:Pz)*cf h-pc 1):=by refine(Wh _ _).trans<|Cg.of ?_;rw[NU,EF,uH,uH,zkh]
 have hd:Cg m ((cf s:Pz)*cf (mQ g h s t m)) ((cf (FU (xg s<|mQ g h s t m) h m):Pz)*cf h+cf (CK (xg s<|mQ g h s t m) h m)):=by rw[<-uH];exact zfL c hc
 refine zgm a hn b e hd ?_ ?_;refine(Wh _ _).trans<|Cg.of ?_;rw[NU];refine(Wh _ _).trans<|Cg.of ?_;rw[NU,EF,uH,uH]
def zcP{a b:N U}(e:0<X a)(hc:0<X b)(c:cf b (X b-1)=1):((cf a:Pz)*cf b) (X a-1+(X b-1))=cf a (X a-1):=by
 rw[w7,wH (i:=X a-1) λi hi=> ?_,yg,(W:X a-1+(X b-1)-(X a-1)=X b-1),c,xcU];by_cases h:i<X a-1
 rw[yq (p:=b) W,xaz];rw[yq W,xba]
theorem zcQ(q:2<=m)(c:vJ g m=g)(e:vJ f m=f)(r:0<X f)(hl:0<X h)(hn:cf h (X h-1)=1)(hc:Cg m (cf f) ((cf g:Pz)*cf h)):
 X f=X g+(X h-1)/\0<X g/\cf g (X g-1)=cf f (X f-1):=by
 have l:=ai g m;have a:=ai f m;rw[c]at l;rw[e]at a;have o:∀k,cf g k%m=cf g k:=λk=>by rw[<-Zj,c]
 have hd:∀k,cf f k%m=cf f k:=λk=>by rw[<-Zj,e]
 have hp:=X3 a W;have g0:0<X g:=by refine xcV λh0=>hp ?_;rw[<-hd,hc,w7,yU λi hi=>by rw[yq (p:=g) W,xba],xar]
 have t:=X3 l W;have ht:=hc<|X g-1+(X h-1);rw[zcP g0 hl hn,hd,o]at ht;have e1:X f=X g+(X h-1):=by refine xcK (Mj a λk u=> ?_)<|xbx λv=> ?_;rw[<-hd,hc,uX (n:=X g) (m:=X h) (λj b=>yq b)<|λj b=>yq b,xar];rw[yq (p:=f) W]at ht;lia
 grind
end
section
variable{r0 r1 a b K fu:wP}{u0 u1 v0 v1:wN}
structure ZbI(a b:wP)(r0 r1:wP)(u0 v0 u1 v1:J):Prop where
 p0:0<r0
 le0:r0<=max a b
 le1:r1<=max a b
 e0:u0*a+v0*b=r0
 e1:u1*a+v1*b=r1
 g:xdx r0 r1=xdx a b
 su:∃x y:wP,((u0=x/\u1= -y)\/(u0= -x/\u1=y))/\r0*y+r1*x=b
 sv:∃x y:wP,((v0=x/\v1= -y)\/(v0= -x/\v1=y))/\r0*y+r1*x=a
 bu0:u0.natAbs<=b
 bu1:u1.natAbs<=b
 bv0:v0.natAbs<=a
 bv1:v1.natAbs<=a
def SJ{c:wP}(i:0<r1)(h:∃x y:wP,((u0=x/\u1= -y)\/(u0= -x/\u1=y))/\r0*y+r1*x=c):
 (∃x y:wP,((u1=x/\u0-((r0/r1:wP):J)*u1= -y)\/(u1= -x/\u0-((r0/r1:wP):J)*u1=y))/\r1*y+r0%r1*x=c)/\(u0-((r0/r1:wP):J)*u1).natAbs<=c:=by
 have⟨x,y,g,j⟩:=h;have hc:=xbt r0 r1;generalize r0/r1=q at*
 generalize r0%r1=r2 at*
 have e1:r1*(x+q*y)+r2*y=c:=by
  rw[xcm,<-xbj];have:r0*y=r1*q*y+r2*y:=by rw[<-xbl,hc]
  lia
 have k:x+q*y<=c:=by have l:1*(x+q*y)<=r1*(x+q*y):=xag _ W;lia
 have f:((q*y:wP):J)=(q:J)*(y:J):=m7
 rcases g with⟨d,e⟩|⟨d,e⟩
 rw[d,e,Int.mul_neg,<-f];exact⟨⟨y,x+q*y,.inr ⟨O,W⟩,e1⟩,W⟩;rw[d,e,<-f];exact⟨⟨y,x+q*y,.inl ⟨O,W⟩,e1⟩,W⟩
theorem ZbI.step(h:ZbI a b r0 r1 u0 v0 u1 v1)(c:0<r1):ZbI a b r1 (r0%r1) u1 v1 (u0-((r0/r1:wP):J)*u1) (v0-((r0/r1:wP):J)*v1):=by
 have⟨d,e⟩:=SJ c h.su;have⟨t1,t2⟩:=SJ c h.sv;have hd:=xbt r0 r1;have i:=xaQ r0 c;have f:=h.le1;refine⟨c,f,W,h.e1,?_,?_,d,t1,h.bu1,e,h.bv1,t2⟩;have e0:=h.e0;have e1:=h.e1;have hc:(r0:J)=(r1:J)*((r0/r1:wP):J)+((r0%r1:wP):J):=W
 grind;rw[<-h.g,xdJ r1,<-Nat.gcd_rec,xdJ]
theorem Bz.nat{n:wP}(h:n<18446744073709551616^K):Bz K (n:J):=by unfold Bz;exact h
def lH{q x0 e z0 f g h:J}(c:Bz K q)(h1:Bz K x0)(l:Bz K e)(m:Bz K z0)(i:Bz K f)(j:Bz K g)(k:Bz K h)(n:K<=10000)(d:3000000<=fu):
 Z8 fu (yK x0,(yK e,yK z0)) (yK q) (yK f,(yK g,yK h))=Z (yK<|x0-q*f,(yK<|e-q*g,yK<|z0-q*h)):=by
 unfold Z8;have b1:=c.mul i;have b2:=c.mul j;have b3:=c.mul k;rw[Y<|ya (c.ok W) (i.ok W) d,zt,zt,Y<|qx (h1.ok W) (b1.ok W) d,zt,zt,Y<|ya (c.ok W) (j.ok W) d,zt,zt,Y<|qx (l.ok W) (b2.ok W) d,zt,zt,Y<|ya (c.ok W) (k.ok W) d,zt,zt,Y<|qx (m.ok W) (b3.ok W) d,zt,zt]
def LO(h:r1<=r0:=by lia)(c:0<r1:=by lia):bl (r0%r1)<bl r0:=by
 have f:=xbt r0 r1;have hc:=xaQ r0 c;have d:1<=r0/r1:=(xcy c).2 W;have h1:r1*1<=r1*(r0/r1):=xaB _ d;have g:=DS r0;have hp:1<=bl r0:=by rw[dN];lia
 have e:2^bl r0=2*2^(bl r0-1):=by rw[<-xdV,(W:(bl r0-1).succ=bl r0)]
 have:=ae (n:=r0%r1) (k:=bl r0-1) W;lia
def zd9(q:a<18446744073709551616^K)(t:b<18446744073709551616^K)(w:K<=1000)(f:3000000<=fu)(c:ZbI a b r0 r1 u0 v0 u1 v1):
 ∃r,zg (QG fu) fu ((yK r0,(yK u0,yK v0)),(yK r1,(yK u1,yK v1)))=Z r/\∃u v:J,r=(yK (xdx a b:wP),(yK u,yK v))/\u*a+v*b=(xdx a b:wP)/\u.natAbs<=b/\v.natAbs<=a:=by
 have hc:∀{n:wP},n<=max a b->bl n<=64*K:=λ{n} hn=>ae (by rw[xbM,IZ];lia)
 refine zU (λs:(U×(U×U))×(U×(U×U))=>∃(r0 r1:wP) (u0 v0 u1 v1:J),s=((yK r0,(yK u0,yK v0)),(yK r1,(yK u1,yK v1)))/\ZbI a b r0 r1 u0 v0 u1 v1) (λs=>bl (zv s.1.1).natAbs+bl (zv s.2.1).natAbs+if(zv s.1.1).natAbs<(zv s.2.1).natAbs then 1 else 0) _ ?_ _ _ ⟨r0,r1,u0,v0,u1,v1,O,c⟩ ?_;rintro s L ⟨r0,r1,u0,v0,u1,v1,rfl,c⟩ k;have d:∀x:J,x.natAbs<=max a b->Bz K x:=λx y=>by unfold Bz;lia
 have z0:Bz K (r0:J):=d _ (by have:=c.le0;lia);have h:Bz K (r1:J):=d _ (by have:=c.le1;lia);unfold QG;simp only;rw[Y<|xi (h.ok W) f,zt];by_cases h0:r1=0
 rw[E<|xU.2 W];have i:=c.g;rw[h0,Nat.gcd_zero_right]at i;exact⟨_,O,u0,v0,by rw[i],by rw[c.e0,i],c.bu0,c.bv0⟩;rw[P<|λe=>h0 (by have:=xU.1 e;lia),Y<|UK (z0.okS W) (h.okS W) f,zt,zt];unfold LH;rw[zF];simp only;have l:((r0:J)/(r1:J))=((r0/r1:wP):J):=O;have m:Bz K ((r0/r1:wP):J):=Bz.nat (by have h1:=xcI r0 r1;have j:=c.le0;lia)
 have o:=c.step W;have hd:=xbt r0 r1;have p:(r0:J)-((r0/r1:wP):J)*(r1:J)=((r0%r1:wP):J):=by
  have:(r0:J)=((r1*(r0/r1)+r0%r1:wP):J):=by rw[hd]
  conv=>lhs;rw[this]
  rw[hd];have j:(r0:J)=(r1:J)*((r0/r1:wP):J)+((r0%r1:wP):J):=by rw[this];simp
  rw[xbB];lia
 rw[l,Y<|lH m z0 (d _ (by have:=c.bu0;lia)) (d _ (by have:=c.bv0;lia)) h (d _ (by have:=c.bu1;lia)) (d _ (by have:=c.bv1;lia)) W f,p];refine k _ ⟨_,_,_,_,_,_,O,o⟩ ?_;simp only[zt,xaH];have z:=xaQ r0 (W:0<r1);rw[zF];by_cases hi:r0<r1;rw[E hi,xap hi];lia;have:=LO (r0:=r0) (r1:=r1);lia;simp only[zt,xaH];have h1:=hc c.le0;have j:=hc c.le1;split<;>lia
theorem tJ{x y:U}(d:zn x.2)(f:zn y.2)(hc:X x.2<=K)(hd:X y.2<=K)(h:zv x=(a:J))(i:zv y=(b:J))(j:0<a)(o:0<b)(k:K<=1000)(c:3000000<=fu):
 ∃u v:J,Vg fu x y=Z (yK (xdx a b:wP),yK u,yK v)/\u*a+v*b=(xdx a b:wP)/\u.natAbs<=b/\v.natAbs<=a:=by
 have g:A x.2=a:=by have:=vW x;lia
 have nb:A y.2=b:=by have:=vW y;lia
 have l:a<18446744073709551616^K:=by rw[<-g];exact xac (vA d)<|xai m6 hc
 have m:b<18446744073709551616^K:=by rw[<-nb];exact xac (vA f)<|xai m6 hd
 have n:ZbI a b a b 1 0 0 1:=by refine⟨j,xeg _ _,xdP _ _,W,W,O,⟨1,0,.inl ⟨O,O⟩,W⟩,⟨0,1,.inr ⟨O,O⟩,W⟩,W,W,W,W⟩
 obtain⟨r,e1,u,v,rfl,p,q,s⟩:=zd9 (fu:=fu) l m k c n;unfold Vg;rw[Y (yQ d W W),Y<|yw m6 c,Y<|yw m6 c,Y (yQ f W W),Y<|yw m6 c,Y<|yw m6 c,P m6,P m6,g,nb,Y e1];simp only;rw[Y<|xi ⟨d,W⟩ c,P (λe=>by rw[h,qb W]at e;exact kW e m6),Y O,Y<|xi ⟨f,W⟩ c,P (λe=>by rw[i,qb W]at e;exact kW e m6),Y O];grind
end
section
variable{p m:wN}{d:wF wN}{k K:wP}{f:wF Zr}
def Sa{x:Pz}(hp:2<=p)(g:Fs x)(r:0<A2 d)(hd:ci d (A2 d-1)=1)(h:Cg p (x*ci d) (pc 1)):A2 d=1:=by
 have⟨n,hn⟩:=g;have⟨X,b⟩:∃X,X=nl n (λk=>x k%p):=⟨_,O⟩;have a:∀k,ci X k=x k%p:=λk=>by
  rw[b];exact EO (λj o=>by rw[hn j o,xar]) k
 have q:Nl X:=by rw[b];exact Bc _ _
 have c:Cg p (ci X*ci d) (pc 1):=(Cg.mul (λk=>by rw[a,xaT]) Cg.rfl).trans h;obtain h0|h0:=q
 have h1:=c 0;rw[w7,yU λi hi=>by rw[yB (l:=X) W,xba]]at h1;unfold pc at h1;rw[E O,xar,xaJ m6 W]at h1;cases h1
 have s:0<A2 X:=xcV λe=>h0 (yB W);have ht:(ci X*ci d) (A2 X-1+(A2 d-1))=ci X (A2 X-1):=by
  rw[w7,wH (i:=A2 X-1) λi hi=> ?_,yg,(W:A2 X-1+(A2 d-1)-(A2 X-1)=A2 d-1),hd,xcU];by_cases hc:i<A2 X-1
  rw[yB (l:=d) W,xaz];rw[yB (l:=X) W,xba]
 have h1:=c<|A2 X-1+(A2 d-1);rw[ht,a,xaT,<-a]at h1;refine Decidable.byContradiction λhl=> ?_;unfold pc at h1;rw[zF,xar]at h1;exact h0 h1
def zk7{g h s t:N J}{S:wP}(hp:2<=p)(a:BzR p g h d s t S)(hd:X d=0\/ci d (X d-1)=1)(hc:kM p (ci g) (ci h)):Cg p (ci s*ci g+ci t*ci h) (pc 1):=by
 have⟨A,C,c,z2,d1,d2⟩:=a.dv;have⟨u,v,z3,z4,hc⟩:=hc;have b:Cg p ((u*A+v*C)*ci d) (pc 1):=by refine Cg.trans (Cg.of ?_)<|(((Cg.rfl (f:=u)).mul d1.symm).add<|(Cg.rfl (f:=v)).mul d2.symm).trans hc;rw[yY,zd,zd]
 have j:0<X d:=by refine xcV λe=> ?_;have h1:=b 0;rw[w7,yU λi hi=>by rw[yB (l:=d) W,xaz]]at h1;unfold pc at h1;rw[xar,xaJ m6 W]at h1;cases h1
 have n:=hd.resolve_left W;have hl:=Sa hp ((z3.mul c).add<|z4.mul z2) j n b;have e:ci d=pc 1:=by
  funext k;unfold pc;by_cases o:k=0
  simp_all;rw[P o,yB W]
 have:=a.cg;rw[e]at this;exact this.symm
def WA(hp:qO p=qR):kU p.toNat:=by refine xad λh=> ?_;rw[Ik<|λe=>h e.2.2]at hp;simp_all
def zlj{P N:wP}(h1:1<=P)(b:P<=65521)(a:k<=4*N)(c:0<N):P^k<18446744073709551616^N:=by rw[(m6:18446744073709551616=65536^4),<-xbM];exact xaI (xai W a)<|Nat.pow_lt_pow_left W W
def tH(hp:qO p=qR)(a:k<=1000:=by lia):Bz 250 (p^k):=by have⟨b,c⟩:=zB hp;obtain⟨P,rfl⟩:=xaE (W:0<=p);exact zlj W W a m6
theorem nA(hp:qO p=qR)(a:1<=k:=by lia):2<=p^k:=by have⟨b,c⟩:=zB hp;obtain⟨P,rfl⟩:=xaE (W:0<=p);have h1:P^1<=P^k:=xai W a;grind
def iK{i j:wP}(h:i<=j:=by lia):p^i∣p^j:=⟨p^(j-i),by rw[<-Int.pow_add,(W:i+(j-i)=j)]⟩
def zlb{c:J}(hp:qO p=qR)(hc:c%p≠0)(a:0<=c):xdx c.toNat (p^k).toNat=1:=by
 have⟨g,h⟩:=zB hp;have hd:=WA hp;obtain⟨P,rfl⟩:=xaE (W:0<=p);obtain⟨C,rfl⟩:=xaE a;have b:=xaQ C (W:0<P);have h1:=iu W hd W b;have e:xdx C P=1:=by rw[xdJ,Nat.gcd_rec,xdJ];exact h1
 exact Nat.Coprime.pow_right k e
structure Rd(K:wP)(m:J)(f:N U):Prop where
 ok:xf K f
 rd:vJ f m=f
def Rd.mod(h:Rd K m f)(k:wP):cf f k%m=cf f k:=by rw[<-Zj,h.rd]
def Rd.can(h:Rd K m f):f=w8 (X f) (cf f):=by have:=ai f m;rw[h.rd]at this;exact this
def iH(b:Bz K m)(h0:0<m)(a:N U):Rd K m (vJ a m):=⟨bu b h0,EG λk=>by rw[Zj,xaT]⟩
def BE{fu:wP}(hp:qO p=qR)(C:1<=k)(D:k<=1000)(g:Rd 250 (p^k) f)(N:0<X f)(P:X f<=1000)(hd:cf f (X f-1)%p≠0)(q:3000000<=fu):
 ∃w u,JD fu f (yK<|p^k)=Z w/\Rd 250 (p^k) w/\X w=X f/\cf w (X w-1)=1/\(u*cf f (X f-1))%p^k=1/\Cg (p^k) (cf w) (pc u*cf f):=by
 have h:=tH hp D;have E:=nA hp C;have⟨m,G⟩:∃m,m=p^k:=⟨_,O⟩;have n:=zlb (k:=k) hp hd (by rw[<-g.mod];exact xcN _ W)
 rw[<-G]at h E g n⊢;have⟨c,hc⟩:∃c,c=cf f (X f-1):=⟨_,O⟩;have r:=xo (a:=c) (p:=m);have s:=g.mod<|X f-1;rw[<-hc]at s hd n⊢;rw[s]at r;have Q:c≠0:=λe=>hd (by rw[e,xar]);have R:Bz 250 c:=h.le W;have t:=g.ok.get<|X f-1;have⟨u,v,e1,z,S,T⟩:=tJ (fu:=fu) (K:=250) (a:=c.toNat) (b:=m.toNat) (x:=f.getD (X f-1) (I,[])) (y:=yK m) t.1 (yJ _) t.2 h.len (by rw[Qi,<-hc];lia) (by rw[zt];lia) W W m6 q;rw[n]at z;have ht:Bz 250 u:=h.le W;have A:(u*c)%m=1:=by
  have:u*c=1+m*(-v):=by rw[xdg r.1,xdg (W:0<=m)]at z;rw[Int.mul_neg,xbB m v];lia
  rw[this,Int.add_mul_emod_self_left];exact xaJ m6 W
 have H:eJ (yK m):=h.okS m6;have⟨sc,hl⟩:∃sc,sc=w8 (X f) (λj=>cf f j*u):=⟨_,O⟩;have hv:xf (250+250) sc:=by rw[hl];exact xp λj=>(g.ok.bz j).mul ht
 have U:X sc<=X f:=by rw[hl,xJ];exact jc _ _
 have L:∀j,cf sc j=cf f j*u:=λj=>by rw[hl];exact km (λi hi=>W7 hi) j
 have hn:∀j,cf (vJ sc m) j=cf f j*u%m:=λj=>by rw[Zj,L]
 have o:cf (vJ sc m) (X f-1)=1:=by rw[hn,<-hc,xbB,A]
 have B:X (vJ sc m)=X f:=by refine xcK (Mj (ai _ _) λj M=> ?_)<|xbx λV=> ?_;rw[hn,yq M,xba,xar];rw[yq W]at o;cases o
 refine⟨vJ sc m,u,?_,iH h W _,B,by rw[B];exact o,A,λj=> ?_⟩;unfold JD;rw[(W:(X f:J)-1=((X f-1:wP):J)),zb,yn,F,Y e1];simp only;rw[Y<|kn (l:=250) g.ok ⟨yJ _,ht.len⟩ m6 W q,zt,<-hl,Y (XN hv m6 H<|by rw[zt];lia),zt];rw[hn,zS,xaT,xbB]
end
section
variable{G i8 S f g0 h0:wF Zr}{p:wN}{i k lh LS j fu:wP}
structure TrI(p:J)(k:K)(f g0 h0:N U)(lh LS i:K)(G i8 S T:N U):Prop where
 i1:1<=i
 ik:i<=k
 rG:Rd 250 (p^i) G
 rH:Rd 250 (p^i) i8
 rS:Rd 250 (p^i) S
 rT:Rd 250 (p^i) T
 hl:i8.length=lh
 h1:cf i8 (lh-1)=1
 fac:Cg (p^i) (cf f) ((cf G:Pz)*cf i8)
 bez:Cg (p^i) ((cf S:Pz)*cf G+(cf T:Pz)*cf i8) (pc 1)
 gp:Cg p (cf G) (cf g0)
 hp:Cg p (cf i8) (cf h0)
 sl:S.length<=LS
def zks{m:J}{T:N U}{K:wP}(d:2<=m)(b:Rd K m T)(hl:0<X i8)(h1:cf i8 (X i8-1)=1)(c:Cg m ((cf S:Pz)*cf G+(cf T:Pz)*cf i8) (pc 1)):X T<=X S+X G+1:=by refine xbx λe=> ?_;have ht:=X3 b.can W;have hp:=c<|X T-1+(X i8-1);rw[zW,zcP W hl h1,uX (λj a=>yq a)<|λj a=>yq a,xcO,b.mod]at hp;unfold pc at hp;rw[zF,xar]at hp;lia
theorem Nf{k:K}(hi:1<=i)(a:cf f (X f-1)%p≠0)(hc:0<X f):X (vJ f<|p^i)=X f:=by
 refine xcK (XX _ _)<|xbx λb=>a ?_;have h:cf (vJ f<|p^i) (X f-1)=0:=yq W;rw[Zj]at h;have hd:p∣p^i:=by have:=iK (p:=p) hi;grind
 rw[<-xcE _ hd,h,xar]
def TrI.lens{T:N U}(h:TrI p k f g0 h0 lh LS i G i8 S T)(hp:qO p=qR)(a:cf f (X f-1)%p≠0)(hd:0<X f)(d:0<lh):
 X f=X G+(lh-1)/\0<X G/\cf G (X G-1)=cf f (X f-1)%p^i/\X T<=LS+X G+1:=by
 have hc:=nA hp h.i1;have hl:=h.hl;have h1:=h.h1;rw[<-hl]at h1;have b:=Nf (k:=k) h.i1 a hd;have⟨e1,e,c⟩:=zcQ hc h.rG.rd (EG λj=>by rw[Zj,xaT]) W W h1<|(Wh _ _).trans h.fac;have g:=zks hc h.rT W h1 h.bez;have:=h.sl;rw[b,Zj]at c;lia
def zjC(h:j<=i+i):p^j∣p^i*p^i:=by rw[<-Int.pow_add];exact iK h
theorem kY(h:1<=i:=by lia):p∣p^i:=by have:=iK (p:=p) h;grind
def TrI.step{T:N U}(h:TrI p k f g0 h0 lh LS i G i8 S T)(hp:qO p=qR)(v:k<=1000)(hi:xf 250 f)(hd:cf f (X f-1)%p≠0)(o:0<X f)(hn:0<lh)(w:i<k)(ht:X f<=300)(y:LS<=4500)(hv:lh<=LS)(q:3000000<=fu):
 ∃G' b c e,kI fu [G,i8,S,T] f (yK<|p^min (2*i) k)=Z [G',b,c,e]/\TrI p k f g0 h0 lh LS (min (2*i) k) G' b c e:=by
 have⟨j,r⟩:∃j,j=min (2*i) k:=⟨_,O⟩;have t:=h.i1;have⟨l1,z,A,B⟩:=h.lens hp hd o hn;have a:=tH hp (k:=j);have l:=nA hp (k:=j);have hl:=h.hl;have h1:=h.h1;have C:=h.sl;rw[<-hl]at h1;have n:=lD (fu:=fu) (K:=250) (W:=5000) hi h.rG.ok h.rH.ok h.rS.ok h.rT.ok mS mS mS mS mS (Nm _) m6 m6 (yJ<|p^j) a.len (by rw[zt];exact l) mS h1 q;rw[zt]at n;rw[<-r];refine⟨_,_,_,_,n,?_⟩;have d1:p^j∣p^i*p^i:=zjC mS;have d2:p^i∣p^j:=iK;have d3:p∣p^i:=kY t;have⟨f1,f2,f3⟩:=znb d1 d2 h.fac h.bez mS h1;have⟨t1,t2⟩:=zcn (f:=f) (g:=G) (s:=S) l mS h1;have hc:Cg (p^i) ((cf S:Pz)*cf (puG f G i8 S T<|p^j)+(cf T:Pz)*cf (GN f G i8 S<|p^j)) (pc 1):=((Cg.rfl.mul f2).add<|Cg.rfl.mul f3).trans h.bez;have u:=zm1 d1 d2 hc mS (by rw[t1];exact t2);have D:=Hq (x:=xg S<|mQ (puG f G i8 S T<|p^j) (GN f G i8 S<|p^j) S T<|p^j) (d:=GN f G i8 S<|p^j) (m:=p^j) mS (by rw[t1];exact t2);refine⟨mS,mS,iH a mS _,iH a mS _,iH a mS _,iH a mS _,mS,by rw[hl]at t2;exact t2,f1,u,(f2.down d3).trans h.gp,(f3.down d3).trans h.hp,?_⟩;have e1:=XX (bn S<|CK (xg S<|mQ (puG f G i8 S T<|p^j) (GN f G i8 S<|p^j) S T<|p^j) (GN f G i8 S<|p^j)<|p^j)<|p^j;have E:=aa S<|CK (xg S<|mQ (puG f G i8 S T<|p^j) (GN f G i8 S<|p^j) S T<|p^j) (GN f G i8 S<|p^j)<|p^j;show(vJ _ _).length<=LS;lia
theorem zfn(hp:qO p=qR)(h1:1<=j)(a:j<=1000)(b:3000000<fu):ja fu p (j:J)=Z (yK<|p^j,0):=by grind [sG,Ze]
def zdF{T:N U}(h:TrI p k f g0 h0 lh LS 1 G i8 S T)(hp:qO p=qR)(e:k<=1000)(hc:xf 250 f)(g:cf f (X f-1)%p≠0)(hd:0<X f)(l:0<lh)(m:X f<=300)(hi:LS<=4500)(n:lh<=LS)(o:3000000<fu):
 ∃G' a b c,zg (YT fu f p (k:J)) fu (1,[G,i8,S,T])=Z [G',a,b,c]/\TrI p k f g0 h0 lh LS k G' a b c:=by
 obtain⟨r,e1,G',a,b,c,rfl,d⟩:=zU (f:=YT fu f p (k:J)) (λs:J×N (N U)=>∃(i:K) (G i8 S T:N U),s=((i:J),[G,i8,S,T])/\TrI p k f g0 h0 lh LS i G i8 S T) (λs=>k-s.1.toNat) (λr=>∃G i8 S T,r=[G,i8,S,T]/\TrI p k f g0 h0 lh LS k G i8 S T) (by
  rintro s L ⟨i,G,i8,S,T,rfl,h⟩ q;unfold YT;simp only;have hl:=h.i1;have v:=h.ik;by_cases t:i<k;have⟨G',a,b,c,e1,d⟩:=h.step (fu:=fu) hp e hc g hd l t m hi n W;have u:min (2*(i:J)) (k:J)=((min (2*i) k:K):J):=W
  rw[yg,zb,F,u,Y<|zfn hp W W o];simp only;rw[Y e1];exact q _ ⟨_,_,_,_,_,O,d⟩ (by show k-((min (2*i) k:K):J).toNat<k-(i:J).toNat;lia);rw[zF];obtain rfl:i=k:=W
  exact⟨_,O,_,_,_,_,O,h⟩) fu (1,[G,i8,S,T]) ⟨1,_,_,_,_,O,h⟩ (by show k-1<fu;lia)
 exact⟨_,_,_,_,e1,d⟩
end
section
variable{p:wN}{l:wF wN}{g:Pz}
def zgI{a b:N J}(hp:2<=p)(e:0<X a)(hd:ci a (X a-1)=1)(f:0<X b)(d:ci b (X b-1)=1):X (xM p a b)=X a+X b-1/\ci (xM p a b) (X a+X b-1-1)=1:=by
 have ht:(ci a*ci b) (X a-1+(X b-1))=1:=by
  rw[w7,wH (i:=X a-1) λi hi=> ?_,yg,(W:X a-1+(X b-1)-(X a-1)=X b-1),d,hd];rfl;by_cases hc:i<X a-1
  rw[yB (l:=b) W,xaz];rw[yB (l:=a) W,xba]
 have h1:ci (xM p a b) (X a+X b-1-1)=1:=by rw[bU,(W:X a+X b-1-1=X a-1+(X b-1)),ht];exact xaJ m6 W
 refine⟨xcK ((jz W a b).nl.le λk h=> ?_)<|xbx λo=> ?_,h1⟩;rw[bU,uX (n:=X a) (m:=X b) (λj c=>yB c)<|λj c=>yB c,xar];rw[yB W]at h1;cases h1
def Tq{p:J}(hp:2<=p):∀(fs:N (N J)) {t:N J},0<X t->ci t (X t-1)=1->(∀f∈fs,Tr p f)->0<X (fs.foldl (xM p) t)/\ci (fs.foldl (xM p) t) (X (fs.foldl (xM p) t)-1)=1
 |[],_,h0,h1,_=>⟨h0,h1⟩
 |f::r,t,h0,h1,h=>by
  have a:=h f<|IR;have⟨e1,b⟩:=zgI hp h0 h1 (show 0<X f by have:=a.2.1;lia) a.2.2;have:=a.2.1;exact Tq hp r W (by rw[e1];exact b) λg c=>h g<|FS _ c
def zd4(hp:2<=p){fs:N (N J)}(h:∀f∈fs,Tr p f):0<X (Q4 p fs)/\ci (Q4 p fs) (X (Q4 p fs)-1)=1:=Tq hp fs m6 O h
def Ie(h:Nl l):X (uE l)=X l:=by unfold uE;rw[xJ];exact Ux (Nm _) (λk h1 a=>by lia)<|h.imp id id
def sH(h:Fp p l)(a:p<=65521):Rd 250 (p^1) (uE l):=by refine⟨(RY<|h.rl a).mono m6,?_⟩;rw[xbS,xck,xdh];unfold vJ;rw[show(λj=>cf (uE l) j%p)=cf (uE l)from Z0 λj=>by rw[ks,h.mod]];exact Tk _ _
def kM.congr{f f' a:Pz}(h:kM p f g)(b:Cg p f f')(c:Cg p g a):kM p f' a:=by have⟨s,t,d,z2,h⟩:=h;exact⟨s,t,d,z2,((Cg.rfl.mul b.symm).add<|Cg.rfl.mul c.symm).trans h⟩
theorem Hy{A B:N (N J)}(h:∀a∈A,∀b∈B,kM p (ci a)<|ci b):kM p (prZ<|A.map ci) (prZ<|B.map ci):=by grind [Fs.ci,kM.symm,kM.prZ,Fs.prZ]
def zhU{c:J}(hp:qO p=qR)(h0:0<c)(h1:c<p):kM p (pc c) g:=by have⟨x,e1,b,d,a⟩:=Uq hp h0 h1<|Nm _;refine⟨pc x,pc 0,Fs.pc _,Fs.pc _,?_⟩;rw[yE,jR];intro k;rw[zW,zV,xcc];unfold pc;split;rw[a];exact(xaJ m6 W).symm;rfl
def EN{α β:Type}(R:α->β->Prop):N α->N β->Prop
 |[],[]=>Ws
 |a::r,b::s=>R a b/\EN R r s
 |_,_=>UT
def EN.append{α β:Type}{R:α->β->Prop}:∀{a:N α}{b:N β}{c:N α}{d:N β},EN R a b->EN R c d->EN R (a++c) (b++d)
 |[],[],_,_,_,h=>h
 |_::_,_::_,_,_,h,e=>⟨h.1,EN.append h.2 e⟩
def EN.len{α β:Type}{R:α->β->Prop}:∀{a:N α}{b:N β},EN R a b->X a=X b
 |[],[],_=>rfl
 |_::_,_::_,h=>by rw[xaw,xaw,h.2.len]
structure Up(p:J)(k:K)(u:N U)(g:N J):Prop where
 rd:Rd 250 (p^k) u
 len:u.length=g.length
 top:cf u (u.length-1)=1
 cg:Cg p (cf u) (ci g)
def zet{f:N U}(h:0<X f):f.drop (X f-1)=[f.getD (X f-1) (I,[])]:=IB
def zho{z:U}(hp:0<p)(h0:zv z%p≠0):jr p [z]=[zv z%p]:=by
 have b:=xo (a:=zv z) hp;refine(Q9 hp [z]).ext (QN W b.2) ((iE p [z]).trans λk=> ?_)
 cases k with
 |zero=>show zv z%p=(zv z%p)%p;rw[xaT]
 |succ k=>skip;rfl
end
def zlL{k:K}{p:J}(hp:qO p=qR)(Q:1<=k)(hk:k<=1000):∀(n:K) {fu:K}{f:N U}{fs:N (N J)},X fs=n->1<=n->n<=66->3000002+n<=fu->
 Rd 250 (p^k) f->0<X f->X f<=66->cf f (X f-1)%p≠0->(∀g∈fs,Tr p g/\X g<=66)->fs.Pairwise (λa b=>kM p (ci a)<|ci b)->Cg p (cf f) (pc (cf f<|X f-1)*prZ (fs.map ci))->
 ∃us,qE fu f fs p (k:J) (yK<|p^k)=Z us/\EN (Up p k) us fs/\Cg (p^k) (cf f) (pc (cf f<|X f-1)*prZ (us.map λu=>(cf u:Pz))):=by
 intro n
 induction n using xdG with
 |_ n ih=>
 intro fu f fs hn h9 h' a5 R hl a6 hd hE J4 ht;have⟨C,o⟩:=zB hp;obtain⟨F,rfl⟩:∃F,fu=F+1:=⟨fu-1,W⟩;have hf:3000000<F:=W
 have a7:=nA hp Q;have hK:p∣p^k:=kY Q;unfold qE;by_cases h1:n=1
 obtain⟨g,rfl⟩:∃g,fs=[g]:=by
  match fs,hn with
  |[g],_=>exact⟨g,O⟩
  |[],h=>simp at h;lia
  |_::_::_,h=>simp at h;lia
 have⟨l,a8⟩:=hE g m7;have⟨w,u,e1,e2,e3,e4,e5,e6⟩:=BE (fu:=F) hp Q hk R hl W hd W;have hu:Cg (p^k) (pc (cf f<|X f-1)*pc u) (pc 1):=λj=>by
  rw[jR,xbB];unfold pc;split;rw[e5];exact(xaJ m6 W).symm;rfl
 have hG:Cg (p^k) (cf f) (pc (cf f<|X f-1)*cf w):=by refine Cg.symm<|(Cg.rfl.mul e6).trans ?_;rw[<-zd];exact(hu.mul Cg.rfl).trans<|Cg.of<|zE _
 have hA:∀x:Pz,prZ [x]=x:=λx=>yu x;have hH:Cg p (cf w) (ci g):=by refine(e6.down hK).trans ?_;have v:Cg p (pc u*cf f) (pc u*(pc (cf f<|X f-1)*ci g)):=Cg.rfl.mul<|ht.trans<|Cg.of (by show _*prZ [ci g]=_;rw[hA]);refine v.trans ?_;rw[<-zd,zm<|pc u];exact((hu.down hK).mul Cg.rfl).trans<|Cg.of<|zE _
 have hR:X w=X g:=by
  have a9:=l.fp (p:=p) W;refine xcK (xbx λhS=> ?_)<|xbx λhS=> ?_;have v:=hH<|X w-1;rw[e4,yB W,xar,xaJ m6 W]at v;cases v
  have v:=hH<|X g-1;rw[l.2.2,yq W,xar,xaJ m6 W]at v;cases v
 rw[E m7,Y e1];refine⟨[w],O,⟨⟨e2,hR,e4,hH⟩,ul⟩,?_⟩;show Cg _ _ (_*prZ [(cf w:Pz)]);rw[hA];exact hG;have⟨e,hT⟩:∃h,h=n/2:=⟨_,O⟩;have⟨c,hc⟩:∃c,c=cf f (X f-1):=⟨_,O⟩;have h8:X fs<=66:=W
 have hB:fs=fs.take e++fs.drop e:=(xbK e fs).symm;have hU:X (fs.take e)=e:=by rw[xan];lia
 have hV:X (fs.drop e)=n-e:=by rw[xcn];lia
 have hv:∀g∈fs.take e,Tr p g/\X g<=66:=λg l=>hE g<|xdt l;have D:∀g∈fs.drop e,Tr p g/\X g<=66:=λg l=>hE g<|xfM l;rw[hB]at J4 ht;have⟨a0,a1,H⟩:=xdu.1 J4;rw[xaU,vz,<-hc]at ht;have hL:=xo (a:=c) (p:=p);rw[<-hc]at hd;have hW:∀g∈fs.take e,Fp p g:=λg l=>(hv g l).1.fp W;have hX:∀g∈fs.drop e,Fp p g:=λg l=>(D g l).1.fp W;have y:=rq p<|fs.take e;have A:=rq p<|fs.drop e;have q:=zd4 (p:=p) C (fs:=fs.drop e) λg l=>(D g l).1;have a3:=dU (p:=p) (fs:=fs.take e) (M:=66) λg l=>(hv g l).2;have a4:=dU (p:=p) (fs:=fs.drop e) (M:=66) λg l=>(D g l).2;have b1:X (fs.take e)*66<=66*66:=xag _ W;have b2:X (fs.drop e)*66<=66*66:=xag _ W;have hM:=QN (p:=p) (x:=c%p) W hL.2;have⟨g0,hJ⟩:∃g0,g0=xM p (Q4 p<|fs.take e) [c%p]:=⟨_,O⟩;have⟨h0,V⟩:∃h0,h0=Q4 p (fs.drop e):=⟨_,O⟩;have he:Fp p g0:=by rw[hJ];exact jz W _ _
 have hi:Fp p h0:=by rw[V];exact gN C _
 have hC:Cg p (pc<|c%p) (pc c):=λj=>by unfold pc;split;exact xaT _ _;rfl
 have ho:Cg p (ci g0) (prZ ((fs.take e).map ci)*pc c):=by rw[hJ];refine(Yf p _ _).trans ?_;rw[kv];exact y.mul hC
 have hq:Cg p (ci h0) (prZ<|(fs.drop e).map ci):=by rw[V];exact A
 rw[<-V]at q;have hD:Cg p (cf f) (ci g0*ci h0):=by refine ht.trans<|Cg.trans (Cg.of ?_) (ho.mul hq).symm;simp only[zd,zm,zG]
 have hN:kM p (ci g0) (ci h0):=by refine kM.congr (kM.mul (Fs.pc _) (Fs.prZ λx hx=>by obtain⟨a,_,rfl⟩:=xat.1 hx;exact Fs.ci a) (Fs.prZ λx hx=>by obtain⟨a,_,rfl⟩:=xat.1 hx;exact Fs.ci a) (Hy H)<|zhU hp (W:0<c%p) hL.2) ?_ hq.symm;exact(Cg.rfl.mul hC).trans ho.symm
 have hj:p^1=p:=by rw[xbS,xck,xdh]
 have rg:=sH he o;have rh:=sH hi o;have lz:X (uE h0)=X h0:=Ie hi.nl;have L:X (uE g0)=X g0:=Ie he.nl;have hO:cf (uE h0) (X (uE h0)-1)=1:=by rw[lz,ks];exact q.2
 have hY:X (vJ f p)=X f:=by have:=Nf (k:=k) (i:=1) (p:=p) (f:=f) (Nm _) (by rw[<-hc];exact hd) hl;rw[hj]at this;exact this
 have⟨d1,d2,d3⟩:=zcQ (m:=p) (f:=vJ f p) (g:=uE g0) (h:=uE h0) C (by have:=rg.rd;rw[hj]at this;exact this) (EG λj=>by rw[Zj,xaT]) W W hO ((Wh f p).trans<|by rw[ks,ks];exact hD);rw[hY,lz,L]at d1;rw[L]at d2;have⟨d,s,t,z1,B,z3⟩:=Zh (fu:=F) hp he hi W W W;have hP:=zk7 C B z3 hN;have b0:max (X g0) (X h0)*(max (X g0) (X h0)+1)<=66*67:=xcb W W;have b3:=B.sl;have b4:=B.tl;have rs:=sH B.sf o;have rt:=sH B.tf o;have hI:TrI p k f (uE g0) (uE h0) (X h0) 4430 1 (uE g0) (uE h0) (uE s) (uE t):=by refine⟨Nm _,Q,rg,rh,rs,rt,lz,by rw[<-lz];exact hO,?_,?_,Cg.rfl,Cg.rfl,by have:=RK s;lia⟩;rw[hj,ks,ks];exact hD;rw[hj,ks,ks,ks,ks];exact hP
 have⟨G,P,S,T,l1,r⟩:=zdF (fu:=F) hI hp hk R.ok (by rw[<-hc];exact hd) hl W W m6 W hf;have⟨m1,m2,m3,m4⟩:=r.lens hp (by rw[<-hc];exact hd) hl W;have hZ:c%p^k=c:=by have:=R.mod<|X f-1;rw[<-hc]at this;exact this
 rw[<-hc,hZ]at m3;have h3:=r.hl;have hy:=r.h1;rw[<-h3]at hy;have h4:Cg p (cf G) (pc c*prZ ((fs.take e).map ci)):=by refine r.gp.trans ?_;rw[ks,zm];exact ho
 have h5:Cg p (cf P) (pc 1*prZ ((fs.drop e).map ci)):=by refine r.hp.trans ?_;rw[ks,zE];exact hq
 have⟨us,u1,u2,u3⟩:=ih e W (fu:=F) (f:=G) (fs:=fs.take e) hU W W W r.rG m2 W (by rw[m3];exact hd) hv a0 (by rw[m3];exact h4);have⟨vs,v1,v2,v3⟩:=ih (n-e) W (fu:=F) (f:=P) (fs:=fs.drop e) hV W W W r.rH W W (by rw[hy,xaJ m6 W];decide) D a1 (by rw[hy];exact h5);rw[m3]at u3;rw[hy]at v3;have c0:=u2.len;have c1:=v2.len;refine⟨us++vs,?_,by rw[hB];exact u2.append v2,?_⟩
 have ez:[f.getD (X f-1) (I,[])].length=1:=O;have hQ:xf 250 [f.getD (X f-1) (I,[])]:=λz hz=>by
  obtain rfl:=xaf.1 hz;exact R.ok.get _
 have h6:jr p [f.getD (X f-1) (I,[])]=[c%p]:=by rw[hc];exact zho W<|by rw[Qi,<-hc];exact hd
 have h7:=jV p (Q4 p<|fs.take e) [c%p];simp only[xaw,xbR]at h7;have a2:xdC (X fs:J) 2=(e:J):=by rw[hn,hT];rfl
 rw[zF,va m6,a2,zb,(W:(X f:J)-1=((X f-1:K):J)),zb,yH,y9,ze,zet hl,Y (Zs hQ m6 W o m7),h6];simp only;rw[yH,y9,ze,Y (jW hp hW (λg l=>(hv g l).2) W m6),Y (ZU hp (gN C _) hM W m7),<-hJ];simp only;rw[yH,y9,ze,Y (jW hp hX (λg l=>(D g l).2) W m6),<-V,Y z1];simp only;rw[Y (uJ (he.rl o) W W),Y (uJ (hi.rl o) W W),Y (uJ (B.sf.rl o) W W),Y (uJ (B.tf.rl o) W W),Y l1];rw[DX (i:=0) m6,yH,y9,ze,show[G,P,S,T].getD (Int.toNat 0) []=G from O,Y u1,DX (i:=1) m6,yH,y9,ze,show[G,P,S,T].getD (Int.toNat 1) []=P from O,Y v1,y9,ze];rw[<-hc,xaU,vz];refine r.fac.trans<|(u3.mul v3).trans<|Cg.of ?_;rw[zE,zd]
section
variable{a:wF Zr}{p:wN}
def yx(a:N U):N U:=w8 (X a)<|cf a
def Yu(a:N U)(k:K):cf (yx a) k=cf a k:=km (λj b=>yq b) k
def ZZ(a:N U):X (yx a)<=X a:=by unfold yx;rw[xJ];exact jc _ _
def gI{k:K}(h:xf k a):xf k (yx a):=xp h.bz
structure zql(p:J)(k:K)(a:N U)(fs:N (N J))(us:N (N U)):Prop where
 hp:qO p=qR
 k1:1<=k
 k2:k<=1000
 rt:ia p (yx a) fs
 up:EN (Up p k) us fs
 cg:fs≠[]->Cg (p^k) (cf a) (pc (cf (yx a)<|(yx a).length-1)*prZ (us.map λu=>(cf u:Pz)))
def ia.mem{fs:N (N J)}(h:ia p a fs):∀g∈fs,Tr p g/\X g<=X a:=λg b=>by
 obtain⟨j,c,rfl⟩:=xbZ.1 b;have:=h.pl j c;simp_all
def ia.pw{fs:N (N J)}(h:ia p a fs):fs.Pairwise (λa b=>kM p (ci a)<|ci b):=by refine xcY.2 λi j hi c d=> ?_;have:=h.cp j i c d;rw[UV,UV,xaa hi,xaa c]at this;exact this.symm
def AR{fu:wP}{k:J}{fs:N (N J)}(d:xf 250 a)(ht:X a<=1000)(w:3000200<=fu):
 ∃us e,jG fu a fs p k=Z (us,e)/\(e=0->zql p k.toNat a fs us/\1<=k)/\(e≠0->(sG p k).2=0\/e=1):=by
 unfold jG;have x:=ZZ a;have hl:=gI d;rw[Y<|Ze W];by_cases i:qO p=qR/\1<=k/\k<=1000
 have⟨hp,h1,y⟩:=i;obtain⟨K,rfl⟩:=xaE (W:0<=k);have hd:sG p (K:J)=(yK<|p^K,0):=by unfold sG;simp_all
 rw[hd];simp only;rw[Y (zM d m6 W W),E ul,show w8 (X a) (cf a)=yx a from O];by_cases hv:65<X (yx a);rw[yg];exact⟨_,_,O,λe=>kW e m6,λ_=> .inl ul⟩;rw[zF];have⟨b,b1,b2⟩:=sI (fu:=fu) (fs:=fs) hp hl m6 W W;rw[Y b1]
 cases b with
 |false=>
  rw[E m6];exact⟨_,_,O,λe=>kW e m6,λ_=> .inl ul⟩
 |true=>
  have c:=b2 O;rw[P m6];by_cases h0:X fs=0
  obtain rfl:fs=[]:=xbs.1 h0;rw[E (show((X ([]:N (N J)):wP):J)=0 from O)];exact⟨_,_,O,λ_=>⟨⟨hp,W,W,c,ul,λe=>kW O e⟩,h1⟩,λe=>kW O e⟩;rw[zF];have⟨z,A⟩:=zB hp;have l:=tH hp (k:=K);have B:=nA hp (k:=K);have o:eJ (yK<|p^K):=l.okS m6;have⟨f,hc⟩:∃f,f=vJ (yx a) (p^K):=⟨_,O⟩;have hn:=c.a0;have m:cf (yx a) (X (yx a)-1)%p≠0:=by
   have h3:=(Q9 (p:=p) W<|yx a).nl;unfold Nl at h3;rw[c.al]at h3;obtain h3|h3:=h3
   exact kW h3 hn;rw[KP]at h3;exact h3
  have q:X f=X (yx a):=by rw[hc];exact Nf (k:=K) W m W
  have hi:cf f (X f-1)=cf (yx a) (X (yx a)-1)%p^K:=by rw[q,hc,Zj]
  have h:p∣p^K:=kY;have r:cf f (X f-1)%p≠0:=by rw[hi,xcE _ h];exact m
  have s:Cg p (cf f) (pc (cf f<|X f-1)*prZ (fs.map ci)):=by
   have e1:Cg p (cf f) (cf<|yx a):=by rw[hc];exact(Wh _ _).down h
   refine e1.trans<|(iE p<|yx a).symm.trans ?_;rw[<-c.pr];refine(Yf p _ _).trans ?_;rw[kv,zm];refine Cg.mul (λj=> ?_)<|rq p fs;rw[KP,hi];unfold pc;split;rw[xcE _ h,xaT];rfl
  have⟨us,t,u,v⟩:=zlL (k:=K) hp W W (X fs) (fu:=fu) (f:=f) (fs:=fs) O W (by have:=c.fl;lia) (by have:=c.fl;lia) (by rw[hc];exact iH l W _) W W r (λg n=>⟨(c.mem g n).1,by have:=(c.mem g n).2;lia⟩) c.pw s;rw[Y (XN hl m6 o<|by rw[zt];lia),zt,<-hc,Y t];refine⟨_,_,O,λ_=>⟨⟨hp,W,W,c,u,λ_=> ?_⟩,h1⟩,λe=>kW O e⟩;rw[xbb];have e1:Cg (p^K) (cf a) (cf f):=by rw[hc];exact Cg.trans (Cg.of<|funext λj=>(Yu a j).symm) (Wh _ _).symm
  refine e1.trans<|v.trans<|Cg.mul (λj=> ?_) Cg.rfl;rw[hi];unfold pc;split;rw[xaT];rfl
 have hd:sG p k=((I,[]),1):=by unfold sG;rw[P i]
 rw[hd];simp only;rw[Y (zM d m6 W W),P m6];exact⟨_,_,O,λe=>kW e m6,λ_=> .inr O⟩
end
def Mn(A:Pz)(d:K):Prop:=A d=1/\∀k,d<k->A k=0
def Mn.top{A x:Pz}{d n:K}(h:Mn A d)(a:∀k,n<k->x k=0):(x*A) (n+d)=x n:=by rw[w7,wH (i:=n) λi hi=> ?_,yg,(W:n+d-n=d),h.1,xcU];by_cases hc:i<n;rw[h.2 _ W,xaz];grind
def Mn.zero{p:J}(hp:2<=p){A x:Pz}{d:K}(h:Mn A d)(j:Fs x)(l:∀k,d<=k->(x*A) k%p=0):Cg p x (pc 0):=by
 have⟨n,hn⟩:=j;have a:∀c,c<=n->∀k,n-c<=k->x k%p=0:=by
  intro c
  induction c with
  |zero=>intro _ k g;rw[hn k W,xar]
  |succ c m=>
   intro hc k g;by_cases h1:n-c<=k;grind;obtain rfl:k=n-(c+1):=W
   have e:Cg p x (λi=>if i<=n-(c+1)then x i else 0):=λi=>by
    by_cases hi:i<=n-(c+1);simp_all;show _=(if i<=n-(c+1)then x i else 0)%p;rw[P hi,xar];grind
   have b:=(e.mul<|Cg.rfl (f:=A))<|n-(c+1)+d;rw[l _ W,h.top<|λi hi=>zF]at b;rw[E<|Nm _]at b;exact b.symm
 intro k;rw[zV,xar];by_cases g:k<n;exact a n (Nm _) k W
 rw[hn k W,xar]
def P8{k m n:J}(h:Int.gcd k m=1)(hd:k∣m*n):k∣n:=
 xcq.1 (Nat.Coprime.dvd_of_dvd_mul_left h<|by rw[<-xcl];exact xcq.2 hd)
def pdv(n:J)(f:Pz):Pz:=λk=>f k/n
def MQ{n:J}{f:Pz}(h:Cg n f (pc 0)):pc n*pdv n f=f:=by funext k;rw[zS];exact Int.mul_ediv_cancel'<|h.dvd k
def L8{n:J}{f:Pz}(h:Fs f):Fs (pdv n f):=by have⟨c,hc⟩:=h;exact⟨c,λk a=>by show f k/n=0;rw[hc k a,xet]⟩
def Fs.subt{f g:Pz}(c:Fs f)(d:Fs g):Fs (f-g):=by have⟨a,e⟩:=c;have⟨b,h⟩:=d;exact⟨a+b,λk i=>by rw[xd,e k W,h k W];rfl⟩
def zdS{p n:J}(hp:2<=p)(hn:n≠0)(E:p∣n){A B c g:Pz}{d:K}(i:Mn A d)(o:Mn c d)(F:Fs A)(j:Fs c)(G:Fs B)(l:Fs g)(hc:kM p A B)(h1:Cg n A c)(H:Cg n B g)(h:Cg (n*p) (A*B) (c*g)):
 Cg (n*p) A c/\Cg (n*p) B g:=by
 have⟨a,q⟩:∃a,a=pdv n (c-A):=⟨_,O⟩;have⟨b,r⟩:∃b,b=pdv n (g-B):=⟨_,O⟩;have u:pc n*a=c-A:=by rw[q];exact MQ<|Cg.iff_sub.1 h1.symm
 have v:pc n*b=g-B:=by rw[r];exact MQ<|Cg.iff_sub.1 H.symm
 have L:Fs a:=by rw[q];exact L8<|j.subt F
 have w:Fs b:=by rw[r];exact L8<|l.subt G
 have x:∀k,c k=A k+n*a k:=λk=>by
  have:=WS u k;rw[zS,xd]at this;lia
 have bk:∀k,g k=B k+n*b k:=λk=>by
  have:=WS v k;rw[zS,xd]at this;lia
 have hl:c=A+pc n*a:=Z0 λk=>by rw[zW,zS,x]
 have M:g=B+pc n*b:=Z0 λk=>by rw[zW,zS,bk]
 have y:Cg p (a*B+b*A) (pc 0):=by
  refine Cg.of_dvd λk=> ?_;have e:c*g-A*B=pc n*(a*B+b*A+pc n*(a*b)):=by rw[hl,M];simp only[wM,yY,zd,zG,zm];funext k;simp only[zW,xd];lia
  have hd:=(Cg.iff_sub.1 h.symm).dvd k;rw[e,zS]at hd;have z:p∣(a*B+b*A+pc n*(a*b)) k:=(Int.mul_dvd_mul_iff_left hn).1 hd;rw[zW,zS]at z;exact(Int.dvd_add_left<|xbv E<|xcd _ _).1 z
 have⟨s,t,fs,N,P⟩:=hc;have Q:∀k,d<=k->a k=0:=λk C=>by
  have e:c k=A k:=by by_cases R:k=d;rw[R,i.1,o.1];rw[i.2 k W,o.2 k W]
  have:=x k;have S:n*a k=0:=W
  exact(xeU.1 S).resolve_left hn
 have D:Cg p a ((s*a-t*b)*A):=by
  have e1:Cg p a (a*(s*A+t*B)):=by have:=(Cg.rfl (m:=p) (f:=a)).mul P.symm;rw[yu]at this;exact this
  refine e1.trans<|Cg.iff_sub.2 ?_;have e:a*(s*A+t*B)-(s*a-t*b)*A=t*(a*B+b*A):=by simp only[wM,yY,qM,kh,zd,zG,zm];funext k;simp only[zW,xd];lia
  rw[e];exact y.mul_zero_l t
 have T:=i.zero hp ((fs.mul L).subt<|N.mul w) λk C=>by rw[<-D k,Q k C,xar]
 have hi:Cg p a (pc 0):=D.trans<|T.mul_zero_r A;have ht:Cg p (b*A) (pc 0):=by
  have e:b*A=a*B+b*A-a*B:=by funext k;simp only[zW,xd];lia
  rw[e];exact y.zero_sub<|hi.mul_zero_r B
 have U:Cg p b (pc 0):=i.zero hp w λk _=>by rw[ht k,zV,xar]
 refine⟨Cg.symm<|Cg.iff_sub.2<|Cg.of_dvd λk=> ?_,Cg.symm<|Cg.iff_sub.2<|Cg.of_dvd λk=> ?_⟩;rw[<-u,zS];exact Int.mul_dvd_mul_left n<|hi.dvd k;rw[<-v,zS];exact Int.mul_dvd_mul_left n<|U.dvd k
def PR{p:J}(hp:2<=p){A B a e:Pz}{d:K}(f:Mn A d)(g:Mn a d)(i:Fs A)(b:Fs a)(l:Fs B)(c:Fs e)(hc:kM p A B)(h1:Cg p A a)(m:Cg p B e):∀j,Cg (p^j) (A*B) (a*e)->Cg (p^j) A a/\Cg (p^j) B e
 |0,_=>⟨λk=>by rw[xck,Int.emod_one,Int.emod_one],λk=>by rw[xck,Int.emod_one,Int.emod_one]⟩
 |1,_=>by grind
 |j+2,h=>by
  have⟨g1,n⟩:=PR hp f g i b l c hc h1 m (j+1)<|h.down<|iK;rw[xbS]at h⊢;exact zdS hp (Int.ne_of_gt<|Int.pow_pos W) (kY) f g i b l c hc g1 n h
def dB:K->K->K
 |_,0=>1
 |0,_+1=>0
 |n+1,k+1=>dB n k+dB n (k+1)
def VG(n:K):dB n 0=1:=by cases n<;>rfl
def J9(n k:K):dB (n+1) (k+1)=dB n k+dB n (k+1):=O
def rQ:∀n k,n<k->dB n k=0
 |0,0,h=>kW h<|xfQ _
 |0,k+1,_=>rfl
 |n+1,0,h=>kW h<|xbc _
 |n+1,k+1,h=>by rw[J9,rQ n k W,rQ n (k+1) W]
def Dd:∀n,dB n n=1
 |0=>rfl
 |n+1=>by rw[J9,Dd n,rQ n (n+1) W]
def NI:∀n k,(k+1)*dB (n+1) (k+1)=(n+1)*dB n k
 |0,0=>rfl
 |0,k+1=>by skip;rfl
 |n+1,0=>by
  have h:=NI n 0;rw[VG]at h;rw[J9,VG];lia
 |n+1,k+1=>by
  have h1:=NI n k;have a:=NI n<|k+1;have b:=J9 n k;rw[J9 (n+1)<|k+1];grind
def zmM(a:J):∀n,(a+1)^n=ye (n+1) (λk=>(dB n k:J)*a^k)
 |0=>by
  show _=(0:J)+((1:K):J)*a^0;simp_all
 |n+1=>by
  have e1:ye (n+1+1) (λk=>(dB (n+1) k:J)*a^k)=1+(ye (n+1) (λk=>a*((dB n k:J)*a^k))+ye (n+1) (λk=>(dB n (k+1):J)*a^(k+1))):=by rw[Zu,<-YI];congr 1;show((dB (n+1) 0:K):J)*a^0=1;rw[VG,xck];rfl;exact yC λk _=>by rw[J9,xfl,Int.add_mul,xbS,<-xdc,<-xdc,xbB (_*a^k) a,<-xdc]
  have b:ye (n+1) (λk=>(dB n k:J)*a^k)=1+ye (n+1) (λk=>(dB n (k+1):J)*a^(k+1)):=by
   have h:ye (n+1+1) (λk=>(dB n k:J)*a^k)=ye (n+1) (λk=>(dB n k:J)*a^k):=by show ye (n+1) _+((dB n (n+1):K):J)*a^(n+1)=_;rw[rQ n (n+1) W];lia
   rw[<-h,Zu];congr 1;rw[VG,xck];rfl
  rw[e1,uO,xbS,zmM a n,xfy,xcU,xbB _ a];lia
def zcD{p x y:K}(hp:2<=p)(hn:kU p)(h0:0<x)(h1:x<p)(h:p∣x*y):p∣y:=
 Nat.Coprime.dvd_of_dvd_mul_left (iu hp hn h0 h1) h
def zcf{p k:K}(hp:2<=p)(hn:kU p)(h0:0<k:=by lia)(h1:k<p:=by lia):p∣dB p k:=by obtain⟨q,rfl⟩:∃q,p=q+1:=⟨p-1,W⟩;obtain⟨j,rfl⟩:∃j,k=j+1:=⟨k-1,W⟩;exact zcD hp hn h0 h1 ⟨dB q j,NI q j⟩
def RE{p:K}(hp:2<=p)(hn:kU p)(a:J):(a+1)^p%p=(a^p+1)%p:=by
 obtain⟨q,rfl⟩:∃q,p=q+1:=⟨p-1,W⟩;rw[zmM];show(ye (q+1) _+((dB (q+1) (q+1):K):J)*a^(q+1))%_=_;rw[Dd,Zu];have hd:((q+1:K):J)∣ye q (λk=>(dB (q+1) (k+1):J)*a^(k+1)):=ed λk b=>
  xbv (xdq.2<|zcf hp hn) (xcd _ _)
 have⟨c,hc⟩:=hd;rw[VG];have e:1*1+((q+1:K):J)*c+1*a^(q+1)=a^(q+1)+1+((q+1:K):J)*c:=W
 simp_all
def zbu{p:K}(hp:2<=p)(hn:kU p):∀a:K,(a:J)^p%p=a%p
 |0=>by rw[show((0:K):J)=0 from O,Int.zero_pow W]
 |a+1=>by rw[xfl,show((1:K):J)=1 from O,RE hp hn,xeq,zbu hp hn a,<-xeq]
def zbn{p:J}(hp:qO p=qR){a:J}(h0:0<a)(h1:a<p):(a^(p-2).toNat*a)%p=1:=by
 have⟨f,g⟩:=zB hp;have hn:=WA hp;obtain⟨P,rfl⟩:=xaE (W:0<=p);obtain⟨A,rfl⟩:=xaE (W:0<=a);have b:2<=P:=W
 have h:=zbu b hn A;obtain⟨Q,rfl⟩:∃Q,P=Q+2:=⟨P-2,W⟩;rw[(W:(((Q+2:K):J)-2).toNat=Q)];have e:(A:J)^(Q+2)-A=A*((A:J)^Q*A-1):=by grind
 have hd:((Q+2:K):J)∣(A:J)*((A:J)^Q*A-1):=by rw[<-e];exact xaG<|xaN.1 h
 have c:Int.gcd ((Q+2:K):J) (A:J)=1:=iu b hn;have d:=P8 c hd;have i:=xaN.2<|xax d;assumption
def zn8{n:K}{f:Pz}{x:J}(h:x=f n):zl n f++[x]=zl (n+1) f:=by rw[h];exact zj2
structure zeT(p:J)(a m:N J):Prop where
 fm:Fp p m
 ln:m.length=a.length
 top:ci m (m.length-1)=1
 cg:∃x y:J,Cg p (ci m) (pc x*ci a)/\Cg p (ci a) (pc y*ci m)
def SZ{p x:J}{a:N J}(hp:2<=p)(e:Fp p a)(f:0<X a)(b:(x*ci a (X a-1))%p=1):zeT p a (xM p a [x]):=by
 have hc:∀k,ci (xM p a [x]) k=(x*ci a k)%p:=λk=>by rw[bU,kv,zm,zS]
 have hd:X (xM p a [x])=X a:=by refine xcK ((jz W _ _).nl.le λk d=> ?_)<|xbx λg=> ?_;rw[hc,yB d,xaz,xar];have c:=hc<|X a-1;rw[b,yB W]at c;cases c
 have h1:Cg p (ci<|xM p a [x]) (pc x*ci a):=λk=>by rw[hc,zS,xaT]
 refine⟨jz W _ _,hd,by rw[hd,hc,b],x,ci a<|X a-1,h1,?_⟩;refine Cg.symm<|(Cg.rfl.mul h1).trans ?_;rw[<-zd];refine Cg.trans (Cg.mul (λk=> ?_) Cg.rfl)<|Cg.of<|zE _;rw[jR,xbB];unfold pc;split;rw[b];exact(xaJ m6 W).symm;rfl
def W5{fu:K}{a:N J}{p:J}(hp:qO p=qR)(b:Fp p a)(i:0<X a)(hc:X a<=90000)(c:3000000<=fu):∃x,0<x/\x<p/\(x*ci a (X a-1))%p=1/\jH fu a p=Z (xM p a [x],0):=by
 have⟨j,d⟩:=zB hp;have hd:ci a (X a-1)≠0:=by
  obtain h|h:=b.nl
  lia;exact h
 have t1:=b.nn<|X a-1;have⟨x,x0,f,g,_,e⟩:=K8 (fu:=fu) hp b (W:0<ci a (X a-1)) (b.lt _) hc c;refine⟨x,x0,f,g,?_⟩;unfold jH;rw[Y<|ZF hp,E O,Y<|zP W d (b.rl d) W c,b.pm,zF,(W:(X a:J)-1=((X a-1:K):J)),zb,yn,F,Jh,Y e]
def Ks{fu:K}{p:J}{g h:N J}(hp:qO p=qR)(a:Fp p g)(b:Fp p h)(c:X g<=290)(hc:X h<=290)(e:3000000<=fu):
 ∃d s t,kP fu g h p=Z (d,0)/\BzR p g h d s t (2+max (X g) (X h)*(max (X g) (X h)+1))/\(X d=0\/ci d (X d-1)=1):=by grind [kP,Zh,Y]
def zcp{p:J}{g h d s t:N J}{S:K}(hp:2<=p)(a:BzR p g h d s t S)(hd:X d=0\/ci d (X d-1)=1):X d=1↔kM p (ci g) (ci h):=by
 refine⟨λh1=>ME a h1 (hd.resolve_left W),λhc=> ?_⟩;have⟨A,C,c,z2,d1,d2⟩:=a.dv;have⟨u,v,z3,z4,hc⟩:=hc;have b:Cg p ((u*A+v*C)*ci d) (pc 1):=by refine Cg.trans (Cg.of ?_)<|(((Cg.rfl).mul d1.symm).add<|(Cg.rfl).mul d2.symm).trans hc;rw[yY,zd,zd]
 have f:0<X d:=by refine xcV λe=> ?_;have h1:=b 0;rw[w7,yU λi hi=>by rw[yB W,xaz]]at h1;unfold pc at h1;rw[xar,xaJ m6 W]at h1;cases h1
 exact Sa hp ((z3.mul c).add<|z4.mul z2) f (hd.resolve_left W) b
section
variable{a:wF wN}{p:wN}
def dvp(f:Pz):Pz:=λk=>((k+1:K):J)*f (k+1)
theorem KJ(f g:Pz):dvp (f*g)=dvp f*g+f*dvp g:=by
 funext k;show((k+1:K):J)*(f*g) (k+1)=(dvp f*g) k+(f*dvp g) k;rw[w7,w7,w7,<-uO];have e:ye (k+1+1) (λi=>((k+1:K):J)*(f i*g (k+1-i)))=ye (k+1+1) (λi=>(i:J)*(f i*g (k+1-i)))+ye (k+1+1) (λi=>((k+1-i:K):J)*(f i*g (k+1-i))):=by rw[<-YI];exact yC λi hi=>by grind
 rw[e];congr 1
 rw[Zu];show((0:K):J)*_+_=_;rw[show((0:K):J)=0 from O,xba,xcO];exact yC λi hi=>by
  show((i+1:K):J)*(f (i+1)*g (k+1-(i+1)))=((i+1:K):J)*f (i+1)*g (k-i);grind
 show ye (k+1) _+((k+1-(k+1):K):J)*_=_;rw[xcx,show((0:K):J)=0 from O,xba,xcc];exact yC λi hi=>by
  show((k+1-i:K):J)*(f i*g (k+1-i))=f i*(((k-i+1:K):J)*g (k-i+1));grind
def zi0{m:J}{f g:Pz}(h:Cg m f g):Cg m (dvp f) (dvp g):=λk=>by
 show(((k+1:K):J)*f (k+1))%m=(((k+1:K):J)*g (k+1))%m;rw[xcj,h,<-xcj]
def zoe(c:J):dvp (pc c)=pc 0:=Z0 λk=>by
 rw[zV];rfl
def drv(p:J)(a:N J):N J:=nl (X a)<|λk=>dvp (ci a) k%p
def zkw{k:K}(h:X a<=k+1):dvp (ci a) k=0:=by show((k+1:K):J)*ci a (k+1)=0;rw[yB h,xaz]
def MG(p:J)(a:N J)(k:K):ci (drv p a) k=dvp (ci a) k%p:=EO (λk b=>by rw[zkw W,xar]) k
def zg3(p:J)(a:N J):Cg p (ci<|drv p a) (dvp<|ci a):=λk=>by rw[MG,xaT]
def zgd(hp:0<p)(a:N J):Fp p (drv p a):=⟨λk=>by rw[MG];exact(xo hp).1,λk=>by rw[MG];exact(xo hp).2,Bc _ _⟩
def zoa(p:J)(a:N J):X (drv p a)<=X a:=HN _ _
def tI{fu:K}(hp:qO p=qR)(b:Fp p a)(hc:X a<=90000)(e:3000000<=fu):Vk fu a p=Z (drv p a,0):=by
 have⟨n,c⟩:=zB hp;unfold Vk;have g:∀k:K,0<=((k:J)%p)*ci a k/\((k:J)%p)*ci a k<=4293001441:=λk=>by
  have d:=xo (a:=(k:J)) (p:=p);exact gA c d.1 d.2 (b.nn k)<|b.lt k
 rw[Y<|ZF hp,E O,Y<|zP W c (b.rl c) W e,b.pm,Y (v:=zl (X a-1)<|λk=>(((k+1:K):J)%p)*ci a (k+1))];have l:∀k,X a-1<=k->(((k+1:K):J)%p)*ci a (k+1)=0:=λk o=>by rw[yB W,xaz]
 have d:Rl (zl (X a-1)<|λk=>(((k+1:K):J)%p)*ci a (k+1)):=λk=>by
  rw[X9 l];have:=g<|k+1;exact⟨W,W⟩
 rw[Y<|zP W c d (by rw[yj];lia) e];congr 2;refine(Df W _).ext (zgd W _) λk=> ?_;rw[HY,X9 l,MG,xaT,xaT];show _=(((k+1:K):J)*ci a (k+1))%p;rw[xcj,xaT,<-xcj];refine zC (λs:N J×J×N J=>∃i:K,i<=X a/\s=(zl (i-1)<|λk=>(((k+1:K):J)%p)*ci a (k+1),(i:J),a)) (λs=>X a-s.2.1.toNat) _ ?_ _ _ ⟨0,xah _,O⟩ (by show X a-0<fu;lia);rintro s L ⟨i,hi,rfl⟩ m;unfold cM;simp only;by_cases h:i<X a;rw[yg,Y O];simp only[Xs];rw[zp h,F,Jh];by_cases h0:0<i;have hd:=g i;obtain⟨j,rfl⟩:∃j,i=j+1:=⟨i-1,W⟩;rw[yg,y9,F,lj,zb,va (by rw[yj];simp;lia),F,(W:j+1-1=j),zn8 (f:=λk=>(((k+1:K):J)%p)*ci a (k+1)) O,zb];exact m _ ⟨j+1+1,W,O⟩ (by show X a-(((j+1:K):J)+1).toNat<X a-((j+1:K):J).toNat;lia);obtain rfl:i=0:=W
 rw[zF,zb];exact m _ ⟨1,W,O⟩ (by show X a-(((0:K):J)+1).toNat<X a-((0:K):J).toNat;lia);rw[zF,Y O];simp only[xam,Z9];obtain rfl:i=X a:=W
 rfl
end
section
variable{p:wN}{m g d:wF wN}{A:Pz}
structure vF(p:J)(m:N J):Prop where
 fm:Fp p m
 ln:0<m.length
 top:ci m (m.length-1)=1
def vF.mn(h:vF p m):Mn (ci m) (X m-1):=⟨h.top,λk a=>yB W⟩
def vF.one(h:vF p m)(hl:X m=1):m=[1]:=by
 match m,hl with
 |[x],_=>have:=h.top;exact Z4 (λy=>[y]) this
def IE{q r:N J}(hp:2<=p)(a:vF p m)(f:vF p g)(w:Fs A)(hd:Cg p (ci m) (A*ci g))(o:Fp p q)(B:Fp p r)(t:Cg p (ci m) (ci q*ci g+ci r))(C:X r<X g):
 vF p q/\Cg p (ci m) (ci q*ci g)/\X m+1=X q+X g:=by
 have hl:=f.ln;have h1:Cg p ((A-ci q)*ci g) (ci r):=by rw[kh];refine((hd.symm.trans t).sub Cg.rfl).trans<|Cg.of ?_;funext k;rw[xd,zW];lia
 have y:=f.mn.zero hp (w.subt<|Fs.ci q) λk u=>by rw[h1 k,yB W,xar]
 have D:Cg p (ci r) (pc 0):=h1.symm.trans<|y.mul_zero_r _;have b:Cg p (ci m) (ci q*ci g):=by
  refine t.trans<|Cg.iff_sub.2 ?_;have e:ci q*ci g+ci r-ci q*ci g=ci r:=by funext k;rw[xd,zW];lia
  simp_all
 have hn:=a.ln;have q0:0<X q:=by refine xcV λe=> ?_;have v:=b<|X m-1;rw[a.top,w7,yU λi hi=>by rw[yB (l:=q) W,xba],xar,xaJ m6 W]at v;cases v
 have ht:=f.mn.top (x:=ci q) (n:=X q-1) λk u=>yB W;have c:=b<|X q-1+(X g-1);rw[ht,a.fm.mod,o.mod]at c;have z:ci q (X q-1)≠0:=by
  obtain h|h:=o.nl
  lia;exact h
 have hc:X m+1=X q+X g:=by
  have E:X q-1+(X g-1)<X m:=xdw λh=>by
   rw[yB h]at c;exact z c.symm
  have F:X m<=X q-1+(X g-1)+1:=a.fm.nl.le λk u=>by rw[<-a.fm.mod,b,uX (n:=X q) (m:=X g) (λj s=>yB s)<|λj s=>yB s,xar]
  lia
 refine⟨⟨o,q0,?_⟩,b,hc⟩;rw[<-c,(W:X q-1+(X g-1)=X m-1),a.top]
def zkf{h s t:N J}{S:K}(hp:2<=p)(b:vF p g)(a:BzR p g h d s t S)(hd:X d=0\/ci d (X d-1)=1):vF p d:=by
 have⟨A,C,c,z2,d1,d2⟩:=a.dv;have hl:0<X d:=by refine xcV λe=> ?_;have h1:=d1<|X g-1;rw[b.top,w7,yU λi hi=>by rw[yB W,xaz],xaJ m6 W]at h1;cases h1
 exact⟨a.df,hl,hd.resolve_left W⟩
def iB{a:N J}(hp:2<=p)(c:vF p a)(hd:vF p d)(e:Fs A)(h:Cg p (ci a) (A*ci d)):X d<=X a:=by
 refine xbx λhc=> ?_;have f:∀k,X d-1<=k->(A*ci d) k%p=0:=λk i=>by rw[<-h k,yB W,xar]
 have h0:=hd.mn.zero hp e f;have b:=(h.trans<|h0.mul_zero_r _)<|X a-1;rw[c.top,zV,xaJ m6 W]at b;cases b
end
def zfR{p:J}{m:N J}(hp:0<p)(a:Fp p m):xM p m [1]=m:=by grind [Fp.ext,jz,Yf,kv,yu]
section
variable{fu K:wP}{a b:Zr}
def exI(x y:J):J:=if y=0 then 0 else if x%y=0 then x/y else 0
def exE(x y:J):J:=if y=0 then 3 else if x%y=0 then 0 else 4
def uI(f:eJ a)(c:eJ b)(d:3000000<=fu):qq fu a b=Z (yK<|exI (zv a)<|zv b,exE (zv a)<|zv b):=by
 unfold qq exI exE;rw[Y<|UK f c d];unfold LH;by_cases h0:zv b=0
 rw[E h0,E h0,E h0];rfl;rw[P h0,P h0,P h0];simp only[Xs];have g:Bz (X b.2) (zv a%zv b):=by unfold Bz;have h1:=xcN (zv a) h0;have i:=Int.emod_lt (zv a) h0;have h:=Bz.of c.1;unfold Bz at h;lia
 rw[Y O,P m6,Y<|xi (g.ok (by have:=c.2;lia)) d,zt];by_cases h1:zv a%zv b=0
 rw[E<|xU.2 h1,E h1,E h1];rw[P<|λe=>h1<|xU.1 e,P h1,P h1];rfl
def AK(f:eJ a)(c:eJ b)(d:3000000<=fu):VC fu a b=Z (yK<|exI (zv a)<|zv b,exE (zv a)<|zv b):=by
 unfold VC exI exE;rw[Y<|eG f c d];unfold LH;by_cases h0:zv b=0
 rw[E h0,E h0,E h0];rfl;rw[P h0,P h0,P h0];simp only[Xs];have g:Bz (X b.2) (zv a%zv b):=by unfold Bz;have h1:=xcN (zv a) h0;have i:=Int.emod_lt (zv a) h0;have h:=Bz.of c.1;unfold Bz at h;lia
 rw[Y<|QU (g.ok (by have:=c.2;lia)) d,zt];by_cases h1:zv a%zv b=0
 rw[E<|xU.2 h1,E h1,E h1];rw[P<|λe=>h1<|xU.1 e,P h1,P h1];rfl
def zep{n:wP}(h:n<18446744073709551616^K):bl n<=64*K:=ae<|by rw[xbM];exact h
def UQ(e:zn a.2)(f:zn b.2)(j:X a.2<=K)(hi:X b.2<=K)(p:K<=10000)(k:3000000<=fu):WM fu a b=Z (yK (xdx (zv a).natAbs (zv b).natAbs:wP)):=by
 unfold WM;rw[Y<|VA e,Y<|VA f,vW,vW];have c:nv a.2<18446744073709551616^K:=xac (vA e)<|xai m6 j;have g:nv b.2<18446744073709551616^K:=xac (vA f)<|xai m6 hi;generalize nv a.2=A at*
 generalize nv b.2=B at*
 have l:xdx A B<18446744073709551616^K:=by
  by_cases h:A=0
  simp_all;exact xaI (Nat.gcd_le_left _ W) c
 have hc:∀{n:wP},n<18446744073709551616^K->X (yM n)<=K:=λ{n} h=>(zN _ _).2 h;rw[Y (v:=yM<|xdx A B)];have hl:=hc l;rw[Y (yQ (zw _) W W),zY];rfl;refine zC (λs:N wP×N wP=>∃x y:wP,s=(yM x,yM y)/\x<18446744073709551616^K/\y<18446744073709551616^K/\xdx x y=xdx A B) (λs=>bl (nv s.1)+bl (nv s.2)+if nv s.1<nv s.2 then 1 else 0) _ ?_ _ _ ⟨A,B,O,c,g,O⟩ ?_;rintro s L ⟨x,y,rfl,m,i,d⟩ o;unfold oy;simp only;have q:=hc m;have r:=hc i;by_cases h0:y=0
 subst h0;rw[P<|by rw[eD];decide];rw[Nat.gcd_zero_right]at d;rw[d];have hp:=qI (n:=y) W;rw[yg,Y<|rV (zw x) (zw y) W W k,zY,zY,P h0];simp only;have t:=xaQ x (W:0<y);refine o _ ⟨y,x%y,O,i,W,?_⟩ ?_;rw[<-d,xdJ y,<-Nat.gcd_rec,xdJ];simp only[zY];rw[zF];by_cases hd:x<y;rw[E hd,xap hd];lia;have:=LO (r0:=x) (r1:=y);lia;simp only[zY];have h1:=zep c;have u:=zep g;split<;>lia
def fW(c:zn a.2)(hl:X a.2<=200000)(d:3000000<=fu):VL fu a=Z (yK ((zv a).natAbs:wP)):=by unfold VL;rw[Y<|xl (z:=(I,a.2)) c hl d,vW];rfl
def EE(d:zn a.2)(f:zn b.2)(hd:X a.2<=K)(k:X b.2<=K)(p:K<=10000)(c:3000000<=fu):KY fu a b=Z (yK (xdx (zv a).natAbs (zv b).natAbs:wP)):=by
 unfold KY;rw[Y<|fW d W c,Y<|fW f W c,vW,vW];have g:nv a.2<18446744073709551616^K:=xac (vA d)<|xai m6 hd;have h:nv b.2<18446744073709551616^K:=xac (vA f)<|xai m6 k;generalize nv a.2=A at*
 generalize nv b.2=B at*
 rw[Y (v:=yK (xdx A B:wP))];refine zC (λs:U×U=>∃x y:wP,s=(yK (x:wP),yK (y:wP))/\x<18446744073709551616^K/\y<18446744073709551616^K/\xdx x y=xdx A B) (λs=>bl (zv s.1).natAbs+bl (zv s.2).natAbs+if(zv s.1).natAbs<(zv s.2).natAbs then 1 else 0) _ ?_ _ _ ⟨A,B,O,g,h,O⟩ ?_;rintro s L ⟨x,y,rfl,l,i,m⟩ n;unfold mI;simp only;have o:=Bz.nat l;have j:=Bz.nat i;rw[Y<|QU (j.ok W) c,zt];by_cases h0:y=0
 subst h0;rw[E<|xU.2 (show((0:wP):J)=0 from O)];simp_all;rw[P<|λe=>h0 (by have:=xU.1 e;lia),Y<|eG (o.okS W) (j.okS W) c,zt,zt];unfold LH;rw[zF];simp only;have hi:=xaQ x (W:0<y);rw[show((x:J)%(y:J))=((x%y:wP):J)from O];refine n _ ⟨y,x%y,O,i,W,?_⟩ ?_;rw[<-m,xdJ y,<-Nat.gcd_rec,xdJ];simp only[zt,xaH];rw[zF];by_cases hc:x<y;rw[E hc,xap hc];lia;have:=LO (r0:=x) (r1:=y);lia;simp only[zt,xaH];have h1:=zep g;have q:=zep h;split<;>lia
end
section
variable{k d fu K:wP}{q:uP}
def qv(x:Qr):uP:=mkRat (zv x.1)<|A x.2
def cq(q:uP):Qr:=(yK q.num,yM q.den)
def Qz(k:wP)(x:Qr):Prop:=zn x.1.2/\X x.1.2<=k/\zn x.2/\X x.2<=k
def Qh(k:wP)(q:uP):Prop:=Bz k q.num/\Bz k q.den
def Zb(q:uP):qv (cq q)=q:=by unfold qv cq;rw[zt,zY,Rat.mkRat_self]
def Qh.qs(h:Qh k q):Qz k (cq q):=⟨yJ _,h.1.len,zw _,by have:=h.2.len;unfold yK at this;simpa[cq]using this⟩
def Qz.mono{j:wP}{x:Qr}(h:Qz j x)(a:j<=k):Qz k x:=⟨h.1,xao h.2.1 a,h.2.2.1,xao h.2.2.2 a⟩
def Qz.nil(k:wP):Qz k ((I,[]),[]):=⟨zn.nil,xah _,zn.nil,xah _⟩
def Mh:qv ((I,[]),[])=0:=Rat.mkRat_zero _
def Qh.mk{n:J}(hn:Bz k n)(hd:Bz k (d:J))(a:1<=k):Qh k (mkRat n d):=by
 unfold Qh;rw[Rat.num_mkRat,Rat.den_mkRat];by_cases h:d=0
 rw[E h,E h];exact⟨Bz.zero k,Bz.one' a⟩;rw[P h,P h];refine⟨hn.le ?_,hd.le ?_⟩;exact xbD _ _;skip;exact xcI _ _
def Qz.hb{x:Qr}(h:Qz k x)(a:1<=k):Qh k (qv x):=by refine Qh.mk ((Bz.of h.1).mono h.2.1) ?_ a;exact xac (vA h.2.2.1)<|xai m6 h.2.2.2
theorem Oj{a b:J}(f:b≠0):(xfZ a b).num=(if b<0 then-(a/(xdx a.natAbs b.natAbs:wP))else a/(xdx a.natAbs b.natAbs:wP))/\(xfZ a b).den=(b/(xdx a.natAbs b.natAbs:wP)).natAbs:=by
 have c:((xdx a.natAbs b.natAbs:wP):J)∣a:=xfm.2<|xfJ _ _;have e:((xdx a.natAbs b.natAbs:wP):J)∣b:=xfm.2<|xdZ _ _;by_cases h:b<0;obtain⟨d,rfl⟩:∃d:wP,b= -(d:J):=⟨b.natAbs,W⟩;have hd:d≠0:=W
 rw[xey,xaH]at c e⊢;rw[E h,Rat.divInt_neg',Rat.divInt_ofNat,Rat.num_mkRat,Rat.den_mkRat,P hd,P hd,xey,xdJ d];refine⟨Int.neg_ediv_of_dvd c,?_⟩;rw[Int.neg_ediv_of_dvd (by exact xdq.2<|xdZ _ _),xey,Int.natAbs_ediv_of_dvd<|xdq.2<|xdZ _ _];rfl;obtain⟨d,rfl⟩:∃d:wP,b=(d:J):=⟨b.natAbs,W⟩;have hd:d≠0:=W
 rw[P h,Rat.divInt_ofNat,Rat.num_mkRat,Rat.den_mkRat,P hd,P hd,xaH,xdJ d];grind
def U5{a b:U}(i:zn a.2)(j:zn b.2)(hc:X a.2<=K)(hd:X b.2<=K)(r:K<=10000)(c:3000000<=fu:=by lia):
 W9 fu a b=Z (if zv b=0 then(((I,[]),[]),3)else(cq<|xfZ (zv a)<|zv b,0)):=by
 unfold W9;have s:eJ a:=⟨i,W⟩;have l:eJ b:=⟨j,W⟩;rw[Y<|xi l.ok c];by_cases h0:zv b=0
 rw[E<|xU.2 h0,E h0];rw[P<|λe=>h0<|xU.1 e,P h0,Y<|UQ i j hc hd r c];have⟨h1,m⟩:=Oj (a:=zv a) h0;generalize f:((xdx (zv a).natAbs (zv b).natAbs:wP):J)=G at*
 have g1:G∣zv a:=by rw[<-f];exact xfm.2<|xfJ _ _
 have n:G∣zv b:=by rw[<-f];exact xfm.2<|xdZ _ _
 have g0:G≠0:=λe=>h0<|Int.zero_dvd.1<|e▸n;have t:Bz K G:=(Bz.of j).mono hd|>.le (by rw[<-f,xaH];exact Nat.le_of_dvd W<|xdZ _ _)
 have o:eJ (yK G):=t.okS W;rw[Y<|uI s o c,zt];simp only;rw[Y<|uI l o c,zt];have e1:∀{x:J},G∣x->exI x G=x/G:=λh=>by unfold exI;rw[P g0,E<|xax h]
 rw[e1 g1,e1 n];have gp:0<G:=by rw[<-f];rw[<-f]at g0;lia
 have p:zv b/G<0↔zv b<0:=by
  constructor;intro h;exact Int.not_le.1 λe=>kW (Int.ediv_nonneg e<|xdK gp) W
  intro h;exact Int.ediv_neg_of_neg_of_pos h gp
 by_cases g:zv b<0;rw[E<|(Ji _).2<|p.2 g,Y<|U1 (((Bz.of i).mono hc).le (xbD _ _)|>.ok W) c,zt];unfold cq;rw[h1,m,E g];rfl;rw[P<|λe=>g<|p.1<|(Ji _).1 e];unfold cq;rw[h1,m,P g];rfl
def Xu{x:Qr}(h:Qz K x)(b:K<=10000)(a:3000000<=fu):Xk fu x=Z (yK (A x.2:wP)):=by unfold Xk;rw[Y<|uD ⟨h.2.2.1,xao h.2.2.2 W⟩ a];rfl
def gw{n:J}(h:Qp n)(a:3000000<=fu):jw fu n=Z (cq (n:uP)):=by unfold jw cq;rw[Y<|yw h a];rfl
def mb{x:Qr}(h:Qz K x)(a:K<=10000)(b:3000000<=fu):wC fu x=Z (cq<|qv x):=by
 unfold wC;have hd:Bz K ((A x.2:wP):J):=by unfold Bz;exact xac (vA h.2.2.1)<|xai m6 h.2.2.2
 rw[Y<|Xu h a b,Y<|U5 h.1 (yJ _) h.2.1 hd.len a,zt];by_cases h0:((A x.2:wP):J)=0
 skip;simp only;rw[Y<|gw m6 b];unfold qv;simp_all;rw[P h0];rfl
def Qo(x:Qr):Prop:=Qz 4000 x
def dn(q:uP):Prop:=Qh 4000 q
def dn.rs(h:dn q):Qo (cq q):=h.qs
def Qo.hs{x:Qr}(h:Qo x):dn (qv x):=h.hb m6
def Qo.nil:Qo ((I,[]),[]):=Qz.nil _
def vQ{x:Qr}(h:Qo x)(a:3000000<=fu):wC fu x=Z (cq<|qv x):=mb h m6 a
def zbO{n:J}(hn:Bz K n)(hd:Bz K (d:J))(a:K<=10000)(b:3000000<=fu):wC fu (yK n,yM d)=Z (cq<|mkRat n d):=by rw[mb ⟨yJ _,hn.len,zw _,by have:=hd.len;unfold yK at this;simpa using this⟩ a b];unfold qv;rw[zt,zY]
def ziU(h:Qh K q):zn (yM q.den)/\X (yM q.den)<=K:=⟨zw _,h.qs.2.2.2⟩
def zcK{p:uP}(hp:dn p)(a:dn q)(c:3000000<=fu):Yk fu (yM p.den) (yM q.den)=Z (yM<|p.den*q.den):=by have h1:=ziU hp;have b:=ziU a;rw[XW h1.1 b.1 W W W,zY,zY]
def Jt{x y:Qr}(c:Qo x)(e:Qo y)(a:3000000<=fu):WJ fu x y=Z (cq<|qv x*qv y):=by unfold WJ;rw[Y<|vQ c a,Y<|vQ e a];have h1:=c.hs;have b:=e.hs;unfold cq;rw[Y<|ya (h1.1.ok m6) (b.1.ok m6) a,Y<|zcK h1 b a,zt,zt,Y<|zbO (h1.1.mul b.1) (by skip;exact h1.2.mul b.2) m6 a,<-Rat.mkRat_mul_mkRat,Rat.mkRat_self,Rat.mkRat_self];rfl
def ni{x:Qr}(a:Qo x)(b:3000000<=fu):Kp fu x=Z (kK (qv x).num 0):=by unfold Kp;rw[Y<|vQ a b];unfold cq;rw[Y<|xi (a.hs.1.ok m6) b,zt]
def iV:kK q.num 0=0↔q=0:=xU.trans Rat.num_eq_zero
def aQ{x y:Qr}{f:U->U->V U}{r:J}(c:Qo x)(e:Qo y)(a:3000000<=fu)(h:f (yK<|(qv x).num*(qv y).den) (yK<|(qv y).num*(qv x).den)=Z (yK r))(g:Bz 8001 r):Vm fu x y f=Z (cq<|mkRat r<|(qv x).den*(qv y).den):=by unfold Vm;rw[Y<|vQ c a,Y<|vQ e a];have h1:=c.hs;have b:=e.hs;rw[Y<|Xu b.qs m6 a];unfold cq;rw[zY,Y<|ya (h1.1.ok m6) (b.2.ok m6) a];have hd:=Xu h1.qs m6 a;unfold cq at hd;rw[Y hd];rw[zY,Y<|ya (b.1.ok m6) (h1.2.ok m6) a,zt,zt,zt,zt,Y h,Y<|zcK h1 b a,Y<|zbO g (by skip;exact(h1.2.mul b.2).mono m6) m6 a];rfl
def oU{x y:Qr}(a:Qo x)(b:Qo y)(c:3000000<=fu):aW fu x y=Z (cq<|qv x+qv y):=by have h1:=a.hs;have e:=b.hs;have b1:=h1.1.mul e.2;have b2:=e.1.mul h1.2;unfold aW XV;rw[Y<|Y<|aQ a b c ?_<|b1.add b2];rw[Rat.add_def,Rat.normalize_eq_mkRat];unfold Wg;rw[P m6,Y<|qH (b1.ok m6) (b2.ok m6) c,zt,zt]
def sJ{x y:Qr}(a:Qo x)(b:Qo y)(c:3000000<=fu):aO fu x y=Z (cq<|qv x-qv y):=by have h1:=a.hs;have e:=b.hs;have b1:=h1.1.mul e.2;have b2:=e.1.mul h1.2;unfold aO XV;rw[Y<|Y<|aQ a b c ?_<|b1.sub b2];rw[Rat.sub_def,Rat.normalize_eq_mkRat];unfold Wg;rw[E O,Y<|qx (b1.ok m6) (b2.ok m6) c,zt,zt]
def rF{x y:Qr}(c:Qo x)(f:Qo y)(h0:qv y≠0)(a:3000000<=fu):JL fu x y=Z (cq<|qv x/qv y,0):=by
 unfold JL;rw[Y<|vQ c a,Y<|vQ f a];have h1:=c.hs;have b:=f.hs;generalize qv x=p at*
 generalize qv y=q at*
 rw[Y<|Xu b.qs m6 a];have hd:=Xu (fu:=fu) h1.qs m6 a;unfold cq at hd⊢;have b1:=h1.1.mul b.2;have b2:=b.1.mul h1.2;have n0:q.num≠0:=λe=>h0<|Rat.num_eq_zero.1 e;rw[zY,Y<|ya (h1.1.ok m6) (b.2.ok m6) a,Y hd,zY,Y<|ya (b.1.ok m6) (h1.2.ok m6) a,zt,zt,zt,zt,Y (U5 (K:=8000) (yJ _) (yJ _) b1.len b2.len m6),zt,zt];have g:q.num*(p.den:J)≠0:=xcz n0 (by have:=p.den_nz;lia);rw[P g];have:xfZ (p.num*q.den) (q.num*p.den)=p/q:=by rw[xbB q.num,<-Rat.divInt_mul_divInt,Rat.num_divInt_den,Rat.div_def,Rat.inv_def]
 rw[this];rfl
end
def QW:K->(K->uP)->uP
 |0,_=>0
 |n+1,g=>QW n g+g n
def yc(n:K)(f:K->uP)(t:uP):uP:=QW n λi=>f i*t^i
def qm{f g:K->uP}:∀{n},(∀i,i<n->f i=g i)->QW n f=QW n g
 |0,_=>rfl
 |n+1,h=>by show QW n f+f n=QW n g+g n;rw[qm λi hi=>h i W,h n W]
def PT(f g:K->uP):∀n,QW n (λi=>f i+g i)=QW n f+QW n g
 |0=>by show(0:uP)=0+0;grind
 |n+1=>by show QW n _+_=QW n f+f n+(QW n g+g n);rw[PT f g n];grind
def DI(c:uP)(f:K->uP):∀n,QW n (λi=>c*f i)=c*QW n f
 |0=>by show(0:uP)=c*0;grind
 |n+1=>by show QW n _+_=c*(QW n f+f n);rw[DI c f n];grind
def uY{f:K->uP}:∀{n},(∀i,i<n->f i=0)->QW n f=0
 |0,_=>rfl
 |n+1,h=>by show QW n f+f n=0;rw[uY λi hi=>h i W];grind
def Lb{f:K->uP}{n:K}:∀{m},n<=m->(∀i,n<=i->f i=0)->QW m f=QW n f
 |0,h,_=>by rw[(W:n=0)]
 |m+1,h,h0=>by
  by_cases e:n=m+1
  rw[e];show QW m f+f m=_;rw[Lb W h0];grind
def Lh(f:K->uP):∀n,QW (n+1) f=f 0+QW n (λi=>f<|i+1)
 |0=>by show(0:uP)+f 0=f 0+0;grind
 |n+1=>by show QW (n+1) f+f (n+1)=f 0+(QW n _+f (n+1));rw[Lh f n];grind
def OC(f:K->uP)(k:K)(v:uP):K->uP:=λi=>if i=k then v else f i
def za4{f:K->uP}{k:K}{v t:uP}:∀{n},k<n->yc n (OC f k v) t=yc n f t+(v-f k)*t^k
 |0,h=>kW h<|xbc _
 |n+1,h=>by
  show yc n (OC f k v) t+OC f k v n*t^n=yc n f t+f n*t^n+_;by_cases e:k=n;have:yc n (OC f k v) t=yc n f t:=qm λi hi=>by unfold OC;rw[zF]
  rw[this];unfold OC;grind;rw[za4 W];have:OC f k v n=f n:=by unfold OC;rw[zF]
  grind
def iF(n:K)(t:uP):yc n (λ_=>0) t=0:=uY λi _=>by grind
def YM(n:K)(f g:K->uP)(t:uP):yc n (λi=>f i+g i) t=yc n f t+yc n g t:=by unfold yc;rw[<-PT];exact qm λi _=>by grind
def vV(n:K)(c:uP)(f:K->uP)(t:uP):yc n (λi=>c*f i) t=c*yc n f t:=by unfold yc;rw[<-DI];exact qm λi _=>by grind
def vS(n:K)(f:K->uP)(t:uP):yc (n+1) f t=f 0+t*yc n (λi=>f<|i+1) t:=by unfold yc;rw[Lh,<-DI];grind
def kD{f:K->uP}{n m:K}(h:n<=m)(h0:∀i,n<=i->f i=0)(t:uP):yc m f t=yc n f t:=Lb h λi hi=>by skip;grind
def Px(r:uP):∀(n:K) (f:K->uP),∃g,∀t,yc (n+1) f t-yc (n+1) f r=(t-r)*yc n g t
 |0,f=>⟨f,λt=>by rw[vS,vS];show f 0+t*0-(f 0+r*0)=(t-r)*0;grind⟩
 |n+1,f=>by
  have⟨g,a⟩:=Px r n λi=>f<|i+1;refine⟨λi=>if i=0 then yc (n+1) (λi=>f<|i+1) r else g (i-1),λt=> ?_⟩;rw[vS (n+1) f,vS (n+1) f,vS n (λi=>if i=0 then yc (n+1) (λi=>f<|i+1) r else g (i-1))];grind
def CA:∀(n:K) (f:K->uP) (N:K),(∀k:K,N<=k->yc n f (k:uP)=0)->∀i,i<n->f i=0
 |0,_,_,_,i,hi=>kW hi<|xbc _
 |n+1,f,N,h,i,hi=>by
  have⟨g,a⟩:=Px (N:uP) n f;have b:=h N<|Nm _;have g0:∀i,i<n->g i=0:=CA n g (N+1) λk c=>by
   have h1:=a k;rw[h k W,b]at h1;have j:((k:K):uP)-N≠0:=λe=>by
    have d:((k:K):uP)=N:=by grind
    have:=xdr.1 d;lia
   grind
  have e:∀t,yc (n+1) f t=0:=λt=>by
   have h1:=a t;rw[show yc n g t=0 from uY λi hi=>by rw[g0 i hi];grind,b]at h1;grind
  have f0:f 0=0:=by have:=e 0;rw[vS]at this;grind
  have f1:=CA n (λi=>f<|i+1) 1 λk c=>by
   have h1:=e k;rw[vS,f0]at h1;have:((k:K):uP)≠0:=λe=>by have:=xdr.1<|e.trans (by rfl:(0:uP)=((0:K):uP));lia
   grind
  cases i with
  |zero=>exact f0
  |succ i=>exact f1 i W
def Ly{n:K}{f g:K->uP}(h:∀t,yc n f t=yc n g t):∀i,i<n->f i=g i:=λi hi=>by
 have:=CA n (λi=>f i+ -1*g i) 0 (λk _=>by rw[YM,vV];grind) i hi;grind
def eV(t:uP)(m:K):∀n,t^(m+n)=t^m*t^n
 |0=>by skip;grind
 |n+1=>by skip;grind
def oo(n:K)(F:uP->uP):Prop:=∃f,∀t,F t=yc n f t
def oo.self(n:K)(f:K->uP):oo n (yc n f):=⟨f,λ_=>O⟩
def oo.mono{m n:K}{F:uP->uP}(h:oo n F)(a:n<=m):oo m F:=by have⟨f,b⟩:=h;refine⟨λi=>if i<n then f i else 0,λt=> ?_⟩;rw[b,kD a<|λi hi=>by rw[zF]];exact qm λi hi=>by simp[hi]
def oo.add{n:K}{F G:uP->uP}:oo n F->oo n G->oo n λt=>F t+G t:=λ⟨f,a⟩ ⟨g,b⟩=>⟨λi=>f i+g i,λt=>by have:=a t;rw[YM];grind⟩
def oo.smul{n:K}{F:uP->uP}(c:uP):oo n F->oo n λt=>c*F t:=λ⟨f,a⟩=>⟨λi=>c*f i,λt=>by have:=a t;rw[vV];grind⟩
def oo.x{n:K}{F:uP->uP}:oo n F->oo (n+1) λt=>t*F t:=λ⟨f,a⟩=>⟨λi=>if i=0 then 0 else f (i-1),λt=>by
 have h1:yc n (λi=>if i+1=0 then 0 else f (i+1-1)) t=yc n f t:=qm λi _=>by simp
 rw[vS];grind⟩
def oo.xn{n:K}{F:uP->uP}(h:oo n F):∀m,oo (n+m) λt=>t^m*F t
 |0=>by have⟨f,a⟩:=h;exact⟨f,λt=>by have:=a t;grind⟩
 |m+1=>by have⟨f,a⟩:=(h.xn m).x;exact⟨f,λt=>by have:=a t;grind⟩
def oo.mul{m:K}{G:uP->uP}(a:oo (m+1) G):∀(n:K) (f:K->uP),oo (n+m) λt=>yc n f t*G t
 |0,f=>⟨λ_=>0,λt=>by rw[iF];show(0:uP)*_=0;grind⟩
 |n+1,f=>by
  have⟨g,b⟩:=((oo.mul a n f).mono (m:=n+1+m) W).add (((a.xn n).smul<|f n).mono W);exact⟨g,λt=>by skip;show(yc n f t+f n*t^n)*G t=_;grind⟩
def Zz(F:uP->uP):Prop:=∃n,oo n F
def Zz.self(n:K)(f:K->uP):Zz (yc n f):=⟨n,oo.self n f⟩
def Zz.add{F G:uP->uP}:Zz F->Zz G->Zz λt=>F t+G t:=λ⟨m,h⟩ ⟨n,k⟩=>⟨max m n,(h.mono W).add<|k.mono W⟩
def Zz.mul{F G:uP->uP}:Zz F->Zz G->Zz λt=>F t*G t:=λ⟨m,f,a⟩ ⟨n,k⟩=>⟨m+n,by have⟨g,b⟩:=oo.mul (k.mono<|xby n) m f;exact⟨g,λt=>by rw[<-b];show F t*G t=yc m f t*G t;rw[a]⟩⟩
def Zz.c(a:uP):Zz λ_=>a:=⟨1,λ_=>a,λt=>by rw[vS];show a=a+t*0;grind⟩
def Zz.x:Zz λt=>t:=⟨2,λi=>if i=1 then 1 else 0,λt=>by rw[vS,vS];show t=0+t*(1+t*0);grind⟩
def Zz.smul{F:uP->uP}(c:uP)(h:Zz F):Zz λt=>c*F t:=(Zz.c c).mul h
def Zz.sub{F G:uP->uP}(h:Zz F)(k:Zz G):Zz λt=>F t-G t:=by have⟨n,g,a⟩:=h.add<|k.smul (-1);exact⟨n,g,λt=>by skip;grind⟩
def xz(P F G:uP->uP):Prop:=∃Q,Zz Q/\∀t,F t-G t=P t*Q t
def xz.refl{P F:uP->uP}:xz P F F:=⟨_,Zz.c 0,λt=>by grind⟩
def xz.of{P F G:uP->uP}(h:∀t,F t=G t):xz P F G:=⟨_,Zz.c 0,λt=>by skip;grind⟩
def xz.symm{P F G:uP->uP}:xz P F G->xz P G F:=λ⟨Q,h,e⟩=>⟨_,h.smul (-1),λt=>by have:=e t;grind⟩
def xz.trans{P F G a:uP->uP}:xz P F G->xz P G a->xz P F a:=λ⟨Q,h,e⟩ ⟨R,k,b⟩=>⟨_,h.add k,λt=>by have:=e t;grind⟩
def xz.add{P F G F' G':uP->uP}:xz P F G->xz P F' G'->xz P (λt=>F t+F' t) λt=>G t+G' t:=λ⟨Q,h,e⟩ ⟨R,k,a⟩=>⟨_,h.add k,λt=>by have:=e t;grind⟩
def xz.mul{P F G F' G':uP->uP}(a:Zz F')(b:Zz G):xz P F G->xz P F' G'->xz P (λt=>F t*F' t) λt=>G t*G' t:=λ⟨Q,h,e⟩ ⟨R,k,c⟩=>⟨_,(h.mul a).add<|b.mul k,λt=>by have:=e t;grind⟩
def xz.smul{P F G:uP->uP}(c:uP):xz P F G->xz P (λt=>c*F t) λt=>c*G t:=λ⟨Q,h,e⟩=>⟨_,h.smul c,λt=>by have:=e t;grind⟩
def xz.sub{P F G F' G':uP->uP}(h:xz P F G)(k:xz P F' G'):xz P (λt=>F t-F' t) λt=>G t-G' t:=by have⟨Q,h,e⟩:=h.add<|k.smul (-1);exact⟨Q,h,λt=>by have:=e t;grind⟩
def xz.inj{d:K}{b f g:K->uP}(o:b d=1)(h:xz (yc (d+1) b) (yc d f) (yc d g)):∀i,i<d->f i=g i:=by
 have⟨Q,⟨n,q,a⟩,e⟩:=h;have j:∀n (q:K->uP),(∀t,yc d f t-yc d g t=yc (d+1) b t*yc n q t)->∀t,yc n q t=0:=by
  intro n
  induction n with
  |zero=>intro q _ t;rfl
  |succ n p=>
   intro q e;have⟨c,hc⟩:=((((oo.self d f).add<|(oo.self d g).smul (-1)).mono (m:=n+d) W).add<|(oo.mul (oo.self (d+1) b) n q).smul (-1)).add ((((oo.self d b).xn n).smul (-q n)).mono (m:=n+d) W);have h1:=CA (n+d+1) (λi=>if i<n+d then c i else-q n) 0 (λk _=>by
    show yc (n+d) _ _+(if n+d<n+d then c (n+d)else-q n)*(k:uP)^(n+d)=0;have r:yc (n+d) (λi=>if i<n+d then c i else-q n) (k:uP)=yc (n+d) c k:=qm λi hi=>by simp[hi]
    have s:=hc k;have u:yc d f (k:uP)-yc d g k=(yc d b k+b d*(k:uP)^d)*(yc n q k+q n*(k:uP)^n):=e k;have v:yc (d+1) b (k:uP)=yc d b k+b d*(k:uP)^d:=O;rw[r,<-s,zF,eV];show yc d f k+ -1*yc d g k+ -1*(yc n q k*yc (d+1) b k)+ -q n*((k:uP)^n*yc d b k)+ -q n*((k:uP)^n*(k:uP)^d)=0;rw[v];rw[o]at u⊢;grind) (n+d) W
   simp only[xfQ,Z9]at h1;have q0:q n=0:=by grind
   have l:∀t,yc (n+1) q t=yc n q t:=λt=>by show yc n q t+q n*t^n=_;rw[q0,xeF,xfg]
   intro t;rw[l];exact p q (λt=>by rw[<-l];exact e t) t
 intro i hi;exact Ly (λt=>by have:=e t;rw[a,j n q (λt=>by rw[<-a];exact e t),Rat.mul_zero]at this;clear e a j;grind) i hi
section
variable{k j i:wP}{f g:wP->uP}{a b:wN}{l:wF uP}
def y7(l:N uP)(i:K):uP:=l.getD i 0
def yG(l:N uP):uP->uP:=yc (X l)<|y7 l
def UU(k:K)(f:K->uP):Prop:=∃D:K,0<D/\D<2^k/\∀i,∃n:J,f i*D=n/\n.natAbs<2^k
def Ht(k:K)(l:N uP):Prop:=UU k<|y7 l
def Hx(k:K)(x:uP):Prop:=∃D:K,0<D/\D<2^k/\∃n:J,x*D=n/\n.natAbs<2^k
def UU.hx(h:UU k f)(i:K):Hx k (f i):=by have⟨D,h0,h1,c⟩:=h;exact⟨D,h0,h1,c i⟩
def zak{K:wP}(h:k<=64*K):2^k<=18446744073709551616^K:=xao (xai m6 h)<|by rw[xbM];exact Nm _
theorem ziV{x:uP}{D:K}{n:J}(h0:0<D)(h:x*D=n):x=mkRat n D:=by
 have c:(D:uP)≠0:=λe=>by have:=xdr.1<|e.trans (by rfl:(0:uP)=((0:K):uP));lia
 rw[Rat.mkRat_eq_div];grind
def Hx.hs{x:uP}(h:Hx k x)(m:k<=256000):dn x:=by have⟨D,h0,h1,n,d,e⟩:=h;rw[ziV h0 d];have c:=zak (W:k<=64*4000);exact Qh.mk (xac e c) (xac (by skip;exact h1) c) m6
def UU.mono(h:UU j f)(c:j<=k):UU k f:=by have⟨D,h0,h1,d⟩:=h;have:=xai (m6:0<2) c;exact⟨D,h0,W,λi=>by have⟨n,a,b⟩:=d i;exact⟨n,a,W⟩⟩
def yN(c:a.natAbs<2^j)(d:b.natAbs<2^k):(a*b).natAbs<2^(j+k):=by rw[xcl,xbd];exact xcf c d
theorem Hx.mul{x y:uP}(c:Hx j x)(d:Hx k y):Hx (j+k) (x*y):=by have⟨D,h0,h1,n,o,e⟩:=c;have⟨E,g0,g1,m,p,h⟩:=d;refine⟨D*E,xdn h0 g0,by rw[xbd];exact xcf h1 g1,n*m,?_,yN e h⟩;grind
def lV(c:a.natAbs<2^k)(d:b.natAbs<2^k):(a+b).natAbs<2^(k+1):=by skip;lia
theorem UU.comb{c:uP}(h:UU j f)(d:UU k g){s:K}(hc:∃m:J,c=m/\m.natAbs<2^s):UU (j+k+s+1) λi=>f i+c*g i:=by
 have⟨D,h0,h1,e⟩:=h;have⟨E,g0,g1,o⟩:=d;obtain⟨m,rfl,p⟩:=hc;have e1:D*E<2^(j+k):=by rw[xbd];exact xcf h1 g1
 have v:=xai (m6:0<2) (W:j+k<=j+k+s+1);refine⟨D*E,xdn h0 g0,W,λi=> ?_⟩;have⟨n,q,r⟩:=e i;have⟨u,b1,b2⟩:=o i;refine⟨n*E+m*(u*D),?_,lV (k:=j+k+s) ?_ ?_⟩;rw[xfn,xbh,xbh,xbh,xds,<-q,<-b1];show _=f i*D*(E:uP)+m*(g i*E*(D:uP));grind;have:=yN r (b:=(E:J)) (k:=k) (by rw[xaH];exact g1);have:=xai (m6:0<2) (W:j+k<=j+k+s);lia;have:=yN p (yN b2 (b:=(D:J)) (k:=j)<|by rw[xaH];exact h1);have t:s+(k+j)=j+k+s:=W
 rwa[t]at this
theorem UU.less{b:K}{h:K->uP}{e:K}(m:UU k f)(o:UU b g)(p:∀i,h i=f i\/∃j,h i=f i-f e*g j):UU (k+b+1) h:=by
 have⟨D,h0,h1,c⟩:=m;have⟨E,g0,g1,r⟩:=o;have e1:D*E<2^(k+b):=by rw[xbd];exact xcf h1 g1
 have t:=xai (m6:0<2) (W:k+b<=k+b+1);refine⟨D*E,xdn h0 g0,W,λi=> ?_⟩;have⟨n,d,s⟩:=c i;have a3:=yN s (b:=(E:J)) (k:=b) (by rw[xaH];exact g1);obtain q|⟨j,q⟩:=p i
 refine⟨n*E,?_,W⟩;rw[q,xbh,xds,<-d];show _=f i*D*(E:uP);grind;have⟨u,b1,b2⟩:=r j;have⟨v,c1,c2⟩:=c e;have w:=yN c2 b2;refine⟨n*E-v*u,?_,W⟩;rw[q,Rat.intCast_sub,xbh,xbh,xds,<-d,<-b1,<-c1];show _=f i*D*(E:uP)-_;grind
def cd(h:i<X l:=by lia):(l.map cq).getD i ((I,[]),[])=cq (y7 l i):=by unfold y7;simp[xaa h]
theorem KM{v:uP}(h:i<X l:=by lia):y7 (l.set i v)=OC (y7 l) i v:=by funext j;unfold y7 OC;by_cases e:j=i;simp_all;grind
def Yd(h:X l<=i:=by lia):y7 l i=0:=by unfold y7;simp[xbA h]
def sa(h:i<k):y7 (l.take k) i=y7 l i:=by unfold y7;simp[h]
def kF{n:K}(h:X l<=n)(t:uP):yG l t=yc n (y7 l) t:=(kD h (λi hi=>Yd hi) t).symm
def Ht.hs{k i:K}{l:N uP}(h:Ht k l)(c:k<=256000):dn (y7 l i):=(UU.hx h i).hs c
theorem Ht.take{k m:K}{l:N uP}(h:Ht k l):Ht k (l.take m):=by have⟨D,h0,h1,c⟩:=h;refine⟨D,h0,h1,λi=> ?_⟩;by_cases e:i<m;rw[sa e];exact c i;rw[Yd<|by rw[xan];lia];exact⟨0,by grind,xbY _⟩
def bg(d:K)(q:N uP):Prop:=X q<=d/\(X q≠0->y7 q (X q-1)≠0)
def bg.ext{d:K}{p q:N uP}(hp:bg d p)(c:bg d q)(h:∀i,i<d->y7 p i=y7 q i):p=q:=by
 have hl:X p=X q:=by
  rcases xfz (X p) (X q) with e|e|e
  exact kW ((h _ (by have:=c.1;lia)).symm.trans<|Yd)<|c.2 W
  exact e;exact kW ((h _ (by have:=hp.1;lia)).trans<|Yd)<|hp.2 W
 refine xdR hl λi h1 m=> ?_;have:=h i (by have:=hp.1;lia);unfold y7 at this;simp_all
def bg.inj{d:K}{β:K->uP}{p q:N uP}(c:β d=1)(hp:bg d p)(m:bg d q)(h:xz (yc (d+1) β) (yG p) (yG q)):p=q:=by have⟨Q,k,e⟩:=h;exact hp.ext m<|xz.inj c ⟨Q,k,λt=>by rw[<-kF hp.1,<-kF m.1];exact e t⟩
def bg.nil(d:K):bg d []:=⟨xah _,λh=>kW O h⟩
def iG(t:uP):yG [] t=0:=O
structure Fld(r:d7)(d b:K)(β:K->uP):Prop where
 len:r.2.length=d+1
 at_:∀i,i<=d->r.2.getD i ((I,[]),[])=cq (β i)
 one:β d=1
 ht:UU b β
 d1:1<=d
 d2:d<=16
 b2:b<=700
theorem aA{β g:K->uP}{c:uP}{e:K}(h0:∀i,i<e->g i=0):∀s,(∀i,i<s->g (e+i)=c*β i)->∀t,yc (e+s) g t=c*(t^e*yc s β t)
 |0,_,t=>by show yc e g t=c*(t^e*0);rw[Rat.mul_zero,Rat.mul_zero];exact uY λi hi=>by rw[h0 i hi,xeF]
 |s+1,h,t=>by
  show yc (e+s) g t+g (e+s)*t^(e+s)=c*(t^e*(yc s β t+β s*t^s));rw[aA h0 s (λi hi=>h i W) t];grind
end
end Go.Proofs.YtoegnnjcmlghhaaGreat
