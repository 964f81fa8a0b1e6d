/- What a proof needs: rules of walking, mirrors of functions and their plain laws. No condition. -/
import Derived.Test.YtoegnnjcmlghhaaGreatZq5
set_option linter.all false
namespace Go.Proofs.YtoegnnjcmlghhaaGreat
open Bool renaming false->I,true->wT
open Go renaming maxLen->QR,madeCells->lm
open Go.Proofs.YtoegnnjcmlghhaaGreat renaming bd->G,za->Y,Zr->U,nm->B,Qr->D,ze->F,iq->Q,zf->A,ir->S,nv->P
open List renaming length->X,length->Ap
open Nat renaming beq->R
open Option renaming some->Z
open _root_ renaming rfl->O,List->N,Int->J,Nat->K,Option->V,List->ww,Int->wF,Nat->wL,Option->wN,absurd->jp,trivial->jP,funext->uT,True->Wr,False->UP
open Int renaming add_emod->xeh,mul_comm->xbI,tdiv->xdv,tmod->xcB,zero_ediv->xek,zero_emod->xaq
open List renaming drop->xdN,drop_eq_getElem_cons->xbX,ext_getElem->xeb,length_range->xex,map_congr_left->xcc,mem_iff_getElem->xcr,pairwise_iff_getElem->xcU,range->xaC,range_succ->xcT,replicate->So,take->xdB,take_add_one->xeV,take_append_drop->xbG,take_of_length_le->xaW
open Nat renaming add_mul->xbk,div_add_mod->xbu,div_div_eq_div_mul->xaF,div_mul_le_self->xcG,gcd->xdk,le_antisymm->xcF,le_div_iff_mul_le->xcu,lt_of_lt_of_le->xag,lt_trans->xfe,mod_eq_of_lt->xap,mul_add->xcp,mul_assoc->xbn,mul_comm->xaS,mul_div_mul_right->xfE,mul_left_comm->xfw,mul_mod_mul_right->xeg,pow_add->xbg,pow_le_pow_right->xam,pow_mul->xcg,pow_succ->xbA,strongRecOn->xdz
def xaA:=@Int.mul_zero
def xaH:=@Int.dvd_of_emod_eq_zero
def xaJ:=@Int.emod_eq_of_lt
def xaL:=@Int.natAbs_natCast
def xaM:=@Int.emod_eq_emod_iff_emod_sub_eq_zero
def xaR:=@Int.emod_emod
def xax:=@Int.emod_eq_zero_of_dvd
def xbC:=@Int.mul_le_mul_of_nonneg_right
def xbY:=@Int.add_zero
def xbZ:=@Int.dvd_mul_right
def xbc:=@Int.zero_mul
def xbw:=@Int.dvd_trans
def xbz:=@Nat.le_of_not_lt
def xcA:=@Int.emod_emod_of_dvd
def xcH:=@Int.emod_nonneg
def xcI:=@Int.zero_add
def xcK:=@Int.dvd_mul_left
def xcO:=@Int.mul_one
def xcQ:=@Nat.succ_mul
def xcY:=@Int.mul_assoc
def xcd:=@Int.mul_emod
def xce:=@Int.pow_zero
def xcm:=@Int.natAbs_dvd_natAbs
def xcx:=@Int.mul_nonneg
def xdE:=@Int.dvd_zero
def xdF:=@Nat.gcd_comm
def xdK:=@Int.emod_lt_of_pos
def xdd:=@Int.one_mul
def xdf:=@Int.sub_zero
def xdg:=@Nat.gcd_dvd_right
def xdl:=@Int.natCast_dvd_natCast
def xdm:=@List.pairwise_append
def xdt:=@Int.dvd_sub
def xeQ:=@Int.mul_eq_zero
def xeY:=@Nat.gcd_dvd_left
def xei:=@Int.dvd_refl
def xej:=@Int.sub_self
def xfL:=@Nat.pow_lt_pow_right
def xfU:=@Int.mul_dvd_mul
def xfV:=@Int.le_refl
def xfj:=@Int.natCast_add
def xfx:=@Int.mul_add
def xfy:=@Nat.lt_trichotomy
section
variable{b v1 v0 u w q r fu y s lo:wL}
theorem zjw(a:q*v1+r=u)(h:q*v0<=b*r+w):q*(v1*b+v0)<=u*b+w:=by grind [xcp,xbn,xbk,xaS]
theorem zev(a:q*v1+r=u)(h:b*r+w<q*v0):u*b+w<q*(v1*b+v0):=by grind [xcp,xbn,xbk,xaS]
def AX(hv:0<v1*b+v0)(a:q*v1+r=u)(hc:(u*b+w)/(v1*b+v0)<=q:=by lia)(h:q*v0<=b*r+w:=by lia):q=(u*b+w)/(v1*b+v0):=
 xcF ((xcu hv).2<|zjw a h) hc
theorem ziT(hv:0<v1*b+v0)(a:q*v1+r=u)(h:b*r+w<q*v0):(u*b+w)/(v1*b+v0)<=q-1/\0<q/\(q-1)*v1+(r+v1)=u:=by
 have h0:0<q:=by
  obtain h0|h0:=xct q
  simp_all;exact h0
 have h1:=(xaX hv).2<|zev a h;obtain⟨p,rfl⟩:∃p,q=p+1:=⟨q-1,W⟩;grind
theorem zcr(a:u<v1*b+v0)(c:v0<b)(hc:q*v1+r=u)(d:b<=r):q<b:=by refine xdp λh=> ?_;have:b*v1<=q*v1:=xac _ h;grind
def zbl(a:q<b)(c:v0<b)(d:b<=r):q*v0<=b*r+w:=by have h1:=xcf (xdC a)<|xdC c;have e:b*b<=b*r:=xaG _ d;lia
theorem dK(a:u<v1*b+v0)(c:w<b:=by lia):(u*b+w)/(v1*b+v0)<b:=by
 have hv:0<v1*b+v0:=W
 rw[xaX hv];have:(u+1)*b<=(v1*b+v0)*b:=xac _ a;grind
def GW{β:Type}(mk:K->K->β)(ms:β->K)(hc:∀q r,ms (mk q r)=2-r/2147483648){f:(β->V K)->β->V K}(h1:2147483648<=v1)(z:v1<4294967296)(h0:v0<4294967296)(g:u<v1*4294967296+v0)(l:w<4294967296)(B:10<fu)(m:∀(q r:K) (L:β->V K),q<18446744073709551616->r<4294967296->q*v0<18446744073709551616\/4294967296<=q->
 f L (mk q r)=if 4294967296<=q then(if 4294967296<=r+v1 then Z (q-1)else L (mk (q-1)<|r+v1))else if 4294967296*r+w<q*v0 then(if 4294967296<=r+v1 then Z (q-1)else L (mk (q-1)<|r+v1))else Z q):
 zg f fu (mk (u/v1)<|u%v1)=Z ((u*4294967296+w)/(v1*4294967296+v0)):=by
 have hv:0<v1*4294967296+v0:=W
 have C:=dK g l;have hi:u/v1<18446744073709551616:=by rw[xaX W];lia
 refine zB (λs:β=>∃q r,s=mk q r/\q<18446744073709551616/\r<4294967296/\q*v1+r=u/\(u*4294967296+w)/(v1*4294967296+v0)<=q) ms _ ?_ _ _ ⟨_,_,O,hi,?_,?_,?_⟩<|by rw[hc];lia
 rintro s L ⟨q,r,rfl,n,o,i,t⟩ j;have v:q*v0<18446744073709551616\/4294967296<=q:=by
  obtain h|h:=xbU q 4294967296
  left;exact xbS (a:=q) (b:=v0) (c:=4294967296) (d:=4294967296) h h0;exact .inr h
 rw[m q r L n o v];by_cases k:4294967296<=q;rw[iq k];have hd:(q-1)*v1+(r+v1)=u:=by obtain⟨p,rfl⟩:∃p,q=p+1:=⟨q-1,W⟩;rw[xbk]at i;simp only[Nat.add_sub_cancel];lia
 by_cases e:4294967296<=r+v1;rw[iq e,<-AX hv hd W<|zbl (zcr g h0 hd e) h0 e];rw[S e];exact j _ ⟨_,_,O,W,W,hd,W⟩<|by rw[hc,hc];lia
 rw[S k];by_cases ht:4294967296*r+w<q*v0;have⟨d1,d2,d3⟩:=ziT hv i ht;rw[iq ht];by_cases e:4294967296<=r+v1;rw[iq e,<-AX hv d3 d1<|zbl (zcr g h0 d3 e) h0 e];rw[S e];exact j _ ⟨_,_,O,W,W,d3,d1⟩<|by rw[hc,hc];lia
 rw[S ht,<-AX hv i t];have:=xaP u (W:0<v1);lia;rw[xaS];exact xbu u v1;rw[xcu W];have x:(u*4294967296+w)/(v1*4294967296+v0)*(v1*4294967296+v0)<=u*4294967296+w:=xcG _ _;generalize(u*4294967296+w)/(v1*4294967296+v0)=Q at*
 rw[xcp,<-xbn]at x;generalize Q*v1=A at*
 lia
theorem Oz{x:K}(h:y<2^s):x*2^s|||y=x*2^s+y:=by grind [xaS,Nat.two_pow_add_eq_or_of_lt]
def Ti(h0:0<y)(h:y<18446744073709551616):bl y<=64/\9223372036854775808<=y*2^(64-bl y)/\y*2^(64-bl y)<18446744073709551616:=by
 have h1:=bU (k:=64) (by simpa using h);have a:=E5 y;refine⟨h1,?_,?_⟩;have hp:1<=bl y:=by rw[lD h0];lia
 have c:2^(bl y-1)<=y:=by refine xbz λhc=> ?_;have:=bU hc;lia
 have e:9223372036854775808=2^(bl y-1)*2^(64-bl y):=by rw[<-xbg,(W:bl y-1+(64-bl y)=63)]
 rw[e];exact xac _ c;have e:18446744073709551616=2^bl y*2^(64-bl y):=by rw[<-xbg,(W:bl y+(64-bl y)=64)]
 rw[e];exact xbN a<|xaY rx
def zac(a:lo<18446744073709551616)(c:s<=64):lo*2^s=lo/2^(64-s)*18446744073709551616+lo*2^s%18446744073709551616/\lo/2^(64-s)<2^s:=by
 have e:18446744073709551616=2^(64-s)*2^s:=by rw[<-xbg,(W:64-s+s=64)]
 have hp:0<2^s:=xaY rx;have d:lo*2^s/18446744073709551616=lo/2^(64-s):=by rw[e,xfE _ _ hp]
 refine⟨W,?_⟩;rw[xaX (xaY rx),xaS,<-e];exact a
theorem pk{x w1 w0:K}(a:0<y)(c:0<b)(d:w0<b):((x*b+w1)*b+w0)/y=(x*b+w1)/y*b+((x*b+w1)%y*b+w0)/y/\((x*b+w1)*b+w0)%y=((x*b+w1)%y*b+w0)%y:=by
 generalize x*b+w1=X;have h:=xbu X y;have e:X*b+w0=X%y*b+w0+y*(X/y*b):=by grind
 rw[e];constructor;rw[xcz _ _ a];lia;simp_all
def zq7{a:K}(c:a<4294967296)(d:b<4294967296):(a*4294967296%18446744073709551616+b)%18446744073709551616=a*4294967296+b:=W
theorem kG{x:K}(a:x<18446744073709551616):xK fu x=Z ((64-bl x:K):J):=by unfold xK;have h:=bU (k:=64) (by simpa using a);rw[Y<|q9 a,zb];grind
def QH{hi:K}(hn:lo<18446744073709551616)(G:y<18446744073709551616)(R:hi<y)(H:10<fu):
 jh fu hi lo y=Z ((hi*18446744073709551616+lo)/y,(hi*18446744073709551616+lo)%y):=by
 unfold jh;rw[zG,zG];by_cases h0:hi=0
 subst h0;rw[Q O,y9,F,y9,F,xcC,xaD];rw[zG,za<|kG G];have⟨n1,n2,l⟩:=Ti (y:=y) W G;have⟨s,T⟩:∃s,s=64-bl y:=⟨_,O⟩;rw[<-T]at n2 l⊢;have U:s<=64:=W
 have eu:Ec (s:J)=s:=by have:=FJ (x:=(s:J)) W W;lia
 have em:min (s:J).toNat 64=s:=W
 have e8:(64+18446744073709551616-s)%18446744073709551616=64-s:=W
 have n:min (((64-s:K):K):J).toNat 64=64-s:=W
 have⟨Y,c⟩:∃Y,Y=y*2^s:=⟨_,O⟩;rw[<-c]at n2 l;have⟨w1,w2⟩:=zac hn U;have hp:0<2^s:=xaY rx;have hz:hi*2^s+2^s<=Y:=by have:(hi+1)*2^s<=y*2^s:=xac _ R;rw[xbk,xcN]at this;rw[c];exact this
 simp only[nm,eu,em,e8,n,GV,Gm];rw[<-c,xap l,xap (W:hi*2^s<18446744073709551616),Oz w2];have⟨u,o⟩:∃u,u=hi*2^s+lo/2^(64-s):=⟨_,O⟩;have⟨t,ht⟩:∃t,t=lo*2^s%18446744073709551616:=⟨_,O⟩;have hv:t<18446744073709551616:=by rw[ht];exact xaP _ rx
 rw[<-o,<-ht];have hd:u<Y:=W
 have ho:(hi*18446744073709551616+lo)*2^s=u*18446744073709551616+t:=by rw[xbk,w1,o,<-ht,xbk,Nat.mul_right_comm];lia
 have e:Y=Y/4294967296*4294967296+Y%4294967296:=W
 have M:2147483648<=Y/4294967296:=W
 have N:Y/4294967296<4294967296:=W
 have a0:Y%4294967296<4294967296:=W
 have step:∀{u w:K},u<Y->w<4294967296->(u*4294967296+w)/(Y/4294967296*4294967296+Y%4294967296)=(u*4294967296+w)/Y:=by intro u w _ _;rw[<-e]
 have ew:Y/2^32=Y/4294967296:=O;have et:t/2^32=t/4294967296:=O;rw[ew,et,y9];have f:∀{u:K},u<Y->(u+18446744073709551616-u/(Y/4294967296)*(Y/4294967296)%18446744073709551616)%18446744073709551616=u%(Y/4294967296):=by
  intro u o;have h1:=xbu u<|Y/4294967296;rw[xaS]at h1;have p:u/(Y/4294967296)*(Y/4294967296)<=u:=W
  rw[xap (W:u/(Y/4294967296)*(Y/4294967296)<18446744073709551616)];lia
 have body:∀{q r w:K},q<18446744073709551616->r<4294967296->w<4294967296->(q*(Y%4294967296)<18446744073709551616\/4294967296<=q)->∀(A B C:V K),(4294967296<=r+Y/4294967296->A=Z (q-1))->(¬4294967296<=r+Y/4294967296->A=B)->C=Z q->
  (if((4294967296:K):J)<=(q:J)then A else if(((4294967296*r%18446744073709551616+w)%18446744073709551616:K):J)<((q*(Y%4294967296)%18446744073709551616:K):J)then A else C)=
  if 4294967296<=q then(if 4294967296<=r+Y/4294967296 then Z (q-1)else B)else if 4294967296*r+w<q*(Y%4294967296)then(if 4294967296<=r+Y/4294967296 then Z (q-1)else B)else Z q:=by
  intro q r w d k hw g A B C h1 p h3;have hA:A=if 4294967296<=r+Y/4294967296 then Z (q-1)else B:=by
   split
   next h=>exact h1 h
   next h=>exact p h
  rw[<-hA,h3];by_cases v:4294967296<=q;rw[yg,Q v];have e3:(q*(Y%4294967296))%18446744073709551616=q*(Y%4294967296):=xap<|g.resolve_right v;have e4:(4294967296*r%18446744073709551616+w)%18446744073709551616=4294967296*r+w:=W
  rw[zG,S v,e3,e4];by_cases P:4294967296*r+w<q*(Y%4294967296);rw[yg,Q P];rw[zG,S P]
 have L0:zg (jI fu (Y/4294967296) (Y%4294967296)<|t/4294967296) fu (u/(Y/4294967296),u%(Y/4294967296))=Z ((u*4294967296+t/4294967296)/Y):=by
  rw[<-step hd (by lia:t/4294967296<4294967296)];refine GW (λq r=>(q,r)) (λs=>2-s.2/2147483648) (λ_ _=>O) (w:=t/4294967296) M N a0 (by rw[<-e];exact hd) W H ?_;intro q r L d k g;have e1:(r+Y/4294967296)%18446744073709551616=r+Y/4294967296:=W
  by_cases hc:q=0
  subst hc;unfold jI;simp only[nm,xcC,Nat.zero_mod];rw[zG,zG,zG,zG]
  have z:(q+18446744073709551616-1)%18446744073709551616=q-1:=W
  refine Eq.trans ?_<|body d k W g (if 4294967296<=r+Y/4294967296 then Z (q-1)else L (q-1,r+Y/4294967296)) _ _ (λh=>Q h) (λh=>S h) O;unfold jI;simp only[nm,e1,z];have D:∀(X:V K),(if((4294967296:K):J)<=((r+Y/4294967296:K):J)then Z (q-1)else X)=if 4294967296<=r+Y/4294967296 then Z (q-1)else X:=by intro X;by_cases h:4294967296<=r+Y/4294967296;rw[yg,Q h];rw[zG,S h]
  rw[D]
 have i:∀{x q:K},x/Y=q->∀{m:K},m=x%18446744073709551616->(m+18446744073709551616-q*Y%18446744073709551616)%18446744073709551616=x%Y:=by intro x q d m hm;have h1:=xbu x Y;rw[d,xaS]at h1;have p:=xaP x (W:0<Y);lia
 rw[f hd,za L0,i O (x:=u*4294967296+t/4294967296) W];have⟨a,E⟩:∃a,a=(u*4294967296+t/4294967296)%Y:=⟨_,O⟩;have j:a<Y:=by rw[E];exact xaP _ W
 rw[<-E,y9,f j];have L1:zg (jF fu (Y/4294967296) (Y%4294967296)<|t%4294967296) fu (a%(Y/4294967296),a/(Y/4294967296))=Z ((a*4294967296+t%4294967296)/Y):=by
  rw[<-step j (by lia:t%4294967296<4294967296)];refine GW (λq r=>(r,q)) (λs=>2-s.1/2147483648) (λ_ _=>O) (w:=t%4294967296) M N a0 (by rw[<-e];exact j) W H ?_;intro q r L d k g;have e1:(r+Y/4294967296)%18446744073709551616=r+Y/4294967296:=W
  by_cases hc:q=0
  subst hc;unfold jF;simp only[nm,xcC,Nat.zero_mod];rw[zG,zG,zG,zG]
  have z:(q+18446744073709551616-1)%18446744073709551616=q-1:=W
  refine Eq.trans ?_<|body d k W g (if 4294967296<=r+Y/4294967296 then Z (q-1)else L (r+Y/4294967296,q-1)) _ _ (λh=>Q h) (λh=>S h) O;unfold jF;simp only[nm,e1,z];have D:∀(X:V K),(if((4294967296:K):J)<=((r+Y/4294967296:K):J)then Z (q-1)else X)=if 4294967296<=r+Y/4294967296 then Z (q-1)else X:=by intro X;by_cases h:4294967296<=r+Y/4294967296;rw[yg,Q h];rw[zG,S h]
  rw[D]
 rw[za L1,i O (x:=a*4294967296+t%4294967296) W];have hl:=dK (b:=4294967296) (v1:=Y/4294967296) (v0:=Y%4294967296) (u:=u) (w:=t/4294967296) (by rw[<-e];exact hd);rw[step hd W]at hl;have hc:=dK (b:=4294967296) (v1:=Y/4294967296) (v0:=Y%4294967296) (u:=a) (w:=t%4294967296) (by rw[<-e];exact j);rw[step j W]at hc;have⟨k1,k2⟩:=pk (x:=u) (b:=4294967296) (y:=Y) (w1:=t/4294967296) (w0:=t%4294967296) W rx W;rw[<-E]at k1 k2;have eU:(u*4294967296+t/4294967296)*4294967296+t%4294967296=(hi*18446744073709551616+lo)*2^s:=by rw[ho];lia
 rw[eU,c,xfE _ _ hp,<-c]at k1;rw[eU,c,xeg,<-c]at k2;rw[k1,<-k2,Nat.mul_div_cancel _ hp];rw[zq7 hl hc]
end
section
variable{fu s:wL}{a:ww wL}
def zc6{m x:K}{l:N K}:(So (m+1) 0++l).set m x=So m 0++(x::l):=by rw[List.replicate_succ'];simp_all
def L3(k n:K):vy (k+1) n=n%18446744073709551616::vy k (n/18446744073709551616):=O
def Aq{q r:K}(h:r<18446744073709551616):(q*18446744073709551616+r)%18446744073709551616=r/\(q*18446744073709551616+r)/18446744073709551616=q:=W
theorem BC(A m:K):A/18446744073709551616^m=A/18446744073709551616^(m+1)*18446744073709551616+A/18446744073709551616^m%18446744073709551616:=by grind [KE]
def FQ{x:K}(c:zp a)(i:x<18446744073709551616)(h0:0<x)(hl:X a<=1000000)(o:2000000<fu):ah fu a x=Z (yI<|P a/x,P a%x):=by
 unfold ah;rw[yF,y9,F,zb];have f:=vd c;have d:zg (aQ fu a x) fu (0,(X a:J)-1,So (X a) 0)=Z (P a%x,vy (X a)<|P a/x):=by
  refine zB (λs:K×J×N K=>∃m:K,m<=X a/\s=(P a/18446744073709551616^m%x,(m:J)-1,So m 0++vy (X a-m) (P a/18446744073709551616^m/x))) (λs=>(s.2.1+1).toNat) _ ?_ _ _ ⟨X a,Nm _,?_⟩ (by show((X a:J)-1+1).toNat<fu;lia);rintro s L ⟨m,p,rfl⟩ j;unfold aQ;simp only
  cases m with
  |zero=>
   simp_all
  |succ m=>
   have e:((m+1:K):J)-1=(m:J):=W
   have hc:=c.getD m;have hd:P a/18446744073709551616^(m+1)%x<x:=xaP _ h0;have k:a.getD m 0=P a/18446744073709551616^m%18446744073709551616:=aj c m;have g:=BC (P a) m;rw[<-k]at g;rw[yg,e,yn,F,Y<|QH hc i hd W];have⟨k1,k2⟩:=pk (x:=0) (b:=18446744073709551616) (y:=x) (w1:=P a/18446744073709551616^(m+1)) (w0:=a.getD m 0) h0 rx hc;rw[xcC,xaD,<-g]at k1 k2;rw[zm (by simp;lia),F,zb,zc6,<-k2];refine j _ ⟨m,W,?_⟩ (by show((m:J)-1+1).toNat<(((m+1:K):J)-1+1).toNat;lia);have h:(P a/18446744073709551616^(m+1)%x*18446744073709551616+a.getD m 0)/x<18446744073709551616:=by rw[xaX h0];have:(P a/18446744073709551616^(m+1)%x+1)*18446744073709551616<=x*18446744073709551616:=xac _ hd;rw[xaS 18446744073709551616 x];lia
   have l:X a-m=(X a-(m+1))+1:=W
   rw[k1,l,L3];congr 3;rw[(Aq h).1,(Aq h).2]
  rw[xbj f,Nat.zero_div,Nat.zero_mod,xck];simp[vy]
 rw[Y d];have n:P a/x<18446744073709551616^X a:=xaI (xcD _ _) f;simp only;rw[Y (xr (wq _ _) (by rw[yc];lia)<|by rw[yc];lia),kS,xap n]
def LA(b:s<=64):(18446744073709551616:K)=2^(64-s)*2^s:=by rw[<-xbg,(W:64-s+s=64)]
theorem Rs{y c:K}(f:y<18446744073709551616)(d:s<64)(hc:c<2^s):y*2^s%18446744073709551616|||c=(y*2^s+c)%18446744073709551616/\y/2/2^(63-s)=(y*2^s+c)/18446744073709551616/\(y*2^s+c)/18446744073709551616<2^s:=by
 have⟨w1,h⟩:=zac f<|xdC d;have hp:0<2^s:=xaY rx;have e:=LA<|xdC d;have b:y*2^s%18446744073709551616=y%2^(64-s)*2^s:=by rw[e,xeg]
 have h1:y%2^(64-s)*2^s+2^s<=18446744073709551616:=by rw[e];have:=xac (2^s)<|xaP y<|xaY (n:=64-s) (rx:0<2);grind
 have g:y/2/2^(63-s)=y/2^(64-s):=by rw[xaF,(pM:64-s=63-s+1),xbA,xaS 2]
 refine⟨?_,?_,?_⟩;rw[b,Oz hc];rw[b]at w1;generalize y%2^(64-s)*2^s=A at*
 generalize y*2^s=i at*
 generalize y/2^(64-s)=W at*
 lia;rw[g];rw[b]at w1;generalize y%2^(64-s)*2^s=A at*
 generalize y*2^s=i at*
 generalize y/2^(64-s)=W at*
 lia;rw[b]at w1;generalize y%2^(64-s)*2^s=A at*
 generalize y*2^s=i at*
 generalize y/2^(64-s)=W at*
 lia
def pR{a:N K}{s:K}(b:zp a)(c:s<64):∀k,(vI (gM a<|2^s) k).2<2^s
 |0=>xaY rx
 |k+1=>(Rs (b.getD k) c<|pR b c k).2.2
def LN:(2:K)^64=18446744073709551616:=rx
def Ju{n:K}(b:zp a)(hl:X a<=1000000:=by lia)(hn:n<=262144:=by lia)(j:2000000<fu:=by lia):W6 fu a (n:J)=Z (yI<|P a*2^n,0):=by
 unfold W6;have⟨s,l⟩:∃s,s=n%64:=⟨_,O⟩;have hd:s<64:=W
 rw[zG,zG,Y<|jX (step:=gM a<|2^s) W W ?_];have m:=pR b hd (X a);have d:2^s<18446744073709551616:=by rw[<-LN];exact xfL rx hd
 have e1:xdv (n:J) 64=((n/64:K):J):=O;simp only;rw[xN (by have:=wz (gM a<|2^s) (X a);simp[this];lia),F,xN rx,e1,zb,SV W];rw[Y (Kq W<|by rw[yc];lia),Y (xr ((zp.replicate _).append<|wq _ _) (by simp[yc];lia)<|by simp[yc];lia),DP,kS,xap<|Eg b d];congr 3;rw[<-LN,<-xcg,xaS<|2^_,xbn,<-xbg];congr 2;lia;intro k c;have hc:=pR b hd k;have⟨l1,e,o⟩:=Rs (b.getD k) hd hc;unfold mq;have e1:xcB (n:J) 64=((n%64:K):J):=O;have f:min (((1:K):J)).toNat 64=1:=rx
 have g:min ((n%64:K):J).toNat 64=s:=W
 have h:(63:J)-((n%64:K):J)=((63-s:K):J):=W
 have i:min ((63-s:K):J).toNat 64=63-s:=W
 rw[zm c,F,xN rx,F,e1,y9,F,g,F,zm c,F,F,f,xN rx,F,h,zb,y9,F,i,l1];rw[show(2:K)^1=2 from O,e];rfl
def Mg{step:K->K->K×K}{X:K}(h:∀k,step k 0=(X/18446744073709551616^k%18446744073709551616,0)):∀n,vI step n=(vy n X,0)
 |0=>rfl
 |n+1=>by
  have b:=Mg h n;unfold vI;rw[b,h,cV]
def zja{A k:K}(f:s<64):A/18446744073709551616^k%18446744073709551616/2^s|||A/18446744073709551616^(k+1)%18446744073709551616*2%18446744073709551616*2^(63-s)%18446744073709551616=A/2^s/18446744073709551616^k%18446744073709551616:=by
 have e:=LA<|xdC f;have hp:0<2^s:=xaY rx;have j:0<2^(64-s):=xaY rx;have h1:=BC A k;have e0:A/18446744073709551616^(k+1)=A/18446744073709551616^k/18446744073709551616:=by rw[xbA,xaF]
 rw[xaF,xaS<|2^s,<-xaF];rw[e0]at h1⊢;generalize A/18446744073709551616^k=X at*
 have e1:X/18446744073709551616%18446744073709551616*2%18446744073709551616*2^(63-s)%18446744073709551616=X/18446744073709551616%2^s*2^(64-s):=by
  rw[Nat.mod_mul_mod,xbn,<-xdQ,(W:(63-s).succ=64-s)];rw[Nat.mod_mul_mod];generalize X/18446744073709551616=V;conv=>lhs;rw[e,xaS (2^(64-s))<|2^s]
  rw[xeg]
 have g:X%18446744073709551616/2^s<2^(64-s):=by rw[xaX hp,<-e];exact xaP _ rx
 rw[e1,Nat.or_comm,Oz g];have b:X/2^s=X/18446744073709551616*2^(64-s)+X%18446744073709551616/2^s:=by
  have c:=xbu X 18446744073709551616;have h:X=X%18446744073709551616+2^s*(X/18446744073709551616*2^(64-s)):=by
   have:2^s*(X/18446744073709551616*2^(64-s))=18446744073709551616*(X/18446744073709551616):=by rw[e,xaS<|X/_,<-xbn,xaS<|2^s]
   lia
  conv=>lhs;rw[h]
  rw[xcz _ _ hp];lia
 rw[b];have d:X/18446744073709551616*2^(64-s)=X/18446744073709551616%2^s*2^(64-s)+18446744073709551616*(X/18446744073709551616/2^s):=by
  have c:=xbu (X/18446744073709551616)<|2^s;conv=>lhs;rw[<-c]
  rw[xbk,e,xaS (2^(64-s))<|2^s,xbn,xbn,xaS (2^(64-s))<|_/_];lia
 have l:X/18446744073709551616%2^s*2^(64-s)+2^(64-s)<=18446744073709551616:=by generalize X/18446744073709551616=V;rw[e,xaS (2^(64-s))<|2^s];have:=xac (2^(64-s))<|xaP V hp;rw[xcQ]at this;exact this
 have i:X/18446744073709551616%2^s*2^(64-s)+X%18446744073709551616/2^s<18446744073709551616:=by
  clear d b e1 e0 h1;generalize X/18446744073709551616%2^s*2^(64-s)=m at*
  generalize X%18446744073709551616/2^s=V at*
  lia
 rw[d,Nat.add_right_comm,xco,xap i]
theorem sM{n:K}(b:zp a)(hl:Ap a<=1000000)(hn:n<=1000000000)(q:2000000<fu):cM fu a (n:J)=Z (yI<|P a/2^n):=by
 unfold cM;have e0:max (n:J) 0=(n:J):=W
 have e1:xdv (n:J) 64=((n/64:K):J):=O;have e:xcB (n:J) 64=((n%64:K):J):=O;have f:=vd b;have hc:2^n=18446744073709551616^(n/64)*2^(n%64):=by rw[<-LN,<-xcg,<-xbg];grind
 rw[F,e0,xN rx,e1,zb];by_cases h:Ap a<=n/64;rw[yg];have:P a/2^n=0:=by rw[hc,<-xaF,xbj<|xag f<|xam rx h,Nat.zero_div]
 rw[this];rfl;rw[zG,xN rx,zb,yF,y9,F,xN rx,F,e];have hd:=b.drop<|n/64;have hv:P (a.drop<|n/64)=P a/18446744073709551616^(n/64):=Nw b _;have⟨D,c⟩:∃D,D=a.drop (n/64):=⟨_,O⟩;rw[<-c]at hd hv⊢;have r:Ap D<=1000000:=by rw[c,xch];lia
 have⟨s,d⟩:∃s,s=n%64:=⟨_,O⟩;have g:s<64:=W
 have jD:=Mg (step:=λk _=>(P D/2^s/18446744073709551616^k%18446744073709551616,0)) (X:=P D/2^s)<|λ_=>O;rw[<-d,Y<|jX (step:=λk _=>(P D/2^s/18446744073709551616^k%18446744073709551616,0)) W W ?_];rw[jD];simp only;rw[Y (xr (wq _ _) (by rw[yc];lia)<|by rw[yc];lia),kS,xap<|xaI (xcD _ _)<|vd hd,hv,hc,<-xaF,d];intro k i;rw[jD];unfold fX;have j:min (((1:K):J)).toNat 64=1:=rx
 have l:min (s:J).toNat 64=s:=W
 have m:(63:J)-(s:J)=((63-s:K):J):=W
 have o:min ((63-s:K):J).toNat 64=63-s:=W
 have p:(k:J)+1=((k+1:K):J):=W
 rw[zm i,F,y9,F,l,p,zb,Y (QK D W),F,j,m,zb,y9,F,o,F,aj hd,aj hd,show(2:K)^1=2 from O,zja g]
end
def zbZ{fu u w v1 v0:K}(h1:9223372036854775808<=v1)(i:v1<18446744073709551616)(h0:v0<18446744073709551616)(e:u<v1*18446744073709551616+v0)(j:w<18446744073709551616)(b:u/v1<18446744073709551616)(k:10<fu):
 zg (bu fu w v1 v0) fu (u/v1,u%v1)=Z ((u*18446744073709551616+w)/(v1*18446744073709551616+v0)):=by
 have hv:0<v1*18446744073709551616+v0:=W
 refine zB (λs:K×K=>∃q r,s=(q,r)/\q<18446744073709551616/\r<18446744073709551616/\q*v1+r=u/\(u*18446744073709551616+w)/(v1*18446744073709551616+v0)<=q) (λs=>2-s.2/9223372036854775808) _ ?_ _ _ ⟨_,_,O,b,?_,?_,?_⟩ (by show 2-u%v1/9223372036854775808<fu;lia);rintro s L ⟨q,r,rfl,b,l,c,hc⟩ f;have m:q*v0<18446744073709551616*18446744073709551616:=xbS b h0;have a:∀(hd:18446744073709551616*r+w<q*v0),(if((0:K):J)<(((r+v1+0)/18446744073709551616:K):J)then Z ((q+18446744073709551616-1)%18446744073709551616)else L ((q+18446744073709551616-1)%18446744073709551616,(r+v1+0)%18446744073709551616))=Z ((u*18446744073709551616+w)/(v1*18446744073709551616+v0)):=by
  intro hd;have⟨d1,d2,d3⟩:=ziT hv c hd;have g:(q+18446744073709551616-1)%18446744073709551616=q-1:=W
  rw[g];by_cases d:18446744073709551616<=r+v1;rw[yg,<-AX hv d3 d1<|zbl (zcr e h0 d3 d) h0 d];rw[zG];exact f _ ⟨_,_,O,W,W,by rw[(W:(r+v1+0)%18446744073709551616=r+v1)];exact d3,d1⟩ (by show 2-(r+v1+0)%18446744073709551616/9223372036854775808<2-r/9223372036854775808;lia)
 unfold bu;simp only;rw[Y<|VT b h0];simp only[B];by_cases c1:q*v0/18446744073709551616<r;rw[yg,<-AX hv c hc];rw[zG];by_cases c2:q*v0/18446744073709551616=r;rw[yg];by_cases n:q*v0%18446744073709551616<=w;rw[yg,<-AX hv c hc];rw[zG,y9];exact a W
 rw[zG,y9];exact a W
 have:=xaP u (W:0<v1);lia;rw[xaS];exact xbu u v1;rw[xcu W];have h:(u*18446744073709551616+w)/(v1*18446744073709551616+v0)*(v1*18446744073709551616+v0)<=u*18446744073709551616+w:=xcG _ _;generalize(u*18446744073709551616+w)/(v1*18446744073709551616+v0)=Q at*
 rw[xcp,<-xbn]at h;generalize Q*v1=A at*
 lia
def Gx{fu a b c v1 v0:K}(h1:9223372036854775808<=v1)(d:v1<18446744073709551616)(h0:v0<18446744073709551616)(b1:b<18446744073709551616)(b0:c<18446744073709551616)(e:10<fu):
 U6 fu a b c v1 v0=Z (if v1<=a then 18446744073709551615 else((a*18446744073709551616+b)*18446744073709551616+c)/(v1*18446744073709551616+v0)):=by
 unfold U6;by_cases h:v1<=a;simp_all;have f:(a*18446744073709551616+b)/v1<18446744073709551616:=by rw[xaX W];lia
 rw[zG,S h,Y<|QH b1 d W e];simp only;rw[Y<|zbZ h1 d h0 ?_ b0 f e];lia
def zlT{u v d q:K}(hd:0<d)(hv:0<v/d)(h:q*v<=u):q<=u/d/(v/d):=by refine(xcu hv).2<|(xcu hd).2 ?_;refine xal ?_ h;rw[xbn];exact xaG _<|xcG v d
def zlJ{u v d x B:K}(hd:0<d)(a:x*(v/d)<=u/d)(b:x<=B)(hv:B*d<=v):x*v<=u+v:=by
 have h1:x*v<=x*(v/d*d+d):=xaG _ (by have h:=xbu v d;have:=xaP v hd;rw[xaS d]at h;lia);have c:x*(v/d*d+d)=x*(v/d)*d+x*d:=by rw[xcp,xbn]
 have e:=xal (xac _ a)<|xcG u d;have f:x*d<=B*d:=xac _ b;lia
def zbP{U V D:K}(b:0<D)(d:9223372036854775808*(18446744073709551616*D)<=V)(j:V<18446744073709551616*(18446744073709551616*D))(e:U<V*18446744073709551616){x:K}
 (a:x=if V/D/18446744073709551616<=U/D/18446744073709551616/18446744073709551616 then 18446744073709551615 else U/D/(V/D)):U/V<=x/\x<=U/V+1/\x<18446744073709551616:=by
 have hc:0<V:=W
 have k:U/V<18446744073709551616:=by rw[xaX hc,xaS];exact e
 have l:9223372036854775808*18446744073709551616<=V/D:=by rw[xcu b,xbn];exact d
 have up:∀{x:K},x*V<=U+V->x<=U/V+1:=λ{x} h=>by
  have:x<=(U+V)/V:=(xcu hc).2 h;simp_all
 by_cases h:V/D/18446744073709551616<=U/D/18446744073709551616/18446744073709551616;rw[Q h]at a;subst a;refine⟨W,up ?_,rx⟩;have e1:V/D/18446744073709551616=V/(D*18446744073709551616):=xaF ..;have f:U/D/18446744073709551616/18446744073709551616=U/(D*18446744073709551616*18446744073709551616):=by rw[xaF,xaF,<-xbn]
 rw[e1,f]at h;have g:0<D*18446744073709551616:=W
 have k1:=xcG U<|D*18446744073709551616*18446744073709551616;have k2:V<(V/(D*18446744073709551616)+1)*(D*18446744073709551616):=by have h1:=xbu V<|D*18446744073709551616;have m:=xaP V g;rw[xbk,xcN,xaS];lia
 have k3:V/(D*18446744073709551616)*(D*18446744073709551616*18446744073709551616)<=U:=xal (xac _ h) k1;rw[<-xbn]at k3;have k4:18446744073709551615*V<=18446744073709551615*((V/(D*18446744073709551616)+1)*(D*18446744073709551616)):=xaG _<|xdC k2;rw[xbk,xcN]at k4;generalize V/(D*18446744073709551616)*(D*18446744073709551616)=A at*
 lia;rw[S h]at a;have hd:x<=18446744073709551616:=by
  rw[a];have c:U/D/18446744073709551616/18446744073709551616<V/D/18446744073709551616:=xdp h;have h1:U/D<(V/D)*18446744073709551616+18446744073709551616*18446744073709551616:=W
  have:U/D<=18446744073709551616*(V/D)+(V/D):=W
  refine Nat.le_of_lt_succ<|(xaX W).2 ?_;rw[xcQ];lia
 have i:U/V<=x:=by rw[a];exact zlT b W<|xcG U V
 have c:x<18446744073709551616:=by rw[a,xaX W];have c:U/D/18446744073709551616/18446744073709551616<V/D/18446744073709551616:=xdp h;lia
 refine⟨i,up<|zlJ b (B:=18446744073709551616) ?_ hd ?_,c⟩;rw[a];exact xcG _ _;lia
section
variable{fu V k y:wL}{s:wF}{v:ww wL}
def H8{n P x0:K}{t:N K}(hv:zp v)(a:X v=n)(b:nv v=V)(ht:zp t)(o:X t=n+1)(d:nv t=P)(hd:0<V)(h1:P/V<=x0)(e:x0<=P/V+1)(f:x0<18446744073709551616)(hn:n<=500000)(p:2000000<fu):
 zg (lN fu v) fu (s,(n:J),x0,t)=Z (s,(n:J),P/V,t):=by
 have g:V<18446744073709551616^n:=by rw[<-b,<-a];exact vd hv
 refine zB (λq:J×J×K×N K=>∃x,q=(s,(n:J),x,t)/\P/V<=x/\x<=P/V+1/\x<18446744073709551616) (λq=>q.2.2.1-P/V) _ ?_ _ _ ⟨x0,O,h1,e,f⟩ (by show x0-P/V<fu;lia);rintro q L ⟨x,rfl,g1,r,i⟩ j;unfold lN;simp only;have l:V*x<18446744073709551616^(n+1):=by
  rw[xbA]
  calc V*x<=V*18446744073709551616:=xaG _ W
   _<_:=xbN g rx
 rw[Y<|dV hv i,Y (eo (wq _ _) ht<|by rw[yc];lia),kS,b,a,xap l,d];have u:=xbu P V;have hl:=xaP P hd;by_cases h:x=P/V;have w:V*x<=P:=by rw[h];lia
 have m:¬(0:J)<jE ((V*x:K):J) (P:J):=by
  rcases xbU (V*x) P with hh|hh
  rw[qP W];decide;rw[kN W];decide
 rw[S m,h];have c:x=P/V+1:=W
 have hi:P<V*x:=by rw[c,xcp,xeF];lia
 have z:0<x:=by rw[c];exact Nat.succ_pos _
 have hc:(P:J)<((V*x:K):J):=Int.ofNat_lt.2 hi;rw[vK hc,Q rx,F,(W:(x+18446744073709551616-1)%18446744073709551616=x-1)];exact j _ ⟨x-1,O,W,W,W⟩ (by show x-1-P/V<x-P/V;lia)
def zfO{t:N K}{j:K}(ht:zp t)(hl:X t<=k)(a:k<=j):(t++So j 0).take k=vy k (P t):=by refine BN ((ht.append<|zp.replicate _).take _) (wq _ _) (by rw[yc,xas,xau,xaN];lia) ?_;rw[Db<|ht.append<|zp.replicate _,uA,JQ,xdo,xbT,kS]
def zfq{n e a:K}{t:N K}{L:N K×J×N K×N K->wN (N K×N K)}(hv:zp v)(hl:X v=n)(m:nv v=V)(hS:2<=n)(hc:9223372036854775808*18446744073709551616^(n-1)<=V)(ht:zp t)(hU:X t=e+n)(hk:k<e)(hb:e+n<=500000)(hf:2000000<fu)(hT:nv t=a/18446744073709551616^(k+1)%V*18446744073709551616^(k+1)+a%18446744073709551616^(k+1)):
 ∃o,zp o/\X o=e+n/\nv o=a/18446744073709551616^k%V*18446744073709551616^k+a%18446744073709551616^k/\
  Qk fu s v L (v,(k:J),t,So (k+1) 0++vy (e-(k+1)) (a/18446744073709551616^(k+1)/V))=L (v,(k:J)-1,o,So k 0++vy (e-k) (a/18446744073709551616^k/V)):=by
 have hd:V<18446744073709551616^n:=by rw[<-m,<-hl];exact vd hv
 have M:0<18446744073709551616^k:=xaY rx;have g:0<V:=by have:0<18446744073709551616^(n-1):=xaY rx;lia
 have⟨T,hn⟩:∃T,T=a/18446744073709551616^(k+1)%V:=⟨_,O⟩;have⟨f,u⟩:∃f,f=a/18446744073709551616^k%18446744073709551616:=⟨_,O⟩;have hp:f<18446744073709551616:=by rw[u];exact xaP _ rx
 have hJ:T<V:=by rw[hn];exact xaP _ g
 have⟨P,Q⟩:∃P,P=T*18446744073709551616+f:=⟨_,O⟩;have R:=BC a k;rw[<-u]at R;have⟨k1,k2⟩:=pk (x:=0) (b:=18446744073709551616) (y:=V) (w1:=a/18446744073709551616^(k+1)) (w0:=f) g rx hp;rw[xcC,xaD,<-R,<-hn,<-Q]at k1 k2;have hA:a%18446744073709551616^(k+1)=f*18446744073709551616^k+a%18446744073709551616^k:=by rw[xbA,Nat.mod_mul,u,xaS];lia
 have q:P<V*18446744073709551616:=by have:(T+1)*18446744073709551616<=V*18446744073709551616:=xac _ hJ;lia
 have S:nv t=P*18446744073709551616^k+a%18446744073709551616^k:=by rw[hT,<-hn,hA,Q,xbk,xbA,xaS<|18446744073709551616^k,xbn];lia
 have hC:=xaP a M;have z:nv t/18446744073709551616^k=P:=by rw[S,xdA,Nat.add_mul_div_right _ _ M,xbj hC,xaD]
 have hK:nv t%18446744073709551616^k=a%18446744073709551616^k:=by rw[S,xdA,Nat.add_mul_mod_self_right,Nat.mod_mod]
 have⟨D,r⟩:∃D,D=18446744073709551616^(n-2):=⟨_,O⟩;have hL:0<D:=by rw[r];exact xaY rx
 have c:18446744073709551616^(n-1)=18446744073709551616*D:=by rw[r,<-xdQ,(W:(n-2).succ=n-1)]
 have U:18446744073709551616^n=18446744073709551616*(18446744073709551616*D):=by rw[<-c,<-xdQ,(W:(n-1).succ=n)]
 rw[c]at hc;have A:=hd;rw[U]at A;have B:∀j,t.getD (k+j) 0=P/18446744073709551616^j%18446744073709551616:=λj=>by rw[aj ht,xbg,<-xaF,z]
 have gv:∀j,v.getD j 0=V/18446744073709551616^j%18446744073709551616:=λj=>by rw[aj hv,m]
 have h:P/18446744073709551616^n=P/D/18446744073709551616/18446744073709551616:=by rw[U,xaF,xaF];congr 1;lia
 have i:P/18446744073709551616^(n-1)=P/D/18446744073709551616:=by rw[c,xaF,xaS D]
 have d:V/18446744073709551616^(n-1)=V/D/18446744073709551616:=by rw[c,xaF,xaS D]
 have hM:P/D/18446744073709551616/18446744073709551616<18446744073709551616:=by rw[<-h,xaX (xaY rx),xaS];exact xfe q<|xbN hd rx
 have hE:V/D/18446744073709551616<18446744073709551616:=by rw[<-d,xaX (xaY rx),c];exact A
 have hr:9223372036854775808<=V/D/18446744073709551616:=by rw[<-d,xcu (xaY rx),c];exact hc
 have m1:t.getD (k+n) 0=P/D/18446744073709551616/18446744073709551616:=by rw[B,h,xap hM]
 have m2:t.getD (k+n-1) 0=P/D/18446744073709551616%18446744073709551616:=by rw[(W:k+n-1=k+(n-1)),B,i]
 have m3:t.getD (k+n-2) 0=P/D%18446744073709551616:=by rw[(W:k+n-2=k+(n-2)),B,<-r]
 have m4:v.getD (n-1) 0=V/D/18446744073709551616:=by rw[gv,d,xap hE]
 have m5:v.getD (n-2) 0=V/D%18446744073709551616:=by rw[gv,<-r]
 have eg:((P/D/18446744073709551616/18446744073709551616*18446744073709551616+P/D/18446744073709551616%18446744073709551616)*18446744073709551616+P/D%18446744073709551616)/(V/D/18446744073709551616*18446744073709551616+V/D%18446744073709551616)=P/D/(V/D):=by generalize P/D=p;generalize V/D=w;rw[(W:(p/18446744073709551616/18446744073709551616*18446744073709551616+p/18446744073709551616%18446744073709551616)*18446744073709551616+p%18446744073709551616=p),(W:w/18446744073709551616*18446744073709551616+w%18446744073709551616=w)]
 have⟨x0,hF⟩:∃x0,x0=if V/D/18446744073709551616<=P/D/18446744073709551616/18446744073709551616 then 18446744073709551615 else P/D/(V/D):=⟨_,O⟩;have⟨n1,n2,n3⟩:=zbP hL hc A q hF;have hG:zp (xdB (k+n+1-k)<|xdN k t):=(ht.drop k).take _;have C:X (xdB (k+n+1-k)<|xdN k t)=n+1:=by rw[xas,xch];lia
 have E:P<18446744073709551616^(n+1):=by rw[xbA];exact xfe q<|xbN hd rx
 have hi:nv (xdB (k+n+1-k)<|xdN k t)=P:=by rw[Db<|ht.drop k,Nw ht,z,(W:k+n+1-k=n+1),xap E]
 have G:P/V<18446744073709551616:=by rw[xaX g,xaS];exact q
 have hH:V*(P/V)<=P:=Nat.mul_div_le P V;have hI:nv (vy (n+1)<|V*(P/V))=V*(P/V):=by rw[kS,xap W]
 have hN:P-V*(P/V)=P%V:=by have:=xbu P V;lia
 have hQ:=xaP P g;have hR:X (yI<|P%V)<=n:=(zL _ _).2 W;refine⟨xdB k t++vy (n+1) (P%V)++xdN (k+(n+1)) t,((ht.take _).append<|wq _ _).append<|ht.drop _,?_,?_,?_⟩;rw[xau,xau,xas,yc,xch];lia;have hz:nv (xdN (k+(n+1)) t)=0:=by rw[Nw ht,xbg,<-xaF,z,xbj E]
 have hO:P%V<18446744073709551616^(n+1):=xaI (Nat.mod_le _ _) E;rw[uA,hz,xdo,xbT,uA,Db ht,hK,kS,xap hO,xas,(W:min k (X t)=k),<-k2,xaS];lia;unfold Qk;simp only;have c1:(k:J)+(X v:J)=((k+n:K):J):=W
 have c2:((k+n:K):J)-1=((k+n-1:K):J):=W
 have c3:((k+n:K):J)-2=((k+n-2:K):J):=W
 have c4:(X v:J)-1=((n-1:K):J):=W
 have c5:(X v:J)-2=((n-2:K):J):=W
 have c6:((k+n:K):J)+1=((k+n+1:K):J):=W
 rw[yg,c1,zb,yn,F,zb,c2,zb,yn,F,zb,c3,zb,yn,F,c4,zb,yn,F,c5,zb,yn,F];rw[m1,m2,m3,m4,m5,Y (Gx hr hE (xaP _ rx) (xaP _ rx) (xaP _ rx) W),eg,<-hF];rw[zb,c6,zb,yF,yF,xN ⟨W,W⟩,F,xN (by rw[C];simp;lia),F,xbM];rw[hl,Y<|H8 hv hl m hG C hi g n1 n2 n3 W hf];simp only;have c7:(n:J)+1=((n+1:K):J):=W
 rw[zm (by simp;lia),F,zc6,yF,y9,Y<|dV hv G,hl,m,Y (bg hG (wq _ _) W (by rw[yc];lia) (by rw[C,yc];lia)<|by rw[hi,hI];exact hH),hi,hI,hN];rw[c7,zb,yF,y9,F,zb,yF,xN rC,F,zfO (zt _) W<|Nm _,zV,F,zb];have H:ou k (X t-k) t (vy (n+1)<|P%V)=xdB k t++vy (n+1) (P%V)++xdN (k+(n+1)) t:=by unfold ou;rw[yc,(W:min (n+1) (X t-k)=n+1),xaW (l:=vy (n+1)<|P%V)<|by rw[yc];exact Nm _]
 rw[H];have e2:e-k=(e-(k+1))+1:=W
 have e3:vy (e-k) (a/18446744073709551616^k/V)=P/V::vy (e-(k+1)) (a/18446744073709551616^(k+1)/V):=by rw[e2,L3,k1,(Aq G).1,(Aq G).2]
 rw[e3]
theorem zbn(h:0<y):2^(bl y-1)<=y:=by refine xbz λa=> ?_;have h1:=bU a;grind
theorem zmI{n s:K}(a:0<y)(hn:n=X (yI y))(f:s=64-bl ((yI y).getD (n-1) 0)):s<=63/\9223372036854775808*18446744073709551616^(n-1)<=y*2^s/\y*2^s<18446744073709551616^n/\X (yI<|y*2^s)=n:=by
 have hc:=qk a;have c:=S7 a;rw[<-hn]at c;have ht:(yI y).getD (n-1) 0≠0:=by rw[hn];exact ziC a
 have d:=(zt y).getD<|n-1;have⟨b1,_,_⟩:=Ti (y:=(yI y).getD (n-1) 0) W d;have b2:1<=bl ((yI y).getD (n-1) 0):=by rw[lD];lia
 have e1:18446744073709551616^n=2^bl y*2^s:=by rw[<-LN,<-xcg,<-xbg];grind
 have e:9223372036854775808*18446744073709551616^(n-1)=2^(bl y-1)*2^s:=by rw[<-LN,<-xcg,<-xbg,(rx:(9223372036854775808:K)=2^63),<-xbg];grind
 have g1:9223372036854775808*18446744073709551616^(n-1)<=y*2^s:=by rw[e];exact xac _<|zbn a
 have b:y*2^s<18446744073709551616^n:=by rw[e1];exact xbN (E5 y)<|xaY rx
 refine⟨W,g1,b,xcF ((zL _ _).2 b)<|xbz λh=> ?_⟩;have:=(zL (n-1)<|y*2^s).1 W;have hp:0<18446744073709551616^(n-1):=xaY rx;lia
def sK{a b:N K}(r:zp a)(u:zp b)(hD:X a<=200000)(hE:X b<=200000)(hf:3000000<=fu):
 cz fu a b=Z (if P b=0 then([],[],3)else(yI<|P a/P b,yI<|P a%P b,0)):=by
 unfold cz;have h1:=xe r;have h2:=xe u;rw[Y (wc r W W),Y<|wc u W W];generalize P a=x at*
 generalize P b=y at*
 by_cases h0:y=0
 subst h0;rw[Q O];rfl;have hF:=qk (n:=y) W;rw[zG,Y O,S h0];simp only[xaj,Z5];rw[Y<|eo (zt x)<|zt y,zV,zV];by_cases w:x<y;rw[qP W,Q rx,Y O];simp only[Z4];rw[Y<|Vs<|zt x,zV,xbj w,xap w];rfl;have hv:¬jE (x:J) (y:J)<0:=by
  obtain h|h:=xbU y x
  rw[vK W];decide;rw[kN W];decide
 rw[S hv,Y O];simp only[xaj,Z5];have⟨n,hn⟩:∃n,n=X (yI y):=⟨_,O⟩;have hi:=(zt y).getD<|n-1;by_cases hB:n=1
 have M:(yI y).getD 0 0=y:=by rw[Qy,xfd,xer,xap];have:=(zL 1 y).1 W;simpa using this
 have R:y<18446744073709551616:=by have:=(zL 1 y).1 W;simpa using this
 rw[yg,show(0:J)=((0:K):J)from O,yn,F,M,Y (FQ (zt x) R W W W),zV];simp only;have T:=xaP x (W:0<y);rw[Y (xr (bT W) rC<|by simp;lia),Bj];have⟨s,z⟩:∃s,s=64-bl ((yI y).getD (n-1) 0):=⟨_,O⟩;have⟨f,v1,A,v3⟩:=zmI W hn z;have⟨V,g⟩:∃V,V=y*2^s:=⟨_,O⟩;have⟨U,e⟩:∃U,U=x*2^s:=⟨_,O⟩;have⟨d,hy⟩:∃d,d=X (yI x):=⟨_,O⟩;have hC:n<=d:=by rw[hn,hy];exact K7 W
 have B:x<18446744073709551616^d:=(zL d x).1 W;have hl:2^s<=9223372036854775808:=by rw[(rx:(9223372036854775808:K)=2^63)];exact xam rx f
 have hz:U<18446744073709551616^(d+1):=by rw[e,xbA];exact xag (xbN B<|xaY rx)<|xaG _ W
 have hG:X (yI U)<=d+1:=(zL _ _).2 hz;rw[<-g]at v1 A v3;have e1:(((X (yI y):K):J))-1=((n-1:K):J):=W
 rw[zG,e1,zb,yn,F,Y<|kG hi,<-z,Y<|Ju<|zt y,zV,<-g];simp only;rw[Y<|Ju<|zt x,zV,<-e];simp only;have e2:(((X (yI x):K):J))+1=((d+1:K):J):=W
 have e3:((d+1:K):J)-((X (yI U):K):J)=((d+1-X (yI U):K):J):=W
 rw[e2,zb,e3,zb,yF,y9,F];have⟨t8,hc⟩:∃t8,t8=yI U++So (d+1-X (yI U)) 0:=⟨_,O⟩;have i:zp t8:=by rw[hc];exact(zt U).append<|zp.replicate _
 have a0:X t8=d+1:=by rw[hc,xau,xaN];lia
 have j:P t8=U:=by rw[hc,uA,JQ,xdo,xbT,zV]
 have⟨c,hH⟩:∃c,c=d+1-n:=⟨_,O⟩;have e4:(X t8:J)-((X (yI V):K):J)=(c:J):=W
 rw[<-hc,e4,zb,yF,y9,F,xaN,zb];have C:0<V:=by have:0<18446744073709551616^(n-1):=xaY rx;lia
 have hA:0<18446744073709551616^c:=xaY rx;have D:U<18446744073709551616^c*V:=by
  have k1:18446744073709551616^c*(9223372036854775808*18446744073709551616^(n-1))<=18446744073709551616^c*V:=xaG _ v1;have k2:18446744073709551616^c*(9223372036854775808*18446744073709551616^(n-1))=18446744073709551616^d*9223372036854775808:=by rw[xaS 9223372036854775808,<-xbn,<-xbg];congr 2;lia
  have k3:U<18446744073709551616^d*9223372036854775808:=by rw[e];exact xag (xbN B<|xaY rx)<|xaG _ hl
  lia
 have E:U/18446744073709551616^c<V:=by rw[xaX hA,xaS];exact D
 have l:∃t,zp t/\X t=c+n/\P t=U%V/\zg (Qk fu (s:J)<|yI V) fu (yI V,(c:J)-1,t8,So c 0)=Z (t,vy c<|U/V):=by
  refine⟨vy (c+n)<|U%V,wq _ _,yc _ _,?_,?_⟩;rw[kS,xap];have h5:=xaP U C;exact xag (xfe h5 A)<|xam rx W
  refine zB (λq:N K×J×N K×N K=>∃(m:K) (t:N K),m<=c/\zp t/\X t=c+n/\P t=U/18446744073709551616^m%V*18446744073709551616^m+U%18446744073709551616^m/\q=(yI V,(m:J)-1,t,So m 0++vy (c-m) (U/18446744073709551616^m/V))) (λq=>(q.2.1+1).toNat) _ ?_ _ _ ⟨c,t8,Nm _,i,W,?_,?_⟩ (by show((c:J)-1+1).toNat<fu;lia);rintro q L ⟨m,t,T,ht,G,hd,rfl⟩ ih
  cases m with
  |zero=>
   unfold Qk;simp only;rw[zG];rw[xfd,xeF,Nat.mod_one,xbT,xer]at hd;have:=ny ht;rw[G,hd]at this;rw[this];simp
  |succ m=>
   have⟨t',g1,H,o,p⟩:=zfq (fu:=fu) (k:=m) (s:=(s:J)) (L:=L) (zt V) v3 (zV V) W v1 ht G W W W hd;rw[(W:((m+1:K):J)-1=(m:J)),p];exact ih _ ⟨m,t',W,g1,H,o,O⟩ (by show((m:J)-1+1).toNat<(((m+1:K):J)-1+1).toNat;lia)
  rw[j,xap E,xaS];exact(xbu U _).symm;rw[xbj E,xck];simp[vy]
 have⟨t,g1,H,o,p⟩:=l;rw[Y p];simp only;have he:U/V<18446744073709551616^c:=by rw[xaX C];exact D
 have hp:0<2^s:=xaY rx;rw[Y (xr (wq _ _) (by rw[yc];lia)<|by rw[yc];lia),kS,xap he,Y (sM g1 W W W),o];rw[e,g,xfE _ _ hp,xeg,Nat.mul_div_cancel _ hp]
end
section
variable{i d0 fu U y j r:wL}
theorem OC{x t:N K}{c:K}(ht:X t=i)(h:nw t+4294967296^i*c=2*nw (x.take i)+d0):
 nw (t++[(x.getD i 0*2+c)%4294967296])+4294967296^(i+1)*((x.getD i 0*2+c)/4294967296)=2*nw (x.take<|i+1)+d0:=by
 rw[Da,kX];have:=xbu (x.getD i 0*2+c) 4294967296;grind
def zkN{x t1 t2:N K}(f:xi x)(hl:X x<=1000000)(hd:d0<=1)(u:2000000<fu):
 ∃t d,zg (aJ fu x) fu (t1,t2,[],d0,0)=Z (t1,t2,t,d)/\xi (t++[d])/\X t=X x/\nw (t++[d])=2*nw x+d0:=by
 have v:=Jh f;have⟨T,b⟩:∃T,T=ue (X x+1) (2*nw x+d0):=⟨_,O⟩;have m:2*nw x+d0<4294967296^(X x+1):=by rw[xbA];lia
 have n:X T=X x+1:=by rw[b,yS]
 have g:nw T=2*nw x+d0:=by rw[b,X7,xap m]
 have h:xi T:=by rw[b];exact qZ _ _
 have k:T=T.take (X x)++[T.getD (X x) 0]:=by
  have e:=(xbG (X x) T).symm;have a:T.drop (X x)=[T.getD (X x) 0]:=by rw[xbX W,xbQ W,UV,xaa W];rfl
  rw[a]at e;exact e
 refine⟨T.take (X x),T.getD (X x) 0,?_,by rw[<-k];exact h,by rw[xas];lia,by rw[<-k];exact g⟩;refine zB (λs:N K×N K×N K×K×J=>∃(t:N K) (c i:K),s=(t1,t2,t,c,(i:J))/\i<=X x/\X t=i/\xi t/\c<=1/\nw t+4294967296^i*c=2*nw (x.take i)+d0) (λs=>X x-s.2.2.2.2.toNat) _ ?_ _ _ ⟨[],d0,0,O,W,O,xi.nil,hd,by simp[nw]⟩ (by show X x-0<fu;lia);rintro s L ⟨t,c,i,rfl,hi,ht,l,hc,hv⟩ o;unfold aJ;simp only;by_cases h1:i<X x;have b1:=f.getD i;have a:(x.getD i 0*2%18446744073709551616+c)%18446744073709551616=x.getD i 0*2+c:=W
 have p:x.getD i 0/2^(min (((31:K)):J).toNat 64)=(x.getD i 0*2+c)/4294967296:=by rw[(rx:min (((31:K)):J).toNat 64=31)];lia
 rw[yg,zm h1,F,F,F,a,F,GV,xN (by simp[ht];lia),F,zm h1,F,F,p,zb];exact o _ ⟨_,_,i+1,O,W,by simp[ht],l.append<|xi.cons (xaP _ rx) xi.nil,W,OC ht hv⟩ (by show X x-((i:J)+1).toNat<X x-(i:J).toNat;lia);rw[zG];obtain rfl:i=X x:=W
 rw[xbR]at hv;have q:xi (t++[c]):=l.append<|xi.cons W xi.nil;have:T=t++[c]:=by refine FW h q (by simp[ht,n]) ?_;rw[g,Da,ht,hv]
 have e1:T.take (X x)=t:=by rw[this,<-ht];simp
 have a:T.getD (X x) 0=c:=by rw[this,<-ht];simp[UV]
 rw[e1,a]
theorem zn5(b:0<y):(y<=2*(U/2^(i+1)%y)+U/2^i%2->U/2^i/y=2*(U/2^(i+1)/y)+1/\U/2^i%y=2*(U/2^(i+1)%y)+U/2^i%2-y)/\(2*(U/2^(i+1)%y)+U/2^i%2<y->U/2^i/y=2*(U/2^(i+1)/y)/\U/2^i%y=2*(U/2^(i+1)%y)+U/2^i%2):=by
 have d:U/2^(i+1)=U/2^i/2:=by rw[xbA,xaF]
 rw[d];generalize U/2^i=V;have h1:=xbu (V/2) y;have e:=xaP (V/2) b;generalize V/2/y=q at*
 generalize V/2%y=r at*
 have a:∀Q R,V=y*Q+R->R<y->V/y=Q/\V%y=R:=λQ R h c=>by
  rw[h];exact⟨by rw[Nat.mul_add_div b,xbj c,xbT],by rw[Nat.mul_add_mod,xap c]⟩
 refine⟨λh=>a _ _ ?_ W,λh=>a _ _ ?_ W⟩;grind;grind
def ztN(x:K):x &&& 1=x%2:=Nat.and_two_pow_sub_one_eq_mod x 1
def zfC(a:r<32):U/4294967296^j%4294967296/2^r%2=U/2^(32*j+r)%2:=by rw[xbg,xcg,(rx:2^32=4294967296),<-xaF];rw[show 4294967296=2^r*2^(32-r)by rw[<-xbg,(W:r+(32-r)=32)],Nat.mod_mul_right_div_self,show 2^(32-r)=2*2^(31-r)by rw[<-xdQ,(W:(31-r).succ=32-r)],Nat.mod_mul_right_mod]
def zoN{Q:K}(d:r<32):(Q*2^(32*j+r+1)/4294967296^j%4294967296)|||1*2^r%18446744073709551616=Q*2^(32*j+r+1)/4294967296^j%4294967296+2^r/\Q*2^(32*j+r+1)/4294967296^j%4294967296+2^r<4294967296:=by
 have e1:Q*2^(32*j+r+1)/4294967296^j=Q*2^(r+1):=by rw[xcV,xbg,xcg,(rx:(2:K)^32=4294967296),xfw,Nat.mul_div_cancel_left _<|xaY rx]
 have b:Q*2^(r+1)%4294967296=Q%2^(31-r)*2^(r+1):=by rw[show(4294967296:K)=2^(31-r)*2^(r+1)by rw[<-xbg,(W:31-r+(r+1)=32)],xeg]
 have h1:2^r<2^(r+1):=xfL rx W;have e:2^r<=2147483648:=by rw[(rx:(2147483648:K)=2^31)];exact xam rx W
 rw[e1,b,xcN,xap (a:=2^r) W,Oz h1];refine⟨O,?_⟩;have c:(Q%2^(31-r)+1)*2^(r+1)<=2^(31-r)*2^(r+1):=xac _ (xaP _<|xaY rx);rw[<-xbg,(W:31-r+(r+1)=32),xbk,xcN]at c;lia
def zhs(k:0<y)(hu:X (Qe U)<=80000)(ht:X (Qe y)<=80000)(hf:3000000<=fu):
 zg (aG fu (Qe y)<|Qe U) fu ([],32*((X (Qe U):K):J)-1,So (X (Qe U)) 0)=Z (Qe<|U%y,ue (X (Qe U))<|U/y):=by
 have⟨n,hn⟩:∃n,n=X (Qe U):=⟨_,O⟩;have c:U<2^(32*n):=by rw[xcg,(rx:(2:K)^32=4294967296)];exact(vk _ _).1 W
 rw[<-hn];refine zB (λs:N K×J×N K=>∃(m:K),m<=32*n/\s=(Qe<|U/2^m%y,(m:J)-1,ue n<|U/2^m/y*2^m)) (λs=>(s.2.1+1).toNat) _ ?_ _ _ ⟨32*n,Nm _,?_⟩ (by show(32*(n:J)-1+1).toNat<fu;lia);rintro s L ⟨m,hm,rfl⟩ l;unfold aG;simp only
 cases m with
 |zero=>rw[zG,xfd,xer,xeF]
 |succ i=>
  have⟨j,z⟩:∃j,j=i/32:=⟨_,O⟩;have⟨r,A⟩:∃r,r=i%32:=⟨_,O⟩;have hd:r<32:=W
  have hi:i=32*j+r:=W
  have B:((i+1:K):J)-1=(i:J):=W
  have C:xdv (i:J) (32:J)=(j:J):=by rw[z];rfl
  have D:xcB (i:J) (32:J)=(r:J):=by rw[A];rfl
  have b:j<n:=W
  have a:min (r:J).toNat 64=r:=W
  have hv:(Qe U).getD j 0=U/4294967296^j%4294967296:=by rw[eD<|qH U,qW]
  have E:(Qe U).getD j 0/2^r%2=U/2^i%2:=by rw[hv,zfC hd,<-hi]
  have o:=xaP (U/2^(i+1)) k;have⟨R,e⟩:∃R,R=U/2^(i+1)%y:=⟨_,O⟩;rw[<-e]at o;have G:y<4294967296^X (Qe y):=(vk _ _).1<|Nm _;have hB:X (Qe R)<=80000:=xal ((vk (X (Qe y)) R).2<|xfe o G) ht;have hl:X (Qe<|2*R+U/2^i%2)<=1000000:=by refine xal ((vk (X (Qe y)+1) _).2 ?_) (W:X (Qe y)+1<=1000000);rw[xbA];lia
  have⟨t,d,g1,H,f,p⟩:=zkN (fu:=fu) (d0:=U/2^i%2) (t1:=Qe y) (t2:=Qe U) (qH R) W W W;rw[qW]at p;have⟨q,u⟩:=zn5 (U:=U) (i:=i) k;rw[<-e]at q u;have M:U/2^(i+1)/y*2^(i+1)<4294967296^n:=by rw[show(4294967296:K)^n=2^(32*n)by rw[xcg,(rx:(2:K)^32=4294967296)]];refine xaI ?_ c;exact xal (xac _<|xcD _ _)<|xcG _ _
  have v:2*(U/2^(i+1)/y)*2^i=U/2^(i+1)/y*2^(i+1):=by rw[xbA,xaS<|2^i,<-xbn,xaS 2]
  rw[B,<-e,yg,xN rx,C,zb,yn,F,xN rx,D,F,y9,F,a,F,ztN,E];rw[Y g1];simp only;rw[xN (by simp[f];lia),F,Y (K3 H (by simp[f];lia)<|by simp[f];lia),p,Y (Kz (fu:=fu) (qH _) (qH y) ?_ W W),qW,qW];by_cases hc:y<=2*R+U/2^i%2;have⟨w1,g⟩:=q hc;have P:(0:J)<=jE ((2*R+U/2^i%2:K):J) (y:J):=by
   rcases xbU y (2*R+U/2^i%2)with h|h
   rw[vK<|Int.ofNat_lt.2 h];decide;rw[kN<|by rw[xcF h hc]];decide
  have⟨o1,o2⟩:=zoN (Q:=U/2^(i+1)/y) (j:=j) hd;rw[<-hi]at o1 o2;have w:(ue n<|U/2^(i+1)/y*2^(i+1)).getD j 0=U/2^(i+1)/y*2^(i+1)/4294967296^j%4294967296:=LZ _ _ _ b;have hp:(ue n<|U/2^(i+1)/y*2^(i+1)).set j (U/2^(i+1)/y*2^(i+1)/4294967296^j%4294967296+2^r)=ue n (U/2^i/y*2^i):=by
   refine FW ((qZ _ _).set j o2) (qZ _ _) (by rw[xbe,yS,yS]) ?_;have h1:=O7 (ue n<|U/2^(i+1)/y*2^(i+1)) j (U/2^(i+1)/y*2^(i+1)/4294967296^j%4294967296+2^r) (by rw[yS];exact b);rw[w,X7,xap M,xcp]at h1;have h2:4294967296^j*2^r=2^i:=by rw[hi,xbg,xcg,(rx:(2:K)^32=4294967296)]
   have T:U/2^i/y*2^i=U/2^(i+1)/y*2^(i+1)+2^i:=by rw[w1,xbk,xcN,v]
   have V:U/2^i/y*2^i<4294967296^n:=by rw[show(4294967296:K)^n=2^(32*n)by rw[xcg,(rx:(2:K)^32=4294967296)]];refine xaI ?_ c;exact xal (xac _<|xcD _ _)<|xcG _ _
   rw[X7,xap V,T];lia
  rw[iq P,Y O,iq O,Y (eG (fu:=fu) (qH _) (qH y) hl W<|by rw[qW,qW];exact hc),qW,qW];rw[xN rx,zb,xN rx,zb,zm (by rw[yS];exact b),F,xN rx,F,y9,a,F,F,w,o1,zm (by rw[yS];exact b),F,hp,zb,<-g];exact l _ ⟨i,W,O⟩ (by show((i:J)-1+1).toNat<(((i+1:K):J)-1+1).toNat;lia);have x:=xdp hc;have⟨w1,g⟩:=u x;rw[qP<|Int.ofNat_lt.2 x,S rx,Y O];simp only[xaj,Z5];rw[zb,<-g,<-v,<-w1];exact l _ ⟨i,W,O⟩ (by show((i:J)-1+1).toNat<(((i+1:K):J)-1+1).toNat;lia);exact hl
 rw[xbj c,Nat.zero_mod,Nat.zero_div,xcC,AI,iA,(W:(32:J)*(n:J)-1=((32*n:K):J)-1)]
def Fu{a b:N K}(c:zp a)(d:zp b)(hd:X a<=40000)(h:X b<=40000)(e:3000000<=fu):
 ax fu a b=Z (if P b=0 then([],[],3)else(yI<|P a/P b,yI<|P a%P b,0)):=by
 unfold ax;have l1:=QD c;have k:=QD d;have f:=x8 (fu:=fu) c;rw[Y<|x8 d];generalize P a=U at*
 generalize P b=y at*
 by_cases h0:y=0
 subst h0;rfl;have l:=zam (n:=y) W;have hc:U<4294967296^X (Qe U):=(vk _ _).1<|Nm _;have hi:X (Qe<|U%y)<=X (Qe y):=(vk _ _).2<|xfe (xaP _ W)<|(vk _ _).1<|Nm _;rw[zG,S h0,Y f,yF,y9,F,zb,zb,Y<|zhs W W W e];simp only;have g:U/y<4294967296^X (Qe U):=xaI (xcD _ _) hc;rw[Y (jO (qZ _ _) (by rw[yS];lia)<|by rw[yS];lia),X7,xap g,Y (jO (qH _) W W),qW]
end
section
variable{k fu:wL}{y:wF}{a b m:Zr}
def fF(z:U):Prop:=zp z.2/\X z.2<=40000
theorem fF.ok{z:U}(h:fF z):fW z:=⟨h.1,xal h.2 rx⟩
def Bz.okS{x:J}(h:Bz k x)(c:k<=40000):fF (yC x):=⟨yx x,xal ((zL _ _).2 h) c⟩
def Bz.len{x:J}(h:Bz k x):(yC x).2.length<=k:=(zL _ _).2 h
theorem zcO{x q r:J}(c:y≠0)(h:y*q+r=x)(h0:0<=r:=by lia)(h1:r<(y.natAbs:J):=by lia):x/y=q/\x%y=r:=by grind [Int.ediv_emod_unique',Int.ediv_emod_unique]
def EV(x y:J):U×U×J:=if y=0 then((I,[]),(I,[]),3)else(yC<|x/y,yC<|x%y,0)
theorem zaA{q0 r0:K}(n:P b.2≠0)(j:q0=P a.2/P b.2)(f:r0=P a.2%P b.2):
 (¬(a.1=wT/\0<r0)->zv a/zv b=(if(!(a.1==b.1))=wT then-(q0:J)else(q0:J))/\zv a%zv b=(r0:J))/\
 (a.1=wT/\0<r0->zv a/zv b=(if(!(a.1==b.1))=wT then-((q0+1:K):J)else((q0+1:K):J))/\zv a%zv b=((P b.2-r0:K):J)):=by
 have hd:=xbu (P a.2)<|P b.2;have l:=xaP (P a.2) (W:0<P b.2);rw[<-j,<-f]at hd;rw[<-f]at l;have g:zv b≠0:=by have:=vM b;lia
 have o:=vM b;have hc:((P b.2:K):J)*(q0:J)+(r0:J)=((P a.2:K):J):=by rw[<-hd];simp
 refine⟨λh=> ?_,λh=> ?_⟩;refine zcO g ?_;rcases x9 a with⟨h1,e⟩|⟨h1,e⟩<;>rcases x9 b with⟨c,d⟩|⟨c,d⟩<;>rw[h1,c,e,d]
 grind;grind;rw[Q rx,Int.neg_mul_neg];lia;rw[S rx];lia;refine zcO g ?_;have⟨h1,hp⟩:=h;have e1:((P b.2-r0:K):J)=((P b.2:K):J)-(r0:J):=W
 have i:((P b.2:K):J)*(((q0+1:K)):J)=((P b.2:K):J)*(q0:J)+((P b.2:K):J):=by rw[xfj,xfx];simp
 rcases x9 a with⟨_,e⟩|⟨h,_⟩
 rcases x9 b with⟨c,d⟩|⟨c,d⟩<;>rw[h1,c,e,d,e1]
 rw[S rx,Int.neg_mul,i];lia;rw[Q rx,Int.mul_neg,i];lia;rw[h1]at h;cases h
theorem DI:zv b=0↔P b.2=0:=by have:=vM b;lia
theorem aV(d:fF a)(c:fF b)(j:3000000<=fu):Vc fu a b=Z (EV (zv a)<|zv b):=by
 unfold Vc EV;have l:=d.2;have i:=c.2;rw[Y<|sK d.1 c.1 W W j];by_cases h0:P b.2=0
 rw[Q h0,Q<|DI.2 h0];rfl;rw[S h0,S<|λh=>h0<|DI.1 h];simp only[Z4];have⟨q0,e⟩:∃q0,q0=P a.2/P b.2:=⟨_,O⟩;have⟨r0,f⟩:∃r0,r0=P a.2%P b.2:=⟨_,O⟩;have n:X (yI q0)<=40000:=by refine xal ((zL (X a.2) q0).2 ?_) l;rw[e];exact xaI (xcD _ _)<|vd d.1
 have hd:r0<P b.2:=by rw[f];exact xaP _ W
 have q:X (yI r0)<=40000:=xal ((zL (X b.2) r0).2<|xfe hd<|vd c.1) i;have o:X (yI<|P b.2-r0)<=40000:=xal ((zL (X b.2) _).2<|xaI (xfc _ _)<|vd c.1) i;have⟨k1,k2⟩:=zaA h0 e f;rw[<-e,<-f];have p:X (yI<|q0+1)<=40001:=ZC (y:=1) n rx;by_cases hc:a.1=wT/\0<r0;have⟨w1,g⟩:=k2 hc;have:=qk hc.2;rw[Q hc.1,yg,Y (v:=(yI<|q0+1,yI<|P b.2-r0))];rw[w1,g];simp only;rw[F,Y (yM (zt _) W W),Y (yM (zt _) W W),zV,zV];rfl;rw[Y (ZQ (zt _) (bT rx) W rC<|by simp;lia),zV,Bj,Y (Jy c.1 (zt _) W W W),zV,zG];have⟨w1,g⟩:=k1 hc;rw[Y (v:=(yI q0,yI r0))];rw[w1,g];simp only;rw[F,Y (yM (zt _) W W),Y (yM (zt _) W W),zV,zV];rfl;by_cases h1:a.1=wT;have:r0=0:=xfq λhp=>hc ⟨h1,hp⟩;subst this;rw[Q h1,S rx];rw[S h1]
def XN(e:fF a)(c:fF b)(d:3000000<=fu):Zm fu a b=Z (EV (zv a)<|zv b):=by
 unfold Zm EV;have l:=e.2;have j:=c.2;rw[Y<|Fu e.1 c.1 W W d];by_cases h0:P b.2=0
 rw[Q h0,Q<|DI.2 h0];rfl;rw[S h0,S<|λh=>h0<|DI.1 h];simp only[Z4];have⟨q0,f⟩:∃q0,q0=P a.2/P b.2:=⟨_,O⟩;have⟨r0,g⟩:∃r0,r0=P a.2%P b.2:=⟨_,O⟩;have n:X (yI q0)<=40000:=by refine xal ((zL (X a.2) q0).2 ?_) l;rw[f];exact xaI (xcD _ _)<|vd e.1
 have hd:r0<P b.2:=by rw[g];exact xaP _ W
 have q:X (yI r0)<=40000:=xal ((zL (X b.2) r0).2<|xfe hd<|vd c.1) j;have o:X (yI<|P b.2-r0)<=40000:=xal ((zL (X b.2) _).2<|xaI (xfc _ _)<|vd c.1) j;have⟨k1,k2⟩:=zaA h0 f g;rw[<-f,<-g];have p:X (yI<|q0+1)<=40001:=ZC (y:=1) n rx;by_cases hc:a.1=wT/\0<r0;have⟨w1,i⟩:=k2 hc;have:=qk hc.2;rw[Q hc.1,yg,Y (v:=(yI<|q0+1,yI<|P b.2-r0))];rw[w1,i];simp only;rw[F,Y<|yW (zt _) (by show(yI _).length<=_;lia) d,Y<|yW (zt _) (by show(yI _).length<=_;lia) d,Fh,Fh];rfl;rw[Y (iF (zt _) (bT rx) W rC W),zV,Bj,Y (KM c.1 (zt _) W W W),zV,zG];have⟨w1,i⟩:=k1 hc;rw[Y (v:=(yI q0,yI r0))];rw[w1,i];simp only;rw[F,Y<|yW (zt _) (by show(yI _).length<=_;lia) d,Y<|yW (zt _) (by show(yI _).length<=_;lia) d,Fh,Fh];rfl;by_cases h1:a.1=wT;have:r0=0:=xfq λhp=>hc ⟨h1,hp⟩;subst this;rw[Q h1,S rx];rw[S h1]
def Mh(x m:J):U×J:=if m<=0 then((I,[]),1)else(yC<|x%m,0)
def near(x m:J):J:=if m<x%m+x%m then x%m-m else x%m
def zg3(x m:J):U×J:=if m<=0 then((I,[]),1)else(yC<|near x m,0)
theorem Bz.emod{x m:J}(c:Bz k m)(h0:0<m):Bz k (x%m):=by have h1:=xcH x (W:m≠0);have d:=xdK x h0;exact c.le W
theorem Bz.near{k:K}{x m:J}(c:Bz k m)(h0:0<m):Bz k (near x m):=by have h1:=xcH x (W:m≠0);have d:=xdK x h0;refine c.le ?_;unfold Go.Proofs.YtoegnnjcmlghhaaGreat.near;lia
theorem PF{x:J}:jE x 0<=0↔x<=0:=by grind [qP,kN,vK]
theorem TV{x:J}:0<jE x y↔y<x:=by grind [qP,kN,vK]
theorem xm{x:J}:jE x y=0↔x=y:=by grind [qP,kN,vK]
theorem YC(c:fF a)(d:fF m)(e:3000000<=fu):q8 fu a m=Z (Mh (zv a)<|zv m):=by grind [q8,EV,Mh,Y,y5,fF.ok,PF,aV]
def C3(g:fF a)(d:fF m)(f:3000000<=fu):XX fu a m=Z (zg3 (zv a)<|zv m):=by
 unfold XX zg3;rw[Y<|YC g d f];unfold Mh;by_cases h:zv m<=0
 simp_all;have c:Bz 40000 (zv a%zv m):=Bz.emod ((Bz.of d.1).mono d.2) W;rw[S h,S h];simp only[Z4];have hl:=d.2;have i:=(c.add c).ok W;have j:=(c.add c).len;rw[Y<|qq (c.okS W).ok (c.okS W).ok f,zn,Y<|Yk i d.ok f,zn];unfold near;by_cases hc:zv m<zv a%zv m+zv a%zv m;rw[Q<|TV.2 hc,Q hc,Y<|qg (c.okS W).ok d.ok f,zn];rw[S<|λe=>hc<|TV.1 e,S hc]
end
section
variable{f g:wL->wF}{j m k fu:wL}{p:ww Zr}
def zi(n:K)(f:K->J):N U:=(xaC n).map λk=>yC<|f k
def cf(p:N U)(k:K):J:=zv<|p.getD k (I,[])
def dg(f:K->J):K->K
 |0=>0
 |n+1=>if f n=0 then dg f n else n+1
def wO(n:K)(f:K->J):N U:=zi (dg f n) f
def xa(k:K)(p:N U):Prop:=∀z∈p,zp z.2/\X z.2<=k
def XV(f:K->J)(j:K)(v:J):K->J:=λk=>if k=j then v else f k
theorem Qw(p:N U)(k:K):zv (p.getD k (I,[]))=cf p k:=O
theorem yw(n:K)(f:K->J):X (zi n f)=n:=by unfold zi;simp
theorem YJ{n:K}(h:j<n):(zi n f).getD j (I,[])=yC (f j):=by simp_all [zi]
theorem xc{n:K}(h:∀k,k<n->f k=g k):zi n f=zi n g:=by simp_all [zi]
theorem dp{n:K}{v:J}:(zi n f).set j (yC v)=zi n (XV f j v):=by refine xcv λi=> ?_;unfold zi XV;by_cases h:j=i;grind;grind
theorem zir:yC 0=(I,[]):=O
theorem db(n:K):So n (I,[])=zi n (λ_=>0):=by grind [zi,zir,List.map_const',xex]
theorem Dd{n:K}:zi n f++[yC<|f n]=zi (n+1) f:=by grind [zi,xcT]
theorem zaB{n:K}(h:j<n):cf (zi n f) j=f j:=by unfold cf;rw[YJ h,zn]
theorem ym(h:X p<=j):cf p j=0:=by unfold cf;rw[UV,xbh h];rfl
theorem Uj{n:K}(h:∀k,n<=k->f k=0)(j:K):cf (zi n f) j=f j:=by grind [zaB,ym,yw]
theorem qS(f:K->J):∀n,dg f n<=n
 |0=>Nm _
 |n+1=>by unfold dg;split;exact xal (qS f n)<|xbB _;exact Nm _
theorem QX(f:K->J):∀n k,dg f n<=k->k<n->f k=0
 |0,k,_,h=>jp h<|xbb _
 |n+1,k,h1,a=>by
  unfold dg at h1;split at h1;rename_i h0;by_cases b:k=n;simp_all;exact QX f n k h1 W
  lia
theorem Q2(f:K->J):∀n,dg f n≠0->f (dg f n-1)≠0
 |0,h=>jp O h
 |n+1,h=>by
  unfold dg at h⊢;split;rename_i h0;rw[Q h0]at h;exact Q2 f n h;simp_all
theorem aq{n d:K}(h1:d<=n)(b:∀k,d<=k->k<n->f k=0)(h3:d=0\/f (d-1)≠0):dg f n=d:=by
 have a:=qS f n;rcases xfy (dg f n) d with h|h|h
 obtain h3|h3:=h3
 lia;exact jp (QX f n (d-1) W W) h3;exact h;exact jp (b (dg f n-1) W W)<|Q2 f n W
theorem Xz{n:K}(b:∀k,n<=k->f k=0)(c:∀k,m<=k->g k=0)(h:∀k,f k=g k):wO n f=wO m g:=by
 have e:dg f n=dg g m:=by
  refine aq ?_ ?_ ?_;refine xbz λd=> ?_;have:=Q2 g m W;grind;intro k h1 i;rw[h];by_cases a:k<m;exact QX g m k h1 a;simp_all;by_cases h0:dg g m=0
  lia;right;rw[h];exact Q2 g m h0
 unfold wO;rw[e];exact xc λk _=>h k
theorem xE(n:K)(f:K->J):X (wO n f)=dg f n:=yw _ _
def j7{n:K}(h:∀k,n<=k->f k=0)(j:K):cf (wO n f) j=f j:=by refine Uj (λk a=> ?_) j;by_cases hn:k<n;exact QX f n k a hn;simp_all
def xa.get(h:xa k p)(j:K):zp (p.getD j (I,[])).2/\(p.getD j (I,[])).2.length<=k:=by rw[UV];by_cases a:j<X p;rw[xaa a];exact h _<|xby a;rw[xbh W];exact⟨zp.nil,xaf _⟩
theorem xa.okZ(h:xa k p)(a:k<=100000)(j:K):fW (p.getD j (I,[])):=⟨(h.get j).1,xal (h.get j).2 a⟩
def xa.okS(h:xa k p)(a:k<=40000)(j:K):fF (p.getD j (I,[])):=⟨(h.get j).1,xal (h.get j).2 a⟩
theorem xa.bz(h:xa k p)(j:K):Bz k (cf p j):=(Bz.of (h.get j).1).mono (h.get j).2
def xa.mono(h:xa j p)(b:j<=k):xa k p:=λz a=>⟨(h z a).1,xal (h z a).2 b⟩
theorem Bz.zero(k:K):Bz k 0:=xaY rx
def Xq{n:K}(h:∀j,Bz k<|f j):xa k (zi n f):=λz a=>by
 obtain⟨j,_,rfl⟩:=xat.1 a;exact⟨yx _,(h j).len⟩
def DG{a:J->U->V U}(hl:X p<=1000000)(l:2000000<fu)(h:∀j:K,j<X p->a (j:J) (p.getD j (I,[]))=Z (yC<|g j)):
 zJ fu p a=Z (zi (X p) g):=by
 unfold zJ;rw[yF,y9,F,db,Y];refine zB (λs:J×N U=>∃i:K,i<=X p/\s=((i:J),zi (X p) (λk=>if k<i then g k else 0))) (λs=>X p-s.1.toNat) _ ?_ _ _ ⟨0,xaf _,by rw[xc (g:=λk=>if k<0 then g k else 0)<|λk _=>by rw[zG]];rfl⟩ (by show X p-0<fu;lia);rintro s L ⟨i,hi,rfl⟩ c;unfold vq;simp only;by_cases h1:i<X p;rw[yg,Y O];simp only[Z4];rw[zm h1,F,Y<|h i h1,zm (by rw[yw];exact h1),F,dp,zb];refine c _ ⟨i+1,W,?_⟩ (by show X p-((i:J)+1).toNat<X p-(i:J).toNat;lia);congr 1;refine xc λk d=> ?_;unfold XV;by_cases e:k=i;rw[Q e,yg,e];rw[S e];show(if k<i then g k else 0)=_;by_cases b:k<i;rw[Q b,yg];rw[S b,zG];rw[zG,Y O];simp only[xaj,Z5];congr 1;exact xc λk d=>by rw[yg]
def Ay(h:f m=0):dg f (m+1)=dg f m:=by conv=>lhs;unfold dg;rw[Q h]
def ig(h:f m≠0):dg f (m+1)=m+1:=by conv=>lhs;unfold dg;rw[S h]
theorem L9(h:j<m):(p.take m).getD j (I,[])=p.getD j (I,[]):=by grind
theorem zK(h:xa k p)(c:k<=100000)(hl:X p<=1000000)(d:3000000<=fu):zQ fu p=Z (wO (X p)<|cf p):=by
 unfold zQ;have hd:=qS (cf p) (X p);rw[Y (v:=p.take<|dg (cf p) (X p))];have a:X (p.take<|dg (cf p) (X p))=dg (cf p) (X p):=by rw[xas];lia
 rw[Y<|DG (g:=cf p) W W ?_,a];rfl;intro j i;rw[a]at i;unfold K1;rw[L9 i,Y<|uj (h.okZ c j) d];rfl;refine zB (λt:N U=>∃m,m<=X p/\t=p.take m/\dg (cf p) m=dg (cf p) (X p)) (λt=>X t) _ ?_ _ _ ⟨X p,Nm _,xbR.symm,O⟩ W;rintro t L ⟨m,n,rfl,b⟩ l;have a:X (p.take m)=m:=by rw[xas];lia
 unfold gw
 cases m with
 |zero=>
  rw[zG,<-b];rfl
 |succ m=>
  rw[yg,a,(W:((m+1:K):J)-1=(m:J)),zb,yn,F,L9 W,Y<|y5 (h.okZ c m) d,Qw];by_cases h0:cf p m=0
  rw[Q<|xm.2 h0,zb,yF,y9,F,List.take_take,(W:min m (m+1)=m)];exact l _ ⟨m,W,O,by rw[<-Ay h0,b]⟩<|by rw[a,xas];lia
  rw[S<|λe=>h0<|xm.1 e,<-b,ig h0]
theorem w7(h:xa k p)(d:k<=100000)(hl:X p<=1000000)(c:3000000<=fu):wU fu p=Z (wO (X p)<|cf p):=by
 unfold wU;have hd:=qS (cf p) (X p);rw[Y (v:=((dg (cf p) (X p):K):J))];rw[Y (v:=wO (X p)<|cf p)];unfold wO;refine zB (λs:N U×J=>∃i:K,i<=dg (cf p) (X p)/\s=(zi i<|cf p,(i:J))) (λs=>X p-s.2.toNat) _ ?_ _ _ ⟨0,xaf _,O⟩ (by show X p-0<fu;lia);rintro s L ⟨i,hi,rfl⟩ a;unfold gZ;simp only;by_cases h1:i<dg (cf p) (X p);rw[yg,yn,F,Y<|yW (h.get i).1 (by have:=(h.get i).2;lia) c,xN (by rw[yw];simp;lia),F,zb];exact a _ ⟨i+1,W,by rw[<-Dd];rfl⟩ (by show X p-((i:J)+1).toNat<X p-(i:J).toNat;lia);grind;refine zB (λi:J=>∃m:K,i=(m:J)/\m<=X p/\dg (cf p) m=dg (cf p) (X p)) (λi=>i.toNat) _ ?_ _ _ ⟨X p,O,Nm _,O⟩ W;rintro i L ⟨m,rfl,l,b⟩ a;unfold iJ
 cases m with
 |zero=>rw[zG,<-b];rfl
 |succ m=>
  rw[yg,(W:((m+1:K):J)-1=(m:J)),zb,yn,F,Y<|um (h.okZ d m) c,Qw];by_cases h0:cf p m=0
  rw[Q<|xm.2 h0,zb];exact a _ ⟨m,O,W,by rw[<-Ay h0,b]⟩ W
  rw[S<|λe=>h0<|xm.1 e,<-b,ig h0]
end
section
variable{a b p:ww Zr}{k fu j l:wL}{h g:wL->Zr}
theorem Qq(h:max (X a) (X b)<=k:=by lia):cf a k+cf b k=0:=by grind [ym]
theorem zbT(c:xa k a)(d:xa k b)(e:k<=100000)(f:3000000<=fu)(hc:X b<=1000000)(j:K)(i:j<X b):
 uB fu (j:J) (b.getD j (I,[])) a=Z (if j<X a then yC (cf a j+cf b j)else b.getD j (I,[])):=by grind [uB,zm,F,Y,qq,xa.okZ,Qw]
def B2(a b:N U):N U:=(xaC (X b)).map λj=>if j<X a then yC (cf a j+cf b j)else b.getD j (I,[])
theorem ziq{n:K}(c:j<n):((xaC n).map h).getD j (I,[])=h j:=by grind
theorem map_set{n i:K}:((xaC n).map h).set i (g i)=(xaC n).map (λk=>if k=i then g k else h k):=by refine xcv λm=> ?_;by_cases e:i=m;grind;grind
def zjP{c:J->U->V U}(hl:X p<=1000000)(n:2000000<fu)(h:∀j:K,j<X p->c (j:J) (p.getD j (I,[]))=Z (g j)):
 zJ fu p c=Z ((xaC (X p)).map g):=by
 unfold zJ;have e0:So (X p) ((I,[]):U)=(xaC (X p)).map (λk=>if k<0 then g k else(I,[])):=by rw[db];rfl
 rw[yF,y9,F,e0,Y];refine zB (λs:J×N U=>∃i:K,i<=X p/\s=((i:J),(xaC (X p)).map (λk=>if k<i then g k else(I,[])))) (λs=>X p-s.1.toNat) _ ?_ _ _ ⟨0,xaf _,O⟩ (by show X p-0<fu;lia);rintro s L ⟨i,hi,rfl⟩ m;unfold vq;simp only;by_cases h1:i<X p;rw[yg,Y O];simp only[Z4];rw[zm h1,F,Y<|h i h1,zm (by simp;exact h1),F,map_set,zb];refine m _ ⟨i+1,W,?_⟩ (by show X p-((i:J)+1).toNat<X p-(i:J).toNat;lia);congr 1;refine xcc λk d=> ?_;by_cases e:k=i;rw[Q e,yg,e];rw[S e];by_cases f:k<i;rw[Q f,yg];rw[S f,zG];rw[zG,Y O];simp only[xaj,Z5];congr 1;refine xcc λk d=> ?_;have:=xbd.1 d;rw[yg]
theorem zhu(i:xa k a)(d:xa k b)(o:k+1<=100000)(hd:X b<=1000000)(m:3000000<=fu)(hl:X a<=X b):
 G (zJ fu b<|λe f=>uB fu e f a) (λt1=>G (zQ fu t1) λt2=>Z t2)=Z (wO (max (X a) (X b))<|λj=>cf a j+cf b j):=by
 have q:X (B2 a b)=X b:=by unfold B2;simp
 have r:∀j,j<X b->(B2 a b).getD j (I,[])=if j<X a then yC (cf a j+cf b j)else b.getD j (I,[]):=λj c=>by unfold B2;rw[ziq c]
 have hc:∀j,cf (B2 a b) j=cf a j+cf b j:=λj=>by
  by_cases c:j<X b;conv=>lhs;unfold cf
  rw[r j c];by_cases h:j<X a;rw[Q h,zn];rw[S h,ym (p:=a) W,xcI];rfl;rw[ym W,ym W,ym W];rfl
 have s:xa (k+1) (B2 a b):=λz n=>by
  unfold B2 at n;obtain⟨j,c,rfl⟩:=xat.1 n;split;exact⟨yx _,((i.bz j).add<|d.bz j).len⟩;exact(d.mono<|xbB k).get j
 rw[Y<|zjP (g:=λj=>if j<X a then yC (cf a j+cf b j)else b.getD j (I,[])) hd W λj c=>zbT i d W m hd j c];show G (zQ fu<|B2 a b) _=_;rw[Y<|zK s o W m,q];congr 1;refine Xz (λj c=>ym W) (λj c=>Qq c) hc
theorem lP(c:xa k a)(d:xa k b)(e:k+1<=100000)(hc:X a<=1000000)(hd:X b<=1000000)(f:3000000<=fu):
 qf fu a b=Z (wO (max (X a) (X b))<|λj=>cf a j+cf b j):=by grind [qf,zhu]
theorem oh:Kn fu p (j:J)=Z (p.getD j (I,[])):=by grind [Kn,zm,F]
def gK(c:xa k a)(d:xa k b)(m:k+1<=100000)(hc:X a<=1000000)(hd:X b<=1000000)(e:3000000<=fu):
 Qo fu a b=Z (wO (max (X a) (X b))<|λj=>cf a j+cf b j):=by
 unfold Qo;have⟨n,hn⟩:∃n,n=max (X a) (X b):=⟨_,O⟩;have r:n<=1000000:=W
 have o:xa (k+1) (zi n<|λj=>cf a j+cf b j):=Xq λj=>(c.bz j).add<|d.bz j;rw[Y (v:=zi n<|λj=>cf a j+cf b j)];rw[Y<|w7 o m (by rw[yw];lia) e,yw,<-hn];congr 1;exact Xz (λj f=>ym<|by rw[yw];lia) (λj f=>Qq)<|λj=>Uj (λj f=>Qq) j;refine zB (λs:N U×J=>∃i:K,i<=n/\s=(zi i<|λj=>cf a j+cf b j,(i:J))) (λs=>n-s.2.toNat) _ ?_ _ _ ⟨0,xaf _,O⟩ (by show n-0<fu;lia);rintro s L ⟨i,hi,rfl⟩ q;unfold oI;simp only;rw[F];by_cases h1:i<n;rw[yg,Y oh,Y oh,Y<|Ub (c.okZ W i) (d.okZ W i) e,Qw,Qw,xN (by rw[yw];simp;lia),F,zb];exact q _ ⟨i+1,W,by rw[<-Dd];rfl⟩ (by show n-((i:J)+1).toNat<n-(i:J).toNat;lia);rw[zG];obtain rfl:i=n:=W
 rfl
def WM{c:J}(h:X a<=k):cf a k*c=0:=by rw[ym h,xbc]
def fW.of{z:U}(h:zp z.2/\X z.2<=k)(c:k<=100000):fW z:=⟨h.1,xal h.2 c⟩
def jQ{c:U}(e:xa k a)(hc:zp c.2/\X c.2<=l)(i:k+l<=100000)(hd:X a<=1000000)(f:3000000<=fu):
 qm fu a c=Z (wO (X a)<|λj=>cf a j*zv c):=by
 unfold qm;have m:xa (k+l) (zi (X a)<|λj=>cf a j*zv c):=Xq λj=>(e.bz j).mul<|(Bz.of hc.1).mono hc.2;rw[Y<|DG hd W ?_];rw[Y<|zK m i (by rw[yw];lia) f,yw];congr 1;exact Xz (λj d=>ym<|by rw[yw];lia) (λj d=>WM d)<|λj=>Uj (λj d=>WM d) j;intro j d;unfold Ja;rw[Y<|yi (e.okZ W j) (fW.of hc W) f,Qw]
theorem AR{c:U}(e:xa k a)(hc:zp c.2/\X c.2<=l)(m:k+l<=100000)(hd:X a<=1000000)(f:3000000<=fu):
 Vv fu a c=Z (wO (X a)<|λj=>cf a j*zv c):=by
 unfold Vv;have n:xa (k+l) (zi (X a)<|λj=>cf a j*zv c):=Xq λj=>(e.bz j).mul<|(Bz.of hc.1).mono hc.2;rw[Y (v:=zi (X a)<|λj=>cf a j*zv c)];rw[Y<|w7 n m (by rw[yw];lia) f,yw];congr 1;exact Xz (λj d=>ym<|by rw[yw];lia) (λj d=>WM d)<|λj=>Uj (λj d=>WM d) j;refine zB (λs:N U×J=>∃i:K,i<=X a/\s=(zi i<|λj=>cf a j*zv c,(i:J))) (λs=>X a-s.2.toNat) _ ?_ _ _ ⟨0,xaf _,O⟩ (by show X a-0<fu;lia);rintro s L ⟨i,hi,rfl⟩ o;unfold fH;simp only;by_cases h1:i<X a;rw[yg,zm h1,F,Y<|wk (e.okZ W i) (fW.of hc W) f,Qw,xN (by rw[yw];simp;lia),F,zb];exact o _ ⟨i+1,W,by rw[<-Dd];rfl⟩ (by show X a-((i:J)+1).toNat<X a-(i:J).toNat;lia);grind
def ef(a b:N U):N U:=wO (max (X a) (X b))<|λj=>cf a j-cf b j
def xh{n:K}{f:K->J}(h:∀j,Bz k<|f j):xa k (wO n f):=Xq h
theorem Td{m:K}(d:m=dg (λj=>cf b j* -1) (X b)):wO (max (X a) (X (wO (X b)<|λj=>cf b j* -1))) (λj=>cf a j+cf (wO (X b)<|λj=>cf b j* -1) j)=ef a b:=by have e:∀j,cf (wO (X b)<|λj=>cf b j* -1) j=cf b j* -1:=j7 λj c=>WM c;refine Xz (λj c=>Qq c) (λj c=> ?_)<|λj=> ?_;rw[ym W,ym W];rfl;grind
theorem Bz.one:∀{k:K},1<=k->Bz k (-1):=by grind [Bz]
def ZL(e:xa k a)(d:xa k b)(i:k+2<=100000)(hc:X a<=1000000)(f:X b<=1000000)(c:3000000<=fu):
 kn fu a b=Z (ef a b):=by
 unfold kn;have hd:=qS (λj=>cf b j* -1) (X b);rw[Y<|yr rx c,Y<|jQ d ⟨yx _,(Bz.one<|Nm _).len⟩ W f c,zn,Y<|lP (e.mono W) (xh λj=>(d.bz j).mul<|Bz.one<|Nm _) W hc (by rw[xE];lia) c,Td O]
def EO(e:xa k a)(c:xa k b)(i:k+2<=100000)(hc:X a<=1000000)(f:X b<=1000000)(d:3000000<=fu):
 Um fu a b=Z (ef a b):=by
 unfold Um;have hd:=qS (λj=>cf b j* -1) (X b);rw[Y (a8 rx),Y<|AR c ⟨yx _,(Bz.one<|Nm _).len⟩ W f d,zn,Y<|gK (e.mono W) (xh λj=>(c.bz j).mul<|Bz.one<|Nm _) W hc (by rw[xE];lia) d,Td O]
end
section
variable{kb ka fu:wL}{b a:ww Zr}
def Ru(b:N U)(i k:K):J:=if i<=k then cf b (k-i)else 0
def Xh(a b:N U):K->K->J
 |0,_=>0
 |n+1,k=>Xh a b n k+cf a n*Ru b n k
def YB(a b:N U)(i j k:K):J:=Xh a b i k+if i<=k/\k<i+j then cf a i*cf b (k-i)else 0
def xd(a b:N U):N U:=wO (X a+X b)<|Xh a b (X a)
theorem zhK(c:xa kb b)(i k:K):Bz kb (Ru b i k):=by grind [Ru,Bz.zero,xa.bz]
def sH{ka kb:K}{a b:N U}(c:xa ka a)(d:xa kb b):∀n k,Bz (ka+kb+n) (Xh a b n k)
 |0,k=>Bz.zero _
 |n+1,k=>by
  have h:=((c.bz n).mul<|zhK d n k).mono (W:ka+kb<=ka+kb+n);exact Bz.add (sH c d n k) h
def E4(c:xa ka a)(d:xa kb b)(i j k:K):Bz (ka+kb+i+1) (YB a b i j k):=by
 refine Bz.add (sH c d i k) ?_;split;exact((c.bz i).mul<|d.bz _).mono W
 exact Bz.zero _
def zah{a b:N U}{k:K}:∀{n},n+X b<=k+1->Xh a b n k=0
 |0,_=>rfl
 |n+1,h=>by
  unfold Xh Ru;rw[zah W,yg,ym (p:=b) W,xaA];rfl
def cQ{k:K}(h:X a+X b<=k:=by lia):Xh a b (X a) k=0:=zah W
def te(a b:N U)(i k:K):YB a b i 0 k=Xh a b i k:=by unfold YB;lia
theorem tm(a b:N U)(i k:K):YB a b i (X b) k=Xh a b (i+1) k:=by rw[show Xh a b (i+1) k=Xh a b i k+cf a i*Ru b i k from O];unfold YB Ru;by_cases h:i<=k;rw[Q h];by_cases c:k<i+X b;lia;rw[S<|λe=>c e.2,ym (p:=b) W,xaA];grind
def rZ(a b:N U)(i j k:K):XV (YB a b i j) (i+j) (YB a b i j (i+j)+cf a i*cf b j) k=YB a b i (j+1) k:=by unfold XV;by_cases h:k=i+j;subst h;unfold YB;simp_all;skip;unfold YB;by_cases c:i<=k/\k<i+j;lia;lia
def wa(c:xa ka a)(d:xa kb b)(o:ka+kb+X a+1<=100000)(hc:X b<=100000)(g:3000000<=fu):wA fu a b=Z (xd a b):=by
 unfold wA;rw[zb,(W:(X a:J)+(X b:J)=((X a+X b:K):J)),yF,y9,F,db];have⟨n,hn⟩:∃n,n=X a+X b:=⟨_,O⟩;rw[<-hn,Y (v:=zi n<|Xh a b (X a))];rw[Y<|zK (Xq<|sH c d (X a)) W (by rw[yw];lia) g,yw];congr 1;unfold xd;exact Xz (λj f=>ym<|by rw[yw];lia) (λj f=>cQ f)<|λj=>Uj (λj f=>cQ) j;refine zB (λs:J×N U=>∃i:K,i<=X a/\s=((i:J),zi n<|Xh a b i)) (λs=>X a-s.1.toNat) _ ?_ _ _ ⟨0,xaf _,O⟩ (by show X a-0<fu;lia);rintro s L ⟨i,hi,rfl⟩ l;unfold oO;simp only;by_cases h1:i<X a;rw[yg,Y O];simp only[Z4];rw[zm h1,F,Y (v:=zi n<|Xh a b<|i+1),zb];exact l _ ⟨i+1,W,O⟩ (by show X a-((i:J)+1).toNat<X a-(i:J).toNat;lia);refine zB (λs:J×N U×U=>∃j:K,j<=X b/\s=((j:J),zi n<|YB a b i j,a.getD i (I,[]))) (λs=>X b-s.1.toNat) _ ?_ _ _ ⟨0,xaf _,by rw[xc λk _=>(te a b i k).symm];rfl⟩ (by show X b-0<fu;lia);rintro s p ⟨j,f,rfl⟩ h;unfold n8;simp only;by_cases m:j<X b;rw[yg,Y O];simp only[Z4];have e:(i:J)+(j:J)=((i+j:K):J):=W
 have hp:=E4 c d i j<|i+j;rw[zm m,F,e,zb,zb,zm (by rw[yw];lia),F,YJ W,Y<|yi (c.okZ W i) (d.okZ W j) g,Qw,Qw,Y<|qq (hp.ok W) (((c.bz i).mul<|d.bz j).ok W) g,zn,zn,zm (by rw[yw];lia),F,dp,zb];exact h _ ⟨j+1,W,by rw[xc λk _=>rZ a b i j k];rfl⟩ (by show X b-((j:J)+1).toNat<X b-(j:J).toNat;lia);rw[zG,Y O];simp only[xaj,Z5];obtain rfl:j=X b:=W
 rw[xc λk _=>tm a b i k];rw[zG,Y O];simp only[xaj,Z5];obtain rfl:i=X a:=W
 rfl
def Ez(c:xa ka a)(d:xa kb b)(o:ka+kb+X a+1<=100000)(hc:X b<=100000)(g:3000000<=fu):ae fu a b=Z (xd a b):=by
 unfold ae;rw[zb,(W:(X a:J)+(X b:J)=((X a+X b:K):J)),yF,y9,F,db];have⟨n,hn⟩:∃n,n=X a+X b:=⟨_,O⟩;rw[<-hn,Y (v:=zi n<|Xh a b (X a))];rw[Y<|w7 (Xq<|sH c d (X a)) W (by rw[yw];lia) g,yw];congr 1;unfold xd;exact Xz (λj f=>ym<|by rw[yw];lia) (λj f=>cQ f)<|λj=>Uj (λj f=>cQ) j;refine zB (λs:J×N U=>∃i:K,i<=X a/\s=((i:J),zi n<|Xh a b i)) (λs=>X a-s.1.toNat) _ ?_ _ _ ⟨0,xaf _,O⟩ (by show X a-0<fu;lia);rintro s L ⟨i,hi,rfl⟩ l;unfold nX;simp only;by_cases h1:i<X a;rw[yg,Y (v:=(a,b,zi n<|Xh a b<|i+1))];simp only;rw[zb];exact l _ ⟨i+1,W,O⟩ (by show X a-((i:J)+1).toNat<X a-(i:J).toNat;lia);refine zB (λs:N U×N U×J×N U=>∃j:K,j<=X b/\s=(a,b,(j:J),zi n<|YB a b i j)) (λs=>X b-s.2.2.1.toNat) _ ?_ _ _ ⟨0,xaf _,by rw[xc λk _=>(te a b i k).symm];rfl⟩ (by show X b-0<fu;lia);rintro s p ⟨j,f,rfl⟩ h;unfold oj;simp only;by_cases m:j<X b;rw[yg];have e:(i:J)+(j:J)=((i+j:K):J):=W
 have hp:=E4 c d i j<|i+j;rw[e,zb,zb,zm (by rw[yw];lia),F,YJ W,zm h1,F,zm m,F,Y<|wk (c.okZ W i) (d.okZ W j) g,Qw,Qw,Y<|Ub (hp.ok W) (((c.bz i).mul<|d.bz j).ok W) g,zn,zn,zm (by rw[yw];lia),F,dp,zb];exact h _ ⟨j+1,W,by rw[xc λk _=>rZ a b i j k];rfl⟩ (by show X b-((j:J)+1).toNat<X b-(j:J).toNat;lia);rw[zG];obtain rfl:j=X b:=W
 rw[xc λk _=>tm a b i k];rw[zG];obtain rfl:i=X a:=W
 rfl
def XW(c:xa ka a)(d:xa kb b):xa (ka+kb+X a) (xd a b):=xh<|sH c d (X a)
theorem NW(a b:N U)(k:K):cf (xd a b) k=Xh a b (X a) k:=j7 (λj c=>cQ c) k
def uu(a b:N U):X (xd a b)<=X a+X b:=by unfold xd;rw[xE];exact qS _ _
end
section
variable{f g:wL->wF}{fu k:wL}{a:ww Zr}{m:Zr}{a2:Zr->Zr->wN (Zr×wF)}
theorem Fv{f g:K->J}:∀{n},(∀k,k<n->f k=g k)->dg f n=dg g n
 |0,_=>rfl
 |n+1,h=>by
  unfold dg;rw[h n W,Fv λk b=>h k W]
theorem WZ{n:K}(h:∀k,k<n->f k=g k):wO n f=wO n g:=by grind [wO,Fv,qS,xc]
def FZ{n:K}:wO n (cf<|zi n f)=wO n f:=WZ λk b=>zaB b
def Sp{l:K}{c:J}(n:fF m)(h0:0<zv m)(r:X a<=1000000)(hl:l<=100000)(o:∀j,Bz l<|g j)(b:3000000<=fu)(h:∀j,j<X a->a2 (a.getD j (I,[])) m=Z (yC<|g j,c)):
 qN fu a m a2=Z (wO (X a) g,0):=by
 unfold qN;rw[Y<|y5 n.ok b,S (λe=>by have:=PF.1 e;lia),yF,y9,F,db,Y (v:=zi (X a) g)];rw[Y<|zK (Xq o) hl (by rw[yw];lia) b,yw,FZ];refine zB (λs:J×N U=>∃i:K,i<=X a/\s=((i:J),zi (X a) (λk=>if k<i then g k else 0))) (λs=>X a-s.1.toNat) _ ?_ _ _ ⟨0,xaf _,by rw[xc (g:=λk=>if k<0 then g k else 0)<|λk _=>by rw[zG]];rfl⟩ (by show X a-0<fu;lia);rintro s L ⟨i,hi,rfl⟩ p;unfold bM;simp only;by_cases h1:i<X a;rw[yg,Y O];simp only[Z4];rw[zm h1,F,Y<|h i h1];simp only;rw[zm (by rw[yw];exact h1),F,dp,zb];refine p _ ⟨i+1,W,?_⟩ (by show X a-((i:J)+1).toNat<X a-(i:J).toNat;lia);congr 1;refine xc λk q=> ?_;unfold XV;by_cases e:k=i;rw[Q e,yg,e];rw[S e];show(if k<i then g k else 0)=_;by_cases d:k<i;rw[Q d,yg];rw[S d,zG];rw[zG,Y O];simp only[xaj,Z5];congr 1;exact xc λk q=>by rw[yg]
theorem Iw(b:fF m)(h0:zv m<=0)(c:3000000<=fu):qN fu a m a2=Z ([],1):=by grind [qN,Y,y5,fF.ok,PF]
def vH(a:N U)(m:J):N U:=wO (X a)<|λj=>cf a j%m
def Ai(a:N U)(m:J):N U:=wO (X a)<|λj=>near (cf a j) m
def zeK(a:N U)(m:J):N U×J:=if m<=0 then([],1)else(vH a m,0)
def zaT(a:N U)(m:J):N U×J:=if m<=0 then([],1)else(Ai a m,0)
def fF.bz{z:U}(h:fF z):Bz 40000 (zv z):=(Bz.of h.1).mono h.2
theorem fG(e:xa k a)(h:k<=40000)(b:fF m)(hc:X a<=1000000)(d:3000000<=fu):Xx fu a m=Z (zeK a<|zv m):=by
 unfold Xx zeK;by_cases h0:zv m<=0
 rw[Y<|Iw b h0 d,Q h0];have⟨K,i⟩:∃K,K=40000:=⟨_,O⟩;have l:Bz K (zv m):=by rw[i];exact b.bz
 rw[S h0,Y<|Sp (c:=0) b W hc (W:K<=100000) (λj=>l.emod W) d λj n=> ?_];rfl;show q8 fu _ _=_;rw[YC (e.okS h j) b d];unfold Mh;rw[S h0];rfl
def BB(e:xa k a)(h:k<=40000)(b:fF m)(hc:X a<=1000000)(d:3000000<=fu):Vw fu a m=Z (zaT a<|zv m):=by
 unfold Vw zaT;by_cases h0:zv m<=0
 rw[Y<|Iw b h0 d,Q h0];have⟨K,i⟩:∃K,K=40000:=⟨_,O⟩;have l:Bz K (zv m):=by rw[i];exact b.bz
 rw[S h0,Y<|Sp (c:=0) b W hc (W:K<=100000) (λj=>l.near W) d λj n=> ?_];rfl;show XX fu _ _=_;rw[C3 (e.okS h j) b d];unfold zg3;rw[S h0];rfl
def CR{c d:K}{b:N U}(e:xa c a)(h:xa d b)(l:c+d+X a+1<=40000)(hc:X b<=40000)(j:fF m)(i:3000000<=fu):Jt fu a b m=Z (zeK (xd a b)<|zv m):=by unfold Jt;have:=uu a b;rw[Y<|wa e h W W i,Y<|fG (XW e h) W j W i]
end
section
def R7(n:K)(f:K->J):wO (X (wO n f)) (cf<|wO n f)=wO n f:=by
 have e:∀k,k<dg f n->cf (wO n f) k=f k:=λk a=>zaB a;have h:dg (cf<|wO n f) (X (wO n f))=dg f n:=by
  rw[xE];refine aq (Nm _) (λk h1 b=>by lia) ?_;by_cases h0:dg f n=0
  lia;right;rw[e _ W];exact Q2 f n h0
 show zi (dg (cf<|wO n f) (X (wO n f))) (cf<|wO n f)=wO n f;rw[h];exact xc e
theorem zgC{p:N U}(h:p=wO (X p) (cf p)):p=zi (X p) (cf p):=by grind [wO,xE]
def XC{p:N U}(h:p=wO (X p) (cf p))(h0:X p≠0):cf p (X p-1)≠0:=by grind [xE,Q2]
def Ee{p:N U}(h:p=wO (X p) (cf p)){j:K}(a:j<X p:=by lia):p.getD j (I,[])=yC (cf p j):=by grind [zgC,YJ]
def JK(n:K)(f:K->J):wO n f=wO (X (wO n f)) (cf<|wO n f):=(R7 n f).symm
def Py{p:N U}(h:p=wO (X p) (cf p)){l:K}(a:∀k,l<=k->cf p k=0):X p<=l:=by refine xbz λb=> ?_;exact XC h W<|a _ W
def dvF(r d:N U)(m:J)(qn:K):K->K->J
 |0=>cf r
 |s+1=>λk=>dvF r d m qn s k-(dvF r d m qn s (qn-(s+1)+(X d-1))%m)*Ru d (qn-(s+1)) k
def Hg(r d:N U)(m:J)(qn i:K):K->J:=dvF r d m qn<|qn-i
def dvC(r d:N U)(m:J)(qn i:K):J:=Hg r d m qn (i+1) (i+(X d-1))%m
section
variable{r d:ww Zr}{m:wF}{qn:wL}
def Dk:Hg r d m qn qn=cf r:=by unfold Hg;rw[xck];rfl
theorem GD{i:K}(h:i<qn)(k:K):Hg r d m qn i k=Hg r d m qn (i+1) k-dvC r d m qn i*Ru d i k:=by unfold dvC Hg;have⟨s,a⟩:∃s,s=qn-(i+1):=⟨_,O⟩;rw[(W:qn-i=s+1)];show dvF r d m qn s k-(dvF r d m qn s (qn-(s+1)+(X d-1))%m)*Ru d (qn-(s+1)) k=_;grind
def N0{K:wL}(a:xa K r)(hd:xa K d)(b:Bz K m)(h0:0<m):∀s k,Bz (2*K+s) (dvF r d m qn s k)
 |0,k=>(a.bz k).mono W
 |s+1,k=>by
  have h:=((Bz.emod (x:=dvF r d m qn s<|qn-(s+1)+(X d-1)) b h0).mul<|zhK hd (qn-(s+1)) k).mono (W:K+K<=2*K+s);exact Bz.sub (N0 a hd b h0 s k) h
def zaL{K:wL}(a:Bz K m)(h0:0<m)(i:wL):Bz K (dvC r d m qn i):=Bz.emod a h0
end
def XM{fu k:K}{a:N U}{m:U}(b:xa k a)(c:k<=40000)(d:fF m)(h0:0<zv m)(hc:X a<=1000000:=by lia)(e:3000000<=fu:=by lia):xp fu a m=Z (vH a<|zv m):=by grind [xp,zeK,Y,fG]
def dC{K:wL}{a:N U}{m:J}(b:Bz K m)(h0:0<m):xa K (vH a m):=xh λj=>Bz.emod b h0
theorem XG(a:N U)(m:J):X (vH a m)<=X a:=by unfold vH;rw[xE];exact qS _ _
def uQ(a:N U)(m:J)(k:K):cf (vH a m) k=cf a k%m:=j7 (λj b=>by rw[ym b,xaq]) k
def cd(a:N U)(m:J):vH a m=wO (X (vH a m)) (cf<|vH a m):=JK _ _
def dvQ(r d:N U)(m:J)(qn:K):K->J:=λk=>if k<qn then dvC r d m qn k else 0
def H5(r d:N U)(m:J):N U:=wO (X r+1-X d)<|λk=>dvQ r d m (X r+1-X d) k%m
def Vq(r d:N U)(m:J):N U:=wO (X r)<|λk=>Hg r d m (X r+1-X d) 0 k%m
def CM(r d:N U)(m:J)(qn i j:K):K->J:=λk=>Hg r d m qn (i+1) k-if i<=k/\k<i+j then dvC r d m qn i*cf d (k-i)else 0
def zej{r d:N U}{m:J}{qn i k:K}:CM r d m qn i 0 k=Hg r d m qn (i+1) k:=by unfold CM;lia
def zey{r d:N U}{m:J}{qn i:K}(h:i<qn)(k:K):CM r d m qn i (X d) k=Hg r d m qn i k:=by rw[GD h];unfold CM Ru;by_cases h:i<=k;rw[Q h];by_cases a:k<i+X d;lia;rw[S<|λe=>a e.2,ym W,xaA];grind
def zfE(r d:N U)(m:J)(qn i j k:K):XV (CM r d m qn i j) (i+j) (CM r d m qn i j (i+j)-dvC r d m qn i*cf d j) k=CM r d m qn i (j+1) k:=by unfold XV;by_cases h:k=i+j;subst h;unfold CM;simp_all;skip;unfold CM;by_cases a:i<=k/\k<i+j;lia;lia
def zlr{K:wL}{r d:N U}{m:J}{qn i j:wL}(b:xa K r)(hd:xa K d)(a:Bz K m)(h0:0<m)(h:i<qn)(k:wL):Bz (2*K+qn+1) (CM r d m qn i j k):=by
 refine Bz.sub ((N0 b hd a h0 _ k).mono W) ?_;split;exact((zaL a h0 i).mul<|hd.bz _).mono W
 exact Bz.zero _
def zeE{fu K n i qn:wL}{r d:N U}{m:U}{q:wL->J}(c:xa K r)(hd:xa K d)(a:Bz K (zv m))(h0:0<zv m)(hn:X r=n)(o:qn=n+1-X d)(p:0<X d)(hi:i<qn)(t:2*K+n+5<=40000)(g:q i=dvC r d (zv m) qn i)(b:3000000<=fu):
 zg (YL fu d (i:J)) fu (d,m,0,zi n<|Hg r d (zv m) qn<|i+1,zi qn q)=Z (d,m,zi n<|Hg r d (zv m) qn i,zi qn q):=by
 refine zB (λs:N U×U×J×N U×N U=>∃j:wL,j<=X d/\s=(d,m,(j:J),zi n<|CM r d (zv m) qn i j,zi qn q)) (λs=>X d-s.2.2.1.toNat) _ ?_ _ _ ⟨0,xaf _,by rw[xc (f:=CM r d (zv m) qn i 0) λk _=>zej];rfl⟩ (by show X d-0<fu;lia);rintro s L ⟨j,u,rfl⟩ h;unfold YL;simp only;by_cases l:j<X d;rw[yg,Y O];simp only[Z4];have e:(i:J)+(j:J)=((i+j:wL):J):=W
 have hp:=zlr (j:=j) c hd a h0 hi<|i+j;have hc:=zaL (r:=r) (d:=d) (qn:=qn) a h0 i;rw[zm l,F,e,zb,zb,zm (by rw[yw];lia),F,YJ W,zm (by rw[yw];lia),F,YJ hi,g,Y<|yi (hc.ok W) (hd.okZ W j) b,Qw,zn,Y<|qg (hp.ok W) ((hc.mul<|hd.bz j).ok W) b,zn,zn,zm (by rw[yw];lia),F,dp,zb];exact h _ ⟨j+1,W,by rw[xc λk _=>zfE r d (zv m) qn i j k];rfl⟩ (by show X d-((j:J)+1).toNat<X d-(j:J).toNat;lia);rw[zG,Y O];simp only[xaj,Z5];obtain rfl:j=X d:=W
 rw[xc λk _=>zey hi k]
def OW{fu K n qn:wL}{r d:N U}{m:U}(a:xa K r)(j:r=zi n (cf r))(hd:xa K d)(b:Bz K (zv m))(hc:zp m.2)(v:X m.2<=K)(h0:0<zv m)(hn:X r=n)(l:qn=n+1-X d)(o:0<X d)(p:2*K+n+5<=40000)(w:X d<=1000000)(c:3000000<=fu):
 zg (YP fu d m) fu ((qn:J)-1,r,So qn (I,[]))=Z (zi n<|Hg r d (zv m) qn 0,zi qn<|dvQ r d (zv m) qn):=by
 refine zB (λs:J×N U×N U=>∃i:wL,i<=qn/\s=((i:J)-1,zi n<|Hg r d (zv m) qn i,zi qn (λk=>if i<=k then dvC r d (zv m) qn k else 0))) (λs=>(s.1+1).toNat) _ ?_ _ _ ⟨qn,Nm _,?_⟩ (by show((qn:J)-1+1).toNat<fu;lia);rintro s L ⟨i,hi,rfl⟩ t;unfold YP;simp only
 cases i with
 |zero=>
  have e0:(zi qn λk=>if 0<=k then dvC r d (zv m) qn k else 0)=zi qn (dvQ r d (zv m) qn):=xc λk e=>by
   rw[Q<|xaf _];unfold dvQ;lia
  rw[zG,e0]
 |succ i=>
  have e1:((i+1:wL):J)-1=(i:J):=W
  have u:(i:J)+(X d:J)-1=((i+(X d-1):wL):J):=W
  have hp:Bz (2*K+qn) (Hg r d (zv m) qn (i+1)<|i+(X d-1)):=(N0 a hd b h0 _ _).mono W;rw[e1,yg,zb,u,zb,zm (by rw[yw];lia),F,YJ W,Y<|YC (hp.okS W) ⟨hc,W⟩ c,zn];unfold Mh;rw[zG];simp only;rw[zm (by rw[yw];lia),F,dp,Y<|zeE (q:=XV (λk=>if i+1<=k then dvC r d (zv m) qn k else 0) i<|Hg r d (zv m) qn (i+1) (i+(X d-1))%zv m) a hd b h0 hn l o W p ?_ c];simp only;rw[zb];refine t _ ⟨i,W,?_⟩ (by show((i:J)-1+1).toNat<(((i+1:wL):J)-1+1).toNat;lia);congr 2;refine xc λk e=> ?_;unfold XV;by_cases h:k=i;rw[Q h,yg,h];rfl;rw[S h];show(if i+1<=k then _ else _)=_;by_cases f:i+1<=k;rw[Q f,yg];rw[S f,zG];unfold XV;rw[Q O];rfl
 rw[Dk,<-j,db,xc (g:=λk=>if qn<=k then dvC r d (zv m) qn k else 0) λk e=>by rw[zG]]
def Jg{fu k K:wL}{a d:N U}{m:U}(i:xa k a)(b:k<=40000)(hd:xa K d)(e:zp m.2)(hi:X m.2<=K)(h0:0<zv m)(l:0<X d)(s:2*K+X a+5<=40000)(hn:X d<=1000000)(o:3000000<=fu):
 jY fu a d m=Z (H5 (vH a<|zv m) d<|zv m,Vq (vH a<|zv m) d<|zv m):=by
 unfold jY;have c:Bz K (zv m):=(Bz.of e).mono hi;have f:fF m:=⟨e,W⟩;have g:=dC (a:=a) c h0;have hl:=XG a<|zv m;have hc:=zgC<|cd a<|zv m;rw[Y<|XM i b f h0];generalize vH a (zv m)=r at*
 have⟨qn,h⟩:∃qn,qn=X r+1-X d:=⟨_,O⟩;have e1:max ((X r:J)-(X d:J)+1) 0=(qn:J):=W
 rw[zb,zb,F,e1,yF,y9,F,xaN,zb,Y<|OW g hc hd c e hi h0 O h l W hn o];simp only;have p:∀j,Bz K (dvQ r d (zv m) qn j):=λj=>by
  unfold dvQ;split;exact zaL c h0 j;exact Bz.zero _
 have q:∀j,Bz (2*K+qn) (Hg r d (zv m) qn 0 j):=λj=>(N0 g hd c h0 _ _).mono W;rw[Y (XM (Xq p) W f h0<|by rw[yw];lia),Y<|XM (Xq q) W f h0<|by rw[yw];lia];unfold H5 Vq vH;rw[<-h,yw,yw,WZ λk b=>by rw[zaB b],WZ (n:=X r) λk b=>by rw[zaB b]]
end
def mono(i:K)(c:J):K->J:=λk=>if k=i then c else 0
def zc5(i:K)(c:J)(k:K):cf (zi (i+1)<|mono i c) k=mono i c k:=by grind [mono,Uj]
def IA{d:N U}{i:K}{c:J}(k:K):∀n,n<=i->Xh (zi (i+1)<|mono i c) d n k=0
 |0,_=>rfl
 |n+1,h=>by
  unfold Xh;rw[IA k n W,zc5];unfold mono;grind
def zfA(d:N U)(i:K)(c:J)(k:K):cf (xd (zi (i+1)<|mono i c) d) k=c*Ru d i k:=by simp_all [mono,Xh,NW,yw,IA,zc5]
def zc3(a b:N U)(k:K):cf (ef a b) k=cf a k-cf b k:=j7 (λj c=>by rw[ym W,ym W];rfl) k
def bW(a b:N U):X (ef a b)<=max (X a) (X b):=by unfold ef;rw[xE];exact qS _ _
def DH{k:K}{a b:N U}(c:xa k a)(d:xa k b):xa (k+1) (ef a b):=xh λj=>(c.bz j).sub<|d.bz j
def Bz.one':∀{k:K},1<=k->Bz k 1:=by grind [Bz]
def zjh{a b:N U}(hl:X a=X b)(h:∀j,j<X a->a.getD j (I,[])=b.getD j (I,[])):a=b:=by grind [xeb]
def Lr{d:N U}(h:X d≠0:=by lia):d.drop (X d-1)=[d.getD (X d-1) (I,[])]:=by grind [xbX]
def Gp{l:N K}(h:(Ty.l .u).ok l):zp l:=λx a=>h.2 x a
def zl1{p:N U}(h:(Ty.l (.p .b (.l .u))).ok p){k:K}(c:∀z∈p,X z.2<=k):xa k p:=λz a=>⟨Gp (h.2 z a).2,c z a⟩
def Lu{l:N U}{i:K}(h:i<X l):l.getD i (I,[])∈l:=by grind
def ziU{l:N U}{q:U->Prop}(h:∀j,j<X l->q (l.getD j (I,[]))):∀z∈l,q z:=by grind [xcr]
section
def Ma{a b:N U}(k:K):∀c,Xh a b (X a+c) k=Xh a b (X a) k
 |0=>rfl
 |c+1=>by
  show Xh a b (X a+c) k+cf a (X a+c)*Ru b (X a+c) k=_;rw[Ma k c,ym W,xbc,xbY]
def PR{a b:N U}{n:K}(h:X a<=n)(k:K):Xh a b n k=Xh a b (X a) k:=by have:=Ma (a:=a) (b:=b) k<|n-X a;simp_all
def Ep{a b:N U}{m:J}(h:∀k,cf a k%m=cf b k%m):vH a m=vH b m:=by grind [vH,Xz,ym,xaq]
section
variable{r d:ww Zr}{m:wF}
theorem zdd{qn:K}{q:N U}(a:∀j,j<qn->cf q j=dvC r d m qn j)(k:K):∀n,n<=qn->Hg r d m qn n k=Hg r d m qn 0 k+Xh q d n k
 |0,_=>by show _=_+0;lia
 |n+1,h=>by
  have b:=zdd a k n W;rw[GD W]at b;show _=_+(Xh q d n k+cf q n*Ru d n k);grind
def zc8(j:K):cf (H5 r d m) j=dvQ r d m (X r+1-X d) j%m:=j7 (λk a=>by unfold dvQ;rw[zG,xaq]) j
def Ea{qn:K}(hn:X r<=qn+(X d-1))(a:0<X d)(hc:cf d (X d-1)=1):∀c i k,i+c=qn->i+(X d-1)<=k->Hg r d m qn i k%m=0
 |0,i,k,hi,b=>by
  obtain rfl:i=qn:=W
  rw[Dk,ym W,xaq]
 |c+1,i,k,hi,b=>by
  rw[GD W];by_cases h:k=i+(X d-1);unfold Ru dvC;simp_all;have e:=Ea hn a hc c (i+1) k W W;unfold Ru;rw[yg,ym W,xaA,xdf];exact e
def py(h:X r<=X r+1-X d+(X d-1))(a:0<X d)(hc:cf d (X d-1)=1)(k:K):cf (Vq r d m) k=Hg r d m (X r+1-X d) 0 k%m:=
 j7 (λj b=>by
  by_cases c:X d<=X r;exact Ea h a hc _ 0 j (xaD _) W
  rw[(W:X r+1-X d=0),Dk,ym b,xaq]) k
def HC(a:0<X d)(hc:cf d (X d-1)=1):X (Vq r d m)<X d:=by
 have h:X (Vq r d m)<=X d-1:=Py (JK _ _) λk b=>by
  rw[show wO (X r) (λk=>Hg r d m (X r+1-X d) 0 k%m)=Vq r d m from O,py W a hc];exact Ea W a hc _ 0 k (xaD _) W
 lia
end
end
section
variable{m:wF}
def yv:K->(K->J)->J
 |0,_=>0
 |n+1,f=>yv n f+f n
def yA{f g:K->J}:∀{n},(∀k,k<n->f k=g k)->yv n f=yv n g
 |0,_=>rfl
 |n+1,h=>by
  show yv n f+f n=yv n g+g n;rw[yA λk a=>h k W,h n W]
def XH(f g:K->J):∀n,yv n (λk=>f k+g k)=yv n f+yv n g
 |0=>rfl
 |n+1=>by
  show yv n _+(f n+g n)=yv n f+f n+(yv n g+g n);rw[XH f g n];lia
theorem ZA(c:J)(f:K->J):∀n,yv n (λk=>c*f k)=c*yv n f
 |0=>by show 0=c*0;lia
 |n+1=>by
  show yv n _+c*f n=c*(yv n f+f n);rw[ZA c f n,xfx]
theorem zfs(c:J)(f:K->J)(n:K):yv n (λk=>f k*c)=yv n f*c:=by grind [ZA,xbI]
def xb:∀{n}{f:K->J},(∀k,k<n->f k=0)->yv n f=0
 |0,_,_=>rfl
 |n+1,f,h=>by
  show yv n f+f n=0;rw[xb λk a=>h k W,h n W];rfl
def Zo(f:K->J):∀n,yv (n+1) f=f 0+yv n (λk=>f<|k+1)
 |0=>by show 0+f 0=f 0+0;lia
 |n+1=>by
  show yv (n+1) f+f (n+1)=f 0+(yv n _+f (n+1));rw[Zo f n];lia
def SN(f:K->J):∀n,yv (n+1) f=yv (n+1) (λk=>f<|n-k)
 |0=>rfl
 |n+1=>by
  rw[Zo (λk=>f<|n+1-k)<|n+1];show yv (n+1) f+f (n+1)=f (n+1-0)+_;rw[SN f n,Nat.sub_zero,yA (f:=λk=>f<|n+1-(k+1)) λk _=>by rw[(W:n+1-(k+1)=n-k)]];lia
def Ny{f:K->J}{n:K}(h:∀k,n<=k->f k=0):∀c,yv (n+c) f=yv n f
 |0=>rfl
 |c+1=>by
  show yv (n+c) f+f (n+c)=_;rw[Ny h c,h _ W];lia
theorem zay(G:K->K->J):∀n,yv n (λi=>yv (i+1)<|λj=>G j<|i-j)=yv n (λj=>yv (n-j)<|λl=>G j l)
 |0=>rfl
 |n+1=>by
  show yv n _+yv (n+1) (λj=>G j<|n-j)=yv n _+yv (n+1-n) (λl=>G n l);rw[zay G n,yA (f:=λj=>yv (n+1-j)<|λl=>G j l) (g:=λj=>yv (n-j) (λl=>G j l)+G j (n-j)) λj a=>by rw[(W:n+1-j=(n-j)+1)];rfl,XH,(W:n+1-n=1)];show _+(yv n (λj=>G j<|n-j)+G n (n-n))=_+(0+G n 0);grind
abbrev Pz:=K->J
instance:_root_.Add Pz:=⟨λf g k=>f k+g k⟩
instance:_root_.Sub Pz:=⟨λf g k=>f k-g k⟩
instance:_root_.Neg Pz:=⟨λf k=> -f k⟩
instance:_root_.Mul Pz:=⟨λf g k=>yv (k+1)<|λi=>f i*g (k-i)⟩
def pc(c:J):Pz:=λk=>if k=0 then c else 0
theorem zX(f g:Pz)(k:K):(f+g) k=f k+g k:=O
theorem y8(f g:Pz)(k:K):(f-g) k=f k-g k:=O
theorem zcD(f:Pz)(k:K):(-f) k= -f k:=O
theorem vt(f g:Pz)(k:K):(f*g) k=yv (k+1) (λi=>f i*g (k-i)):=O
theorem zo(f g:Pz):f*g=g*f:=by funext k;rw[vt,SN];exact yA λi hi=>by rw[(W:k-(k-i)=i),xbI]
theorem wI(f g h:Pz):f*(g+h)=f*g+f*h:=by funext k;rw[zX,vt,vt,vt,<-XH];exact yA λi _=>by rw[zX,xfx]
theorem yV(f g h:Pz):(f+g)*h=f*h+g*h:=by grind [zo,wI]
theorem zeD(f g:Pz):f*(-g)= -(f*g):=by grind [zcD,yv,vt,ZA]
theorem RP(f g:Pz):f-g=f+ -g:=by rfl
theorem qx(f g h:Pz):f*(g-h)=f*g-f*h:=by grind [RP,wI,zeD]
theorem ki(f g h:Pz):(f-g)*h=f*h-g*h:=by grind [zo,qx]
theorem zd(f g h:Pz):f*g*h=f*(g*h):=by
 funext k;have e1:(f*g*h) k=yv (k+1) (λi=>yv (i+1)<|λj=>(λj l=>f j*g l*h (k-(j+l))) j<|i-j):=by rw[vt];refine yA λi hi=> ?_;rw[vt,<-zfs];exact yA λj a=>by grind
 rw[e1,zay<|λj l=>f j*g l*h (k-(j+l)),vt];refine yA λj a=> ?_;rw[vt,<-ZA,(W:k+1-j=k-j+1)];exact yA λl hl=>by
  show f j*g l*h (k-(j+l))=f j*(g l*h (k-j-l));rw[(W:k-(j+l)=k-j-l),xcY]
theorem zF(f g h:Pz):f*(g*h)=g*(f*h):=by grind [zd,zo]
theorem zY(c:J)(f:Pz)(k:K):(pc c*f) k=c*f k:=by simp_all [pc,vt,Zo,xb]
def zE(f:Pz):pc 1*f=f:=by funext k;rw[zY,xdd]
def yB(f:Pz):pc 0*f=pc 0:=by funext k;rw[zY,xbc];unfold pc;split<;>rfl
def zS(k:K):pc 0 k=0:=by unfold pc;split<;>rfl
def ky(a b:J):pc a*pc b=pc (a*b):=by funext k;rw[zY];unfold pc;split;rfl;lia
def Cg(m:J)(f g:Pz):Prop:=∀k,f k%m=g k%m
def Cg.rfl{f:Pz}:Cg m f f:=λ_=>Eq.refl _
def Cg.of{f g:Pz}(h:f=g):Cg m f g:=λ_=>by rw[h]
def Cg.symm{m:J}{f g:Pz}(h:Cg m f g):Cg m g f:=λk=>(h k).symm
def Cg.trans{m:J}{f g h:Pz}(h1:Cg m f g)(a:Cg m g h):Cg m f h:=λk=>(h1 k).trans<|a k
def Cg.add{f f' g a:Pz}(h1:Cg m f f')(b:Cg m g a):Cg m (f+g) (f'+a):=λk=>by
 rw[zX,zX,xeh,h1,b,<-xeh]
def Cg.sub{f f' g a:Pz}(h1:Cg m f f')(b:Cg m g a):Cg m (f-g) (f'-a):=λk=>by
 rw[y8,y8,Int.sub_emod,h1,b,<-Int.sub_emod]
def mJ{m:J}{f g:K->J}:∀{n},(∀k,k<n->f k%m=g k%m)->yv n f%m=yv n g%m
 |0,_=>Eq.refl _
 |n+1,h=>by
  show(yv n f+f n)%m=(yv n g+g n)%m;rw[xeh,mJ λk a=>h k W,h n W,<-xeh]
def Cg.mul{f f' g a:Pz}(h1:Cg m f f')(b:Cg m g a):Cg m (f*g) (f'*a):=λk=>by
 exact mJ λi _=>by rw[xcd,h1,b,<-xcd]
def Cg.down{n:J}{f g:Pz}(h:Cg m f g)(hd:n∣m):Cg n f g:=λk=>by
 have:=h k;rw[<-xcA (f k) hd,this,xcA _ hd]
def Cg.dvd{f:Pz}(h:Cg m f (pc 0))(k:K):m∣f k:=xaH<|by rw[h,zS,xaq]
def Cg.of_dvd{f:Pz}(h:∀k,m∣f k):Cg m f (pc 0):=λk=>by rw[zS,xaq,xax<|h k]
def gk{m:J}{f:K->J}:∀{n},(∀k,k<n->m∣f k)->m∣yv n f
 |0,_=>xdE _
 |n+1,h=>Int.dvd_add (gk λk a=>h k W)<|h n W
def Cg.mul_zero{n:J}{f g:Pz}(a:Cg m f (pc 0))(b:Cg n g (pc 0)):Cg (m*n) (f*g) (pc 0):=Cg.of_dvd λk=>by
 exact gk λi _=>xfU (a.dvd i)<|b.dvd _
def Cg.mul_zero_l{f:Pz}(g:Pz)(a:Cg m f (pc 0)):Cg m (g*f) (pc 0):=by have:=(Cg.rfl (f:=g)).mul a;rw[zo g<|pc 0,yB]at this;lia
def Cg.iff_sub{f g:Pz}:Cg m f g↔Cg m (f-g) (pc 0):=by constructor;intro h;refine Cg.of_dvd λk=> ?_;exact xaH<|xaM.1<|h k;intro h k;have:=xax<|h.dvd k;exact xaM.2 this
end
section
variable{m:wF}{f g h s:Pz}
theorem yp(f:Pz):f*pc 1=f:=by rw[zo,zE]
def zl5(f g h s t e q:Pz):f-(g+(t*e+q*g))*(h+(s*e-q*h))=(f-g*h-e)+(e*(pc 1-(s*g+t*h))-(t*s)*(e*e)+(t*h-g*s)*(q*e)+(g*h)*(q*q)):=by simp only[wI,qx,yp,zF,zo];funext k;simp only[zX,y8];lia
def zhH(g h s t b c:Pz):(s-(s*b-c*h))*g+(t-(t*b+c*g))*h-pc 1=(s*g+t*h-pc 1-b)-(s*g+t*h-pc 1-b)*b-b*b:=by simp only[wI,qx,yp,zF,zo];funext k;simp only[zX,y8];lia
def Cg.zero_add(a:Cg m f (pc 0))(b:Cg m g (pc 0)):Cg m (f+g) (pc 0):=Cg.of_dvd λk=>by skip;exact Int.dvd_add (a.dvd k)<|b.dvd k
def Cg.zero_sub(a:Cg m f (pc 0))(b:Cg m g (pc 0)):Cg m (f-g) (pc 0):=Cg.of_dvd λk=>by skip;exact xdt (a.dvd k)<|b.dvd k
def Cg.mul_zero_r(g:Pz)(a:Cg m f (pc 0)):Cg m (f*g) (pc 0):=by rw[zo];exact a.mul_zero_l g
def zgH{n:J}(b:m∣n*n)(hn:n∣m){t e q r d i:Pz}(h1:Cg n f (g*h))(p:Cg n (s*g+t*h) (pc 1))(j:Cg m e (f-g*h))(hd:Cg m (s*e) (q*h+r))(c:Cg n q (pc 0))(v:Cg n r (pc 0))(l:Cg m d (g+(t*e+q*g)))(o:Cg m i (h+r)):
 Cg m f (d*i)/\Cg n d g/\Cg n i h:=by
 have a:Cg n e (pc 0):=(j.down hn).trans<|Cg.iff_sub.1 h1;have hc:Cg m r (s*e-q*h):=by
  refine Cg.iff_sub.2<|Cg.of_dvd λk=> ?_;have:=(Cg.iff_sub.1 hd).dvd k;simp only[zX,y8]at this⊢;have e1:r k-((s*e) k-(q*h) k)= -((s*e) k-((q*h) k+r k)):=W
  simp_all
 refine⟨?_,?_,?_⟩;refine Cg.trans ?_<|Cg.symm<|l.mul<|o.trans<|Cg.rfl.add hc;refine Cg.iff_sub.2 ?_;rw[zl5];have u:Cg m (f-g*h-e) (pc 0):=Cg.iff_sub.1 j.symm;have z2:Cg n (pc 1-(s*g+t*h)) (pc 0):=Cg.iff_sub.1 p.symm;exact u.zero_add ((((a.mul_zero z2).down b).zero_sub<|((a.mul_zero a).down b).mul_zero_l _).zero_add (((c.mul_zero a).down b).mul_zero_l _)|>.zero_add (((c.mul_zero c).down b).mul_zero_l _));refine(l.down hn).trans<|Cg.iff_sub.2 ?_;have e1:g+(t*e+q*g)-g=t*e+q*g:=by funext k;simp only[zX,y8];lia
 rw[e1];exact(a.mul_zero_l t).zero_add<|c.mul_zero_r g;refine(o.down hn).trans<|Cg.iff_sub.2 ?_;have e1:h+r-h=r:=by funext k;simp only[zX,y8];lia
 simp_all
def zfY{n:J}(o:m∣n*n)(hn:n∣m){t b c d a e:Pz}(p:Cg n (s*g+t*h) (pc 1))(i:Cg m b (s*g+t*h-pc 1))(hd:Cg m (s*b) (c*h+d))(q:Cg m a (s-d))(ht:Cg m e (t-(t*b+c*g))):
 Cg m (a*g+e*h) (pc 1):=by
 have j:=(i.down hn).trans<|Cg.iff_sub.1 p;have hc:Cg m d (s*b-c*h):=by
  refine Cg.iff_sub.2<|Cg.of_dvd λk=> ?_;have:=(Cg.iff_sub.1 hd).dvd k;simp only[zX,y8]at this⊢;have e1:d k-((s*b) k-(c*h) k)= -((s*b) k-((c*h) k+d k)):=W
  simp_all
 refine((q.trans<|Cg.rfl.sub hc).mul Cg.rfl|>.add (ht.mul Cg.rfl)).trans<|Cg.iff_sub.2 ?_;rw[zhH];have l:=Cg.iff_sub.1 i.symm;exact(l.zero_sub<|l.mul_zero_r b).zero_sub<|(j.mul_zero j).down o
end
section
variable{a p:wF}{fu j m:wL}{f g:Pz}{l:ww wF}
theorem zf3(hp:0<p):(if xcB a p<0 then xcB a p+p else xcB a p)=a%p:=by have h1:=xcH a (W:p≠0);have b:=xdK a hp;by_cases h:0<=a\/p∣a;grind;grind
theorem nj(b:0<=a:=by lia):xcB a p=a%p:=by grind
def xf(hp:0<p:=by lia):0<=a%p/\a%p<p:=⟨xcH a W,xdK a hp⟩
theorem Y0(h1:1<=p)(b:p<=65521)(c:WQ a):ZJ fu a p=Z (a%p):=by unfold ZJ;have d:=xf (a:=a) (p:=p);have ht:=zf3 (a:=a) (p:=p) W;rw[zG,y9,F];by_cases h:xcB a p<0;rw[Q h]at ht;rw[Q h,zb,ht];grind
def zl(n:K)(f:Pz):N J:=(xaC n).map f
def ci(l:N J):Pz:=λk=>l.getD k 0
def nl(n:K)(f:Pz):N J:=zl (dg f n) f
def JH(l:N J)(k:K):l.getD k 0=ci l k:=O
theorem ye(n:K)(f:Pz):X (zl n f)=n:=by unfold zl;simp
def uc{n:K}(h:j<n:=by lia):(zl n f).getD j 0=f j:=by simp_all [zl]
theorem y6{n:K}(h:∀k,k<n->f k=g k):zl n f=zl n g:=by simp_all [zl]
theorem Yh{n:K}{v:J}:(zl n f).set j v=zl n (XV f j v):=by refine xcv λi=> ?_;unfold zl XV;by_cases h:j=i;grind;grind
theorem gJ(n:K):So n 0=zl n (λ_=>0):=by grind [zl,List.map_const',xex]
theorem zlM{n:K}:zl n f++[f n]=zl (n+1) f:=by grind [zl,xcT]
def zcF{n:K}(h:m<=n:=by lia):(zl n f).take m=zl m f:=by unfold zl;rw[<-xeU,List.take_range,xcl h]
theorem ZI{n:K}(h:j<n):ci (zl n f) j=f j:=uc h
theorem yz(h:X l<=j):ci l j=0:=by simp_all [ci]
theorem X6{n:K}(h:∀k,n<=k->f k=0)(j:K):ci (zl n f) j=f j:=by grind [ZI,yz,ye]
theorem Tm(l:N J):zl (X l) (ci l)=l:=by grind [zl,ci,ye,xeb]
def ziX(n:K)(f:Pz):X (nl n f)=dg f n:=ye _ _
def Mi(n:K)(f:Pz):X (nl n f)<=n:=by rw[ziX];exact qS _ _
def DT{n:K}(h:∀k,n<=k->f k=0)(j:K):ci (nl n f) j=f j:=by refine X6 (λk b=> ?_) j;by_cases hn:k<n;exact QX f n k b hn;simp_all
theorem zpJ{n:K}(c:∀k,n<=k->f k=0)(d:∀k,m<=k->g k=0)(h:∀k,f k=g k):dg f n=dg g m:=by
 refine aq ?_ ?_ ?_;refine xbz λe=> ?_;have:=Q2 g m W;grind;intro k h1 i;rw[h];by_cases b:k<m;exact QX g m k h1 b;simp_all;by_cases h0:dg g m=0
 lia;right;rw[h];exact Q2 g m h0
theorem zoy{n:K}(b:∀k,n<=k->f k=0)(c:∀k,m<=k->g k=0)(h:∀k,f k=g k):nl n f=nl m g:=by grind [nl,zpJ,y6]
theorem zae{n:K}(h:∀k,k<n->f k=g k):nl n f=nl n g:=by grind [nl,Fv,qS,y6]
def Nl(l:N J):Prop:=X l=0\/ci l (X l-1)≠0
def Ck(n:K)(f:Pz):Nl (nl n f):=by
 by_cases h:X (nl n f)=0
 exact .inl h;right;rw[ziX]at h⊢;unfold nl;rw[ZI W];exact Q2 f n h
def Nl.eq(h:Nl l):l=nl (X l) (ci l):=by have e:=aq (Nm _) (λk h1 b=>by lia)<|h.imp id id;unfold nl;rw[e,Tm]
def Nl.ext{a b:N J}(d:Nl a)(e:Nl b)(h:∀k,ci a k=ci b k):a=b:=by rw[d.eq,e.eq];exact zoy (λk c=>yz c) (λk c=>yz c) h
theorem Nl.le(h:Nl l){n:K}(b:∀k,n<=k->ci l k=0):X l<=n:=by
 obtain h|h:=h
 lia;grind
def Rl(l:N J):Prop:=∀k,WQ<|ci l k
structure Fp(p:J)(l:N J):Prop where
 nn:∀k,0<=ci l k
 lt:∀k,ci l k<p
 nl:Nl l
def pm(p:J)(l:N J):N J:=nl (X l)<|λk=>ci l k%p
def Mb(p:J)(l:N J)(k:K):ci (pm p l) k=ci l k%p:=DT (λk b=>by rw[yz b,xaq]) k
def zcL(p:J)(l:N J):X (pm p l)<=X l:=Mi _ _
def Ej(hp:0<p)(l:N J):Fp p (pm p l):=⟨λk=>by rw[Mb];exact(xf hp).1,λk=>by rw[Mb];exact(xf hp).2,Ck _ _⟩
def PY(p:J)(l:N J):Cg p (ci<|pm p l) (ci l):=λk=>by rw[Mb,xaR]
def Fp.mod(h:Fp p l)(k:K):ci l k%p=ci l k:=xaJ (h.nn k)<|h.lt k
def Fp.pm{p:J}{l:N J}(h:Fp p l):pm p l=l:=by refine Nl.ext (Ck _ _) h.nl λk=> ?_;exact(Mb p l k).trans<|h.mod k
theorem Fp.ext{p:J}{a b:N J}(c:Fp p a)(d:Fp p b)(h:Cg p (ci a) (ci b)):a=b:=Nl.ext c.nl d.nl λk=>by rw[<-c.mod,h,d.mod]
def Fp.rl(h:Fp p l)(hp:p<=65521):Rl l:=λk=>by
 have h1:=h.nn k;have b:=h.lt k;lia
def zN(h1:1<=p)(n:p<=65521)(o:Rl l)(hl:X l<=1000000)(r:3000000<=fu):yh fu l p=Z (pm p l):=by
 unfold yh;have hd:=qS (λk=>ci l k%p) (X l);rw[yF,y9,F,gJ,Y (v:=zl (X l)<|λk=>ci l k%p)];rw[Y (v:=pm p l)];refine zB (λt:N J=>∃m,m<=X l/\t=zl m (λk=>ci l k%p)/\dg (λk=>ci l k%p) m=dg (λk=>ci l k%p) (X l)) (λt=>X t) _ ?_ _ _ ⟨X l,Nm _,O,O⟩ (by rw[ye];lia);rintro t L ⟨m,u,rfl,b⟩ c;unfold eZ;rw[ye]
 cases m with
 |zero=>
  rw[zG];unfold pm nl;rw[<-b];rfl
 |succ m=>
  rw[yg,(W:((m+1:K):J)-1=(m:J)),zb,yn,F,uc];by_cases h0:ci l m%p=0
  rw[Q h0,zb,yF,y9,F,zcF];exact c _ ⟨m,W,O,by rw[<-Ay (f:=λk=>ci l k%p) h0,b]⟩<|by rw[ye,ye];lia
  rw[S h0];unfold pm nl;rw[<-b,ig (f:=λk=>ci l k%p) h0]
 refine zB (λs:J×N J=>∃i:K,i<=X l/\s=((i:J),zl (X l) (λk=>if k<i then ci l k%p else 0))) (λs=>X l-s.1.toNat) _ ?_ _ _ ⟨0,xaf _,by rw[y6 (g:=λk=>if k<0 then ci l k%p else 0)<|λk _=>by rw[zG]];rfl⟩ (by show X l-0<fu;lia);rintro s L ⟨i,hi,rfl⟩ c;unfold eK;simp only;by_cases h:i<X l;rw[yg,zm h,F,JH,Y<|Y0 h1 n<|o i,zm (by rw[ye];exact h),F,Yh,zb];refine c _ ⟨i+1,W,?_⟩ (by show X l-((i:J)+1).toNat<X l-(i:J).toNat;lia);congr 1;refine y6 λk q=> ?_;unfold XV;by_cases e:k=i;rw[Q e,yg,e];rw[S e];show(if k<i then ci l k%p else 0)=_;by_cases d:k<i;rw[Q d,yg];rw[S d,zG];rw[zG];congr 1;exact y6 λk q=>by rw[yg]
end
section
variable{f g:Pz}{p:wF}{fu:wL}{a b:ww wF}
def sh(g:Pz)(i k:K):J:=if i<=k then g (k-i)else 0
def rws(f g:Pz)(n k:K):J:=yv n<|λi=>f i*sh g i k
theorem MW{n:K}(d:∀k,n<=k->f k=0)(k:K):rws f g n k=(f*g) k:=by have e1:=Ny (f:=λi=>f i*sh g i k) (λi hi=>by rw[d i hi,xbc])<|k+1;have c:=Ny (f:=λi=>f i*sh g i k) (n:=k+1) (λi hi=>by unfold sh;rw[zG,xaA]) n;rw[xdA]at c;unfold rws;rw[<-e1,c];exact yA λi hi=>by unfold sh;rw[yg]
theorem SF(a b:N U)(k:K):∀n,Xh a b n k=rws (cf a) (cf b) n k
 |0=>rfl
 |n+1=>by
  show Xh a b n k+cf a n*Ru b n k=rws (cf a) (cf b) n k+cf a n*sh (cf b) n k;rw[SF a b k n];rfl
theorem ur(a b:N U):cf (xd a b)=(cf a:Pz)*cf b:=by grind [NW,SF,MW,ym]
def CB(f g:Pz)(i j k:K):J:=rws f g i k+if i<=k/\k<i+j then f i*g (k-i)else 0
def zeP(f g:Pz)(i k:K):CB f g i 0 k=rws f g i k:=by unfold CB;lia
theorem zeT{n:K}(c:∀k,n<=k->g k=0)(i k:K):CB f g i n k=rws f g (i+1) k:=by show _=rws f g i k+f i*sh g i k;unfold CB sh;by_cases h:i<=k;grind;grind
def zeA(f g:Pz)(p:J)(i j k:K):XV (λk=>CB f g i j k%p) (i+j) ((CB f g i j (i+j)%p+f i*g j)%p) k=CB f g i (j+1) k%p:=by unfold XV;by_cases h:k=i+j;subst h;unfold CB;simp_all;rw[S h];show CB f g i j k%p=_;unfold CB;congr 2;by_cases c:i<=k/\k<i+j;lia;lia
def xH(p:J)(a b:N J):N J:=nl (X a+X b)<|λk=>(ci a*ci b) k%p
theorem uE{n m:K}(c:∀k,n<=k->f k=0)(d:∀k,m<=k->g k=0){k:K}(h:n+m<=k+1:=by lia):(f*g) k=0:=by refine xb λi hi=> ?_;by_cases h1:i<n;grind;simp_all
def dm(p:J)(a b:N J)(k:K):ci (xH p a b) k=(ci a*ci b) k%p:=DT (λk d=>by rw[uE (λj c=>yz c)<|λj c=>yz c,xaq]) k
theorem ZU(p:J)(a b:N J):Cg p (ci<|xH p a b) (ci a*ci b):=λk=>by rw[dm,xaR]
theorem jj(hp:0<p)(a b:N J):Fp p (xH p a b):=⟨λk=>by rw[dm];exact(xf hp).1,λk=>by rw[dm];exact(xf hp).2,Ck _ _⟩
def jK(p:J)(a b:N J):X (xH p a b)<=X a+X b:=Mi _ _
def gI{x y:J}(e:p<=65521)(d:0<=x)(h:x<p)(c:0<=y)(hc:y<p):0<=x*y/\x*y<=4293001441:=by refine⟨xcx d c,?_⟩;have h1:x*y<=65521*y:=xbC W c;lia
def vg(h1:1<=p)(l:p<=65521)(m:Fp p a)(o:Fp p b)(hc:X a<=100000)(hd:X b<=100000)(q:3000000<=fu):wZ fu a b p=Z (xH p a b):=by
 unfold wZ;have⟨n,hn⟩:∃n,n=X a+X b:=⟨_,O⟩;rw[zb,(W:(X a:J)+(X b:J)=(n:J)),yF,y9,F,gJ,Y (v:=zl n<|λk=>rws (ci a) (ci b) (X a) k%p)];have r:∀k,n<=k->rws (ci a) (ci b) (X a) k%p=0:=λk d=>by rw[MW<|λj c=>yz c,uE (λj c=>yz c)<|λj c=>yz c,xaq]
 have t:Rl (zl n<|λk=>rws (ci a) (ci b) (X a) k%p):=λk=>by
  rw[X6 r];have:=xf (a:=rws (ci a) (ci b) (X a) k) (p:=p);exact⟨W,W⟩
 rw[Y<|zN h1 l t (by rw[ye];lia) q];congr 1;unfold pm xH;rw[ye,<-hn];exact zae λk d=>by rw[ZI d,xaR,MW<|λj c=>yz c]
 refine zB (λs:J×N J=>∃i:K,i<=X a/\s=((i:J),zl n<|λk=>rws (ci a) (ci b) i k%p)) (λs=>X a-s.1.toNat) _ ?_ _ _ ⟨0,xaf _,by rw[y6 (g:=λk=>rws (ci a) (ci b) 0 k%p) λk _=>by show(0:J)=0%p;rw[xaq]];rfl⟩ (by show X a-0<fu;lia);rintro s L ⟨i,hi,rfl⟩ u;unfold aa;simp only;by_cases w:i<X a;rw[yg,Y O];simp only[Z4];rw[zm w,F,Y (v:=zl n<|λk=>rws (ci a) (ci b) (i+1) k%p),zb];exact u _ ⟨i+1,W,O⟩ (by show X a-((i:J)+1).toNat<X a-(i:J).toNat;lia);refine zB (λs:J×N J=>∃j:K,j<=X b/\s=((j:J),zl n<|λk=>CB (ci a) (ci b) i j k%p)) (λs=>X b-s.1.toNat) _ ?_ _ _ ⟨0,xaf _,by rw[y6 λk _=>by rw[<-zeP]];rfl⟩ (by show X b-0<fu;lia);rintro s y ⟨j,c,rfl⟩ h;unfold UH;simp only;by_cases x:j<X b;rw[yg,Y O];simp only[Z4];have e:(i:J)+(j:J)=((i+j:K):J):=W
 have r1:=xf (a:=CB (ci a) (ci b) i j<|i+j) (p:=p);have⟨r2,z⟩:=gI l (m.nn i) (m.lt i) (o.nn j)<|o.lt j;rw[zm x,F,e,zb,zb,zm (by rw[ye];lia),F,uc,JH,JH,zb,zb,y9,F,nj,zm (by rw[ye];lia),F,Yh,zb];exact h _ ⟨j+1,W,by rw[y6 λk _=>zeA (ci a) (ci b) p i j k];rfl⟩ (by show X b-((j:J)+1).toNat<X b-(j:J).toNat;lia);rw[zG,Y O];simp only[xaj,Z5];obtain rfl:j=X b:=W
 rw[y6 λk _=>by rw[zeT<|λk d=>yz d]];rw[zG,Y O];simp only[xaj,Z5];obtain rfl:i=X a:=W
 rfl
def Wm(p:J)(a b:N J)(c:J):N J:=nl (max (X a) (X b))<|λk=>(ci a k+c*ci b k)%p
def Ox(p:J)(a b:N J)(c:J)(k:K):ci (Wm p a b c) k=(ci a k+c*ci b k)%p:=DT (λk d=>by rw[yz W,yz W,xaA];exact xaq _) k
def OT(p:J)(a b:N J)(c:J):Cg p (ci<|Wm p a b c) (ci a+pc c*ci b):=λk=>by rw[Ox,xaR,zX,zY]
def dW(hp:0<p)(a b:N J)(c:J):Fp p (Wm p a b c):=⟨λk=>by rw[Ox];exact(xf hp).1,λk=>by rw[Ox];exact(xf hp).2,Ck _ _⟩
def DD(p:J)(a b:N J)(c:J):X (Wm p a b c)<=max (X a) (X b):=Mi _ _
theorem zqc{n:K}(h:X a<=n):LH (So n 0) a=zl n (ci a):=by unfold LH;rw[xaN,xcl h,xbR,List.drop_replicate];refine xeb (by rw[xau,xaN,ye];lia) λj h1 c=> ?_;have d:=ZI (f:=ci a) (by rw[ye]at c;exact c);have e:(zl n<|ci a).getD j 0=a.getD j 0:=d;grind
def Kx{c:J}(h1:1<=p)(o:p<=65521)(h:Fp p a)(j:Fp p b)(hc:0<=c)(hd:c<p)(z:X a<=100000)(A:X b<=100000)(q:3000000<=fu):Xe fu a b c p=Z (Wm p a b c):=by
 unfold Xe;have⟨n,hn⟩:∃n,n=max (X a) (X b):=⟨_,O⟩;have r:∀k,n<=k->ci a k+c*ci b k=0:=λk m=>by rw[yz W,yz W,xaA];rfl
 have t:∀k,0<=ci a k+c*ci b k/\ci a k+c*ci b k<=4293066962:=λk=>by
  have⟨r2,u⟩:=gI o hc hd (j.nn k)<|j.lt k;have:=h.nn k;have:=h.lt k;lia
 rw[F,(W:max (X a:J) (X b:J)=(n:J)),yF,y9,F,F,zqc W,Y (v:=zl n<|λk=>ci a k+c*ci b k)]
 have w:Rl (zl n<|λk=>ci a k+c*ci b k):=λk=>by
  rw[X6 r];have:=t k;exact⟨W,W⟩
 rw[Y<|zN h1 o w (by rw[ye];lia) q];congr 1;unfold pm Wm;rw[ye,<-hn];exact zae λk m=>by rw[ZI m]
 refine zB (λs:J×N J=>∃i:K,i<=X b/\s=((i:J),zl n (λk=>ci a k+if k<i then c*ci b k else 0))) (λs=>X b-s.1.toNat) _ ?_ _ _ ⟨0,xaf _,by rw[y6 (f:=ci a) (g:=λk=>ci a k+if k<0 then c*ci b k else 0) λk _=>by rw[zG,xbY]];rfl⟩ (by show X b-0<fu;lia);rintro s L ⟨i,hi,rfl⟩ x;unfold n9;simp only;by_cases y:i<X b;rw[yg,Y O];simp only[Z4];have⟨r2,u⟩:=gI o hc hd (j.nn i)<|j.lt i;have:=h.nn i;have:=h.lt i;rw[zm y,F,zm (by rw[ye];lia),F,uc,S<|xfQ i,xbY,JH,zb,zb,zm (by rw[ye];lia),F,Yh,zb];refine x _ ⟨i+1,W,?_⟩ (by show X b-((i:J)+1).toNat<X b-(i:J).toNat;lia);congr 1;refine y6 λk m=> ?_;unfold XV;by_cases e:k=i;rw[Q e,yg,e];rw[S e];show ci a k+(if k<i then c*ci b k else 0)=_;by_cases d:k<i;rw[Q d,yg];rw[S d,zG];rw[zG,Y O];simp only[xaj,Z5];congr 1;refine y6 λk m=> ?_;by_cases d:k<i;rw[Q d];rw[S d,yz (l:=b) W,xaA]
end
section
variable{p a fu:wL}
theorem mM(hp:2<=p)(h:kF p)(h0:0<a:=by lia)(h1:a<p:=by lia):xdk p a=1:=by
 have⟨g,b⟩:∃g,g=xdk p a:=⟨_,O⟩;have d1:g∣p:=by rw[b];exact xeY _ _
 have d2:g∣a:=by rw[b];exact xdg _ _
 have j:g<=a:=Nat.le_of_dvd h0 d2;have i:0<g:=Nat.pos_of_dvd_of_pos d1 W;rw[<-b];refine xcF (xbz λk=> ?_) i;by_cases c:g*g<=p;exact h g W c<|Nat.mod_eq_zero_of_dvd d1;have⟨d,hd⟩:=d1;have l:d<g:=by refine xdp λf=>c ?_;rw[hd];exact xaG _ f
 have hc:2<=d:=by
  refine xbz λf=> ?_;have:d=0\/d=1:=W
  obtain e|e:=this
  grind;grind
 refine h d hc ?_ ?_;rw[hd];exact xac _ W
 rw[hd];exact Nat.mul_mod_left _ _
theorem Za{p:J}(hp:qt p=wT)(b:400<fu:=by lia):vj fu p=Z 0:=by grind [vj,Y,Vm]
structure IvI(p a:K)(r0 r1:K)(t0 t1:J):Prop where
 lt:r1<r0
 two:2<=r0
 le:r0<=p
 c0:(p:J)∣(r0:J)-t0*a
 c1:(p:J)∣(r1:J)-t1*a
 g:xdk r0 r1=1
 s:∃u0 u1:K,((t0=u0/\t1= -u1)\/(t0= -u0/\t1=u1))/\r0*u1+r1*u0=p
theorem IvI.step{r0 r1:K}{t0 t1:J}(h:IvI p a r0 r1 t0 t1)(k:2<=r1):IvI p a r1 (r0%r1) t1 (t0-((r0/r1:K):J)*t1)/\(((r0/r1:K):J)*t1).natAbs<=p/\(t0-((r0/r1:K):J)*t1).natAbs<=p:=by
 have hd:=xbu r0 r1;have l:=xaP r0 (W:0<r1);have⟨c,b,m,r⟩:=h.s;generalize t:r0/r1=q at*
 generalize n:r0%r1=r2 at*
 have u:=h.le;have hi:=h.lt;have e1:r1*(c+q*b)+r2*b=p:=by grind
 have v:c+q*b<=p:=by have d:1*(c+q*b)<=r1*(c+q*b):=xac _ W;lia
 have hc:((q*b:K):J)=(q:J)*(b:J):=rC
 have f:((t1=b/\t0-(q:J)*t1= -((c+q*b:K):J))\/(t1= -b/\t0-(q:J)*t1=((c+q*b:K):J)))/\((q:J)*t1).natAbs<=p:=by
  rcases m with⟨i,j⟩|⟨i,j⟩
  grind;rw[i,j,<-hc];exact⟨.inl ⟨O,W⟩,W⟩
 refine⟨⟨l,k,W,h.c1,?_,?_,b,c+q*b,f.1,e1⟩,f.2,by rcases f.1 with⟨_,e⟩|⟨_,e⟩<;>lia⟩;have d:=xdt h.c0<|xbw h.c1<|xcK (q:J) _;have o:(r0:J)-t0*a-(q:J)*((r1:J)-t1*a)=(r2:J)-(t0-(q:J)*t1)*a:=by
  rw[Int.mul_sub,Int.sub_mul,xcY];have:(r0:J)=(r1:J)*(q:J)+(r2:J):=by rw[<-hd];simp
  rw[this,xbI (r1:J)];lia
 rw[o]at d;exact d;have d:=h.g;rw[<-n,xdF,<-Nat.gcd_rec,xdF];exact d
def zid(hp:p<=65521)(j:70000<fu){t:J}:∀{r0 r1:K}{t0 t1:J},IvI p a r0 r1 t0 t1->∀n,r1<n->∃x:J,zg (pF fu) n ((r0:J),(r1:J),t0,t1)=Z (.inl x)/\(p:J)∣1-x*a/\x.natAbs<=p:=by
 intro r0 r1
 induction r1 using xdz generalizing r0 with
 |_ r1 c=>
  intro t0 t1 h n hn;obtain⟨n,rfl⟩:∃k,n=k+1:=⟨n-1,W⟩;rw[kQ];unfold pF;simp only;have hc:=h.lt;have l:=h.two;have hd:=h.le;by_cases h0:r1=0
  have:=h.g;simp_all;rw[zG];by_cases h1:r1=1
  rw[yg];refine⟨t1,O,?_,?_⟩;have:=h.c1;rw[h1]at this;exact this;have⟨m,b,d,o⟩:=h.s;have q:1*b<=r0*b:=xac _ W;rcases d with⟨_,e⟩|⟨_,e⟩<;>lia
  have⟨f,r,u⟩:=h.step W;have e1:xdv (r0:J) (r1:J)=((r0/r1:K):J):=O;have v:=xbu r0 r1;have i:((r0/r1:K):J)*(r1:J)=((r1*(r0/r1):K):J):=by rw[xbI];simp
  have hi:((r0/r1:K):J)<=(r0:J):=Int.ofNat_le.2<|xcD _ _;have w:(0:J)<=((r0/r1:K):J):=xeO _;rw[zG,y9,e1,zb,i,zb,(W:(r0:J)-((r1*(r0/r1):K):J)=((r0%r1:K):J)),zb,zb,zb];exact c (r0%r1) (xaP _ W) f n (by have:=xaP r0 (W:0<r1);lia)
def UA{p a:J}(hp:qt p=wT)(h0:0<a)(h1:a<p)(f:3000000<=fu):∃x,Qu fu a p=Z (x,0)/\0<=x/\x<p/\(x*a)%p=1:=by
 have⟨g,i⟩:=zA hp;have c:kF p.toNat:=by refine xak λh=> ?_;rw[Iv<|λe=>h e.2.2]at hp;simp_all
 obtain⟨P,rfl⟩:=xaE (W:0<=p);obtain⟨A,rfl⟩:=xaE (W:0<=a);have d:IvI P A P A 0 1:=⟨W,W,Nm _,by rw[xbc,xdf];exact xei _,by rw[xdd,xej];exact xdE _,mM W c,0,1,.inr ⟨O,O⟩,W⟩;have⟨x,k1,k2,k3⟩:=zid (fu:=fu) (t:=0) (W:P<=65521) W d fu W;have b:=xf (a:=x) (p:=(P:J));refine⟨x%P,?_,b.1,b.2,?_⟩;unfold Qu;rw[Y<|Za hp,Q O,Y<|Y0 W W ⟨W,W⟩,xaJ (a:=(A:J)) W W,Y k1];simp only;rw[Y<|Y0 W W ⟨W,W⟩];rw[xcd,xaR,<-xcd];have:=xaM.2<|xax k2;rw[<-this];exact xaJ rx W
end
section
variable{p:wF}{fu i qn:wL}{a b:ww wF}{R Q:Pz}
def zM{α β:Type}{f:(β->V α)->β->V α}(j:β->Prop)(m:β->K)(Q:α->Prop)
 (step:∀s L,j s->(∀c,j c->m c<m s->∃r,L c=Z r/\Q r)->∃r,f L s=Z r/\Q r):∀(n:K) (s:β),j s->m s<n->∃r,zg f n s=Z r/\Q r
 |0,s,_,h=>jp h<|xbb _
 |n+1,s,d,h=>step s _ d λc e g=>zM j m Q step n c e W
theorem w5{f:K->J}{i:K}(h:∀k,k≠i->f k=0):∀n,yv n f=if i<n then f i else 0
 |0=>by skip;rfl
 |n+1=>by
  show yv n f+f n=_;rw[w5 h n];by_cases h1:i<n;grind;grind
theorem VZ(i:K)(c:J)(g:Pz)(k:K):((mono i c:Pz)*g) k=c*sh g i k:=by rw[vt,w5 λj d=>by show mono i c j*_=0;unfold mono;rw[S d,xbc]];unfold sh;by_cases h:i<=k;rw[yg];unfold mono;simp_all;grind
theorem j8(x:J):ci [x]=pc x:=by
 funext k
 cases k with
 |zero=>rfl
 |succ k=>exact yz rC
def Q3{x:J}(h0:0<x:=by lia)(h1:x<p:=by lia):Fp p [x]:=⟨λk=>by rw[j8];unfold pc;split<;>lia,λk=>by rw[j8];unfold pc;split<;>lia,.inr (by show x≠0;lia)⟩
def za0(h:0<p:=by lia):Fp p []:=⟨λk=>by rw[yz<|xaf _];lia,λk=>by skip;exact h,.inl O⟩
def zla{x c:J}(h:0<=x)(d:(x*c)%p=1):0<x:=by
 obtain h|h:=Int.lt_or_eq_of_le h
 exact h;rw[<-h,xbc]at d;cases d
def ai{c:J}(hp:qt p=wT)(h:Fp p a)(h0:0<c)(h1:c<p)(hc:X a<=90000)(d:3000000<=fu):∃x,0<x/\x<p/\(x*c)%p=1/\Qu fu c p=Z (x,0)/\qE fu a c p=Z (xH p a [x]):=by have⟨l,j⟩:=zA hp;have⟨x,e1,k,e,f⟩:=UA hp h0 h1 d;have g:=zla k f;refine⟨x,g,e,f,e1,?_⟩;unfold qE;rw[Y e1];simp only;rw[Y<|vg W j h (Q3 g e) W rC d]
def pV(R g:Pz)(p c:J)(i j:K):Pz:=λk=>if i<=k/\k<i+j then(R k+(p-c)*g (k-i))%p else R k
theorem zeS(R g:Pz)(p c:J)(i j k:K):XV (pV R g p c i j) (i+j) ((R (i+j)+(p-c)*g j)%p) k=pV R g p c i (j+1) k:=by grind [pV,XV]
theorem zeB{g:Pz}{c:J}{n:K}(d:∀k,R k%p=R k)(e:∀k,n<=k->g k=0)(k:K):pV R g p c i n k%p=(R k-c*sh g i k)%p:=by unfold pV sh;by_cases h:i<=k/\k<i+n;rw[iq h,iq h.1,xaR,Int.sub_mul];refine xaM.2<|xax ⟨g<|k-i,?_⟩;lia;grind
def zfa{n:K}{c x:J}(h1:1<=p)(q:p<=65521)(d:Fp p b)(h:∀k,0<=R k/\R k<p)(hc:0<=c)(r:c<p)(hd:i+X b<=n)(hn:n<=100000)(t:3000000<=fu):
 zg (Wh fu b (i:J) c) fu (b,p,x,0,zl n R,zl qn Q)=Z (b,p,x,zl n<|pV R (ci b) p c i (X b),zl qn Q):=by
 refine zB (λs:N J×J×J×J×N J×N J=>∃j:K,j<=X b/\s=(b,p,x,(j:J),zl n<|pV R (ci b) p c i j,zl qn Q)) (λs=>X b-s.2.2.2.1.toNat) _ ?_ _ _ ⟨0,xaf _,by rw[y6 (f:=R) (g:=pV R (ci b) p c i 0) λk _=>by unfold pV;rw[zG]];rfl⟩ (by show X b-0<fu;lia);rintro s L ⟨j,u,rfl⟩ l;unfold Wh;simp only;by_cases m:j<X b;rw[yg,Y O];simp only[Z4];have e:(i:J)+(j:J)=((i+j:K):J):=W
 have o:pV R (ci b) p c i j (i+j)=R (i+j):=by unfold pV;rw[zG]
 have⟨r1,r2⟩:=h<|i+j;have v:0<=(p-c)*ci b j:=xcx W<|d.nn j;have w:(p-c)*ci b j<=65521*ci b j:=xbC W<|d.nn j;have y:=d.lt j;rw[zm m,F,e,zb,zb,zm (by rw[ye];lia),F,uc,JH,o,zb,zb,zb,y9,F,nj,zm (by rw[ye];lia),F,Yh,zb];exact l _ ⟨j+1,W,by rw[y6 λk _=>zeS R (ci b) p c i j k];rfl⟩ (by show X b-((j:J)+1).toNat<X b-(j:J).toNat;lia);rw[zG,Y O];simp only[xaj,Z5];obtain rfl:j=X b:=W
 rfl
structure FdI(p:J)(a b:N J)(qn i:K)(R Q:Pz):Prop where
 hi:i<=qn
 rr:∀k,0<=R k/\R k<p
 qr:∀k,0<=Q k/\Q k<p
 rz:∀k,i+(b.length-1)<=k->R k=0
 ql:∀k,k<i->Q k=0
 qz:∀k,qn<=k->Q k=0
 cg:Cg p (ci a) (Q*ci b+R)
def FdI.step{x:J}(h1:1<=p)(h:FdI p a b qn (i+1) R Q)(s:0<X b)(j:(x*ci b (X b-1))%p=1):
 FdI p a b qn i (pV R (ci b) p (R (i+(X b-1))*x%p) i (X b)) (XV Q i<|R (i+(X b-1))*x%p):=by
 have⟨c,hc⟩:∃c,c=R (i+(X b-1))*x%p:=⟨_,O⟩;have hi:=h.hi;have e:=xf (a:=R (i+(X b-1))*x) (p:=p);rw[<-hc]at e⊢;have m:∀k,R k%p=R k:=λk=>xaJ (h.rr k).1 (h.rr k).2;have f:=zeB (g:=ci b) (c:=c) (i:=i) (n:=X b) m<|λk d=>yz d;have hd:∀k,0<=pV R (ci b) p c i (X b) k/\pV R (ci b) p c i (X b) k<p:=λk=>by
  unfold pV;split;exact xf;exact h.rr k
 have o:∀k,XV Q i c k=(Q+(mono i c:Pz)) k:=λk=>by
  rw[zX];unfold XV mono;by_cases d:k=i;rw[iq d,iq d,h.ql k W,xcI];lia
 refine⟨W,hd,λk=> ?_,λk d=> ?_,λk d=> ?_,λk d=> ?_,?_⟩;unfold XV;split;exact e;exact h.qr k;have q:=xaJ (hd k).1 (hd k).2;rw[<-q,f];by_cases r:k=i+(X b-1);unfold sh;rw[yg,(W:k-i=X b-1),hc,r,Int.sub_emod,xcd,xaR,<-xcd,xcY,xcd _<|x*_,j,xcO,xaR,<-Int.sub_emod,xej,xaq];unfold sh;rw[h.rz k W,yg,yz (l:=b) W,xaA,xdf,xaq];unfold XV;rw[zG];exact h.ql k W
 unfold XV;rw[zG];exact h.qz k d;refine h.cg.trans λk=> ?_;rw[show XV Q i c=Q+(mono i c:Pz)from uT o,yV,zX,zX,zX,VZ,xeh<|_+_,f,<-xeh];congr 1;lia
def xJ(hp:qt p=wT)(g:Fp p a)(c:Fp p b)(m:0<X b)(B:X a<=90000)(ht:X b<=90000)(d:3000000<=fu):
 ∃q r,xR fu a b p=Z (q,r)/\Fp p q/\Fp p r/\Cg p (ci a) (ci q*ci b+ci r)/\X r<X b/\X q<=X a:=by
 have⟨C,e⟩:=zA hp;unfold xR;rw[xN (by simp;lia),F,xbM,zb];by_cases hl:X a<X b;rw[yg];refine⟨[],a,O,za0,g,Cg.of ?_,hl,xaf _⟩;funext k;rw[zX,show ci []=pc 0 from uT λj=>by rw[yz<|xaf _,zS],yB,zS,xcI];have⟨qn,D⟩:∃qn,qn=X a-X b+1:=⟨_,O⟩;have E:ci b (X b-1)≠0:=by
  obtain h|h:=c.nl
  lia;exact h
 have t1:=c.nn<|X b-1;have t2:=c.lt<|X b-1;have⟨x,e1,o,t,u⟩:=UA (fu:=fu) hp (W:0<ci b (X b-1)) t2 d;have c1:(X b:J)-1=((X b-1:K):J):=W
 have c2:(X a:J)-(X b:J)+1=(qn:J):=W
 rw[zG,c1,zb,yn,F,JH,Y e1];simp only;rw[zb,c2,yF,y9,F]
 have hc:=zM (f:=XO fu b p x) (λs:J×N J×N J=>∃(i:K) (R Q:Pz),s=((i:J)-1,zl (X a) R,zl qn Q)/\FdI p a b qn i R Q) (λs=>(s.1+1).toNat)
  (λr=>∃R Q:Pz,r=(zl (X a) R,zl qn Q)/\FdI p a b qn 0 R Q) (by
   rintro s L ⟨i,R,Q,rfl,h⟩ v;unfold XO;simp only
   cases i with
   |zero=>
    rw[zG];exact⟨_,O,R,Q,O,h⟩
   |succ i=>
    have hi:=h.hi;have⟨r1,r2⟩:=h.rr<|i+(X b-1);have⟨w,G⟩:=gI e r1 r2 o t;have hd:=xf (a:=R (i+(X b-1))*x) (p:=p);rw[(W:((i+1:K):J)-1=(i:J)),yg,zb,(W:(i:J)+(X b:J)-1=((i+(X b-1):K):J)),zb,zm (by rw[ye];lia),F,uc,zb,y9,F,nj w,zm (by rw[ye];lia),F,Yh,Y<|zfa W e c h.rr hd.1 hd.2 W W d];simp only;rw[zb];exact v _ ⟨i,_,_,O,h.step W m u⟩ (by show((i:J)-1+1).toNat<(((i+1:K):J)-1+1).toNat;lia))
  fu ((X a:J)-(X b:J),a,So qn 0) ⟨qn,ci a,λ_=>0,by rw[Tm,gJ,(W:(X a:J)-(X b:J)=(qn:J)-1)],Nm _,λk=>⟨g.nn k,g.lt k⟩,λk=>⟨xfV _,W⟩,λk y=>yz W,λk _=>O,λk _=>O,Cg.of (by funext k;rw[zX,show((λ_=>0:Pz))=pc 0 from uT λj=>(zS j).symm,yB,zS,xcI])⟩ (by show((X a:J)-(X b:J)+1).toNat<fu;lia)
 obtain⟨_,z,R,Q,rfl,h⟩:=hc;rw[Y z];simp only;have A:Rl (zl (X a) R):=λk=>by
  rw[X6 λj l=>h.rz j W];have:=h.rr k;exact⟨W,W⟩
 have hn:Rl (zl qn Q):=λk=>by
  rw[X6 h.qz];have:=h.qr k;exact⟨W,W⟩
 rw[Y<|zN W e hn (by rw[ye];lia) d,Y<|zN W e A (by rw[ye];lia) d];refine⟨_,_,O,Ej W _,Ej W _,?_,?_,?_⟩;refine h.cg.trans<|Cg.add (Cg.mul (Cg.symm<|(PY p _).trans<|Cg.of<|funext (X6 h.qz)) Cg.rfl)<|Cg.symm<|(PY p _).trans<|Cg.of<|funext (X6 λj l=>h.rz j W);have:=(Ej (p:=p) W<|zl (X a) R).nl.le (n:=X b-1) λk y=>by rw[Mb,X6 (λj l=>h.rz j W),h.rz k W,xaq]
 lia;have:=zcL p<|zl qn Q;rw[ye]at this;lia
end
section
variable{p:wF}{fu N:wL}{r0 s0 t0 r1 s1 t1 g h:ww wF}{f:Pz}
def zoC(f:Pz):Cg p (pc (p-1)*f) (-f):=λk=>by
 rw[zY,zcD,Int.sub_mul];simp_all
def bK(a b:ww J):Cg p (ci<|Wm p a b<|p-1) (ci a-ci b):=by refine(OT p a b<|p-1).trans ?_;exact Cg.rfl.add<|zoC _
def CH{S:K}(hp:qt p=wT)(b:Fp p r0)(l:Fp p s0)(m:Fp p t0)(hc:Fp p r1)(hl:Fp p s1)(o:Fp p t1)(h0:0<X r1)(l1:X r0<=N)(C:X r1<=N)(D:X s0<=S)(E:X t0<=S)(H:X s1<=S)(M:X t1<=S)(P:N<=9000)(Q:S<=90000)(a:3000000<=fu):
 ∃q,Fp p q/\X q<=N/\Cg p (ci r0) (ci q*ci r1+ci (Wm p r0 (xH p q r1)<|p-1))/\X (Wm p r0 (xH p q r1)<|p-1)<X r1/\
  Xk fu [r0,s0,t0] [r1,s1,t1] p=Z [Wm p r0 (xH p q r1)<|p-1,Wm p s0 (xH p q s1)<|p-1,Wm p t0 (xH p q t1)<|p-1]:=by
 have⟨R,c⟩:=zA hp;have⟨q,r,e1,d,s,hd,t,hv⟩:=xJ (fu:=fu) hp b hc h0 W W a;have e:Wm p r0 (xH p q r1) (p-1)=r:=by refine Fp.ext (dW W _ _ _) s<|(bK r0<|xH p q r1).trans ?_;refine(hd.sub<|ZU p q r1).trans<|Cg.of ?_;funext k;simp only[zX,y8];lia
 refine⟨q,d,W,by rw[e];exact hd,by rw[e];exact t,?_⟩;unfold Xk;have f1:=jK p q r1;have f2:=jK p q s1;have f3:=jK p q t1;rw[show(0:J)=((0:K):J)from O,zm rx,zm rx,F];show G (xR fu r0 r1 p) _=_;rw[Y e1];simp only;rw[Y (v:=([Wm p r0 (xH p q r1)<|p-1,Wm p s0 (xH p q s1)<|p-1,Wm p t0 (xH p q t1)<|p-1],So 3 []))];have⟨n,hn⟩:∃n,fu=n+4:=⟨fu-4,W⟩
 have step:∀(L:ww J×J×ww (ww J)×ww (ww J)->V (ww (ww J)×ww (ww J))) (i:K) (x y z u:ww J) (ts:ww (ww J)),i<3->X ts=3->ts.getD i []=x->[r1,s1,t1].getD i []=y->Fp p x->Fp p y->X x<=90000->X y<=90000->
  ZF fu [r1,s1,t1] p L (q,(i:J),ts,So 3 [])=L (q,((i+1:K):J),ts.set i<|Wm p x (xH p q y)<|p-1,So 3 []):=λL i x y z u ts hi T w A ht B U hA=>by
  unfold ZF;simp only;have f4:=jK p q y;rw[yg,Y O];simp only[Z4];rw[zm hi,zm hi,F,w,A,Y<|vg W c d B W W a,zb,Y<|Kx W c ht (jj W _ _) W W W W a,zm hi,F,zb];rfl
 have j:zg (ZF fu [r1,s1,t1] p) (n+4) (q,((0:K):J),[r0,s0,t0],So 3 [])=Z ([Wm p r0 (xH p q r1)<|p-1,Wm p s0 (xH p q s1)<|p-1,Wm p t0 (xH p q t1)<|p-1],So 3 []):=by rw[kQ,step _ 0 r0 r1 [] [] _ rx O O O b hc W W,kQ,step _ 1 s0 s1 [] [] _ rx O O O l hl W W,kQ,step _ 2 t0 t1 [] [] _ rx O O O m o W W,kQ];unfold ZF;simp only;rw[ir rx,Y O];rfl
 rw[<-hn]at j;exact j
def Fs(f:Pz):Prop:=∃n,∀k,n<=k->f k=0
def Fs.add{g:Pz}(a:Fs f)(b:Fs g):Fs (f+g):=by have⟨n,hn⟩:=a;have⟨m,c⟩:=b;exact⟨n+m,λk d=>by rw[zX,hn k W,c k W];rfl⟩
def Fs.mul{g:Pz}(a:Fs f)(b:Fs g):Fs (f*g):=by have⟨n,hn⟩:=a;have⟨m,c⟩:=b;exact⟨n+m,λk d=>uE hn c⟩
def Fs.pc(c:J):Fs (pc c):=⟨1,λk a=>by unfold Go.Proofs.YtoegnnjcmlghhaaGreat.pc;rw[zG]⟩
theorem Fs.ci(l:ww J):Fs (ci l):=⟨X l,λk a=>yz a⟩
def Fs.cf(l:ww U):Fs (cf l):=⟨X l,λk a=>ym a⟩
structure BzR(p:J)(g h d s t:ww J)(S:K):Prop where
 df:Fp p d
 sf:Fp p s
 tf:Fp p t
 cg:Cg p (ci d) (ci s*ci g+ci t*ci h)
 dv:∃A C:Pz,Fs A/\Fs C/\Cg p (ci g) (A*ci d)/\Cg p (ci h) (C*ci d)
 dl:d.length<=S
 sl:s.length<=S
 tl:t.length<=S
structure BzI(p:J)(g h r0 s0 t0 r1 s1 t1:ww J)(N:K):Prop where
 f0:Fp p r0
 g0:Fp p s0
 h0:Fp p t0
 f1:Fp p r1
 g1:Fp p s1
 h1:Fp p t1
 c0:Cg p (ci r0) (ci s0*ci g+ci t0*ci h)
 c1:Cg p (ci r1) (ci s1*ci g+ci t1*ci h)
 dv:∃A B C D:Pz,Fs A/\Fs B/\Fs C/\Fs D/\Cg p (ci g) (A*ci r0+B*ci r1)/\Cg p (ci h) (C*ci r0+D*ci r1)
 l0:r0.length<=N
 l1:r1.length<=N
 b0:s0.length<=1+N*(N+1-r1.length)
 b1:t0.length<=1+N*(N+1-r1.length)
 b2:s1.length<=1+N*(N+1-r1.length)
 b3:t1.length<=1+N*(N+1-r1.length)
def BzI.step(a:BzI p g h r0 s0 t0 r1 s1 t1 N)(hp:qt p=wT)(i:N<=290)(j:0<X r1)(l:3000000<=fu):
 ∃r2 c t2,Xk fu [r0,s0,t0] [r1,s1,t1] p=Z [r2,c,t2]/\X r2<X r1/\BzI p g h r1 s1 t1 r2 c t2 N:=by
 have⟨u,v⟩:=zA hp;have m:1+N*(N+1-X r1)<=90000:=by have:N*(N+1-X r1)<=290*290:=xcf i W;lia
 have hd:=a.l0;have d:=a.l1;have n:=a.b0;have hi:=a.b1;have o:=a.b2;have r:=a.b3;have⟨q,w,x,hc,hl,s⟩:=CH (fu:=fu) (S:=1+N*(N+1-X r1)) hp a.f0 a.g0 a.h0 a.f1 a.g1 a.h1 j hd d n hi o r W m l;refine⟨_,_,_,s,hl,a.f1,a.g1,a.h1,dW W _ _ _,dW W _ _ _,dW W _ _ _,a.c1,?_,?_,d,W,?_,?_,?_,?_⟩;refine(bK _ _).trans<|(a.c0.sub<|(ZU p q r1).trans<|Cg.rfl.mul a.c1).trans ?_;refine Cg.trans (Cg.of ?_)<|Cg.symm (((bK s0<|xH p q s1).trans<|Cg.rfl.sub<|ZU p q s1).mul (Cg.rfl (f:=ci g))|>.add (((bK t0<|xH p q t1).trans<|Cg.rfl.sub<|ZU p q t1).mul<|Cg.rfl (f:=ci h)));simp only[wI,yV,qx,ki,zd];funext k;simp only[zX,y8];lia;have⟨A,B,C,D,e,z2,z3,z4,d1,d2⟩:=a.dv;refine⟨A*ci q+B,A,C*ci q+D,C,(e.mul<|Fs.ci q).add z2,e,(z3.mul<|Fs.ci q).add z4,z3,?_,?_⟩;refine d1.trans<|((Cg.rfl (f:=A)).mul hc|>.add Cg.rfl).trans<|Cg.of ?_;simp only[wI,yV,zd];funext k;simp only[zX];lia;refine d2.trans<|((Cg.rfl (f:=C)).mul hc|>.add Cg.rfl).trans<|Cg.of ?_;simp only[wI,yV,zd];funext k;simp only[zX];lia;have:N*(N+1-X r1)<=N*(N+1-X (Wm p r0 (xH p q r1)<|p-1)):=xaG _ W;lia;have:N*(N+1-X r1)<=N*(N+1-X (Wm p r0 (xH p q r1)<|p-1)):=xaG _ W;lia;have h1:=DD p s0 (xH p q s1)<|p-1;have t:=jK p q s1;have b:N*(N+1-X r1+1)<=N*(N+1-X (Wm p r0 (xH p q r1)<|p-1)):=xaG _ W;rw[xcp,xeF]at b;lia;have h1:=DD p t0 (xH p q t1)<|p-1;have t:=jK p q t1;have b:N*(N+1-X r1+1)<=N*(N+1-X (Wm p r0 (xH p q r1)<|p-1)):=xaG _ W;rw[xcp,xeF]at b;lia
def zjb(hp:qt p=wT)(e:N<=290)(i:3000000<=fu)(a:BzI p g h r0 s0 t0 r1 s1 t1 N):
 ∃d s t,zg (Z7 fu p) fu ([r0,s0,t0],[r1,s1,t1])=Z [d,s,t]/\BzR p g h d s t (1+N*(N+1)):=by
 obtain⟨r,e1,d,s,t,rfl,j⟩:=zM (f:=Z7 fu p) (λx:ww (ww J)×ww (ww J)=>∃r0 s0 t0 r1 s1 t1,x=([r0,s0,t0],[r1,s1,t1])/\BzI p g h r0 s0 t0 r1 s1 t1 N) (λx=>X (x.2.getD 0 [])) (λr=>∃d s t,r=[d,s,t]/\BzR p g h d s t (1+N*(N+1))) (by
  rintro x L ⟨r0,s0,t0,r1,s1,t1,rfl,a⟩ n;unfold Z7;simp only;rw[show(0:J)=((0:K):J)from O,zm rx];show∃r,(if((0:K):J)<(X r1:J)then _ else _)=Z r/\_;by_cases h0:0<X r1;have⟨r2,o,t2,l,q,hc⟩:=a.step (fu:=fu) hp e h0 i;rw[yg,Y l];simp_all;rw[zG];have b:ci r1=pc 0:=uT λk=>by rw[yz W,zS]
  have c:1+N*(N+1-X r1)<=1+N*(N+1):=by have:N*(N+1-X r1)<=N*(N+1):=xaG _ W;lia
  have hd:=a.l0;have u:N*1<=N*(N+1):=xaG _ W;refine⟨_,O,r0,s0,t0,O,a.f0,a.g0,a.h0,a.c0,?_,W,xal a.b0 c,xal a.b1 c⟩;have⟨A,B,C,D,m,z2,z3,z4,d1,d2⟩:=a.dv;rw[b,zo B,yB]at d1;rw[b,zo D,yB]at d2;refine⟨A,C,m,z3,d1.trans<|Cg.of ?_,d2.trans<|Cg.of ?_⟩<;>funext k<;>rw[zX,zS,xbY]) fu ([r0,s0,t0],[r1,s1,t1]) ⟨_,_,_,_,_,_,O,a⟩ (by have:=a.l1;show X r1<fu;lia)
 exact⟨d,s,t,e1,j⟩
theorem uX(hp:qt p=wT)(o:Fp p g)(q:Fp p h)(hu:X g<=290)(hv:X h<=290)(j:3000000<=fu):
 ∃d s t,Ze fu g h p=Z (d,s,t,0)/\BzR p g h d s t (2+max (X g) (X h)*(max (X g) (X h)+1))/\(X d=0\/ci d (X d-1)=1):=by
 have⟨p1,l⟩:=zA hp;unfold Ze;rw[Y<|Za hp,Q O,Y<|zN W l (o.rl l) W j,Y<|zN W l (q.rl l) W j,o.pm,q.pm];have z0:ci ([]:ww J)=pc 0:=uT λk=>by rw[yz<|xaf _,zS]
 have c:∀f:Pz,f+pc 0=f:=λf=>uT λk=>by rw[zX,zS,xbY]
 have e:∀f:Pz,pc 0+f=f:=λf=>uT λk=>by rw[zX,zS,xcI]
 have D:BzI p g h g [1] [] h [] [1] (max (X g) (X h)):=by refine⟨o,Q3,za0,q,za0,Q3,Cg.of ?_,Cg.of ?_,⟨pc 1,pc 0,pc 0,pc 1,Fs.pc 1,Fs.pc 0,Fs.pc 0,Fs.pc 1,Cg.of ?_,Cg.of ?_⟩,xew _ _,xea _ _,xbH _ _,xaf _,xaf _,xbH _ _⟩;rw[j8,z0,zE,yB,c];rw[j8,z0,zE,yB,e];rw[zE,yB,c];rw[zE,yB,e]
 have⟨d,s,t,e1,b⟩:=zjb (fu:=fu) hp W j D;have hS:max (X g) (X h)*(max (X g) (X h)+1)<=290*291:=xcf W W;generalize max (X g) (X h)*(max (X g) (X h)+1)=S at*
 rw[Y e1,show(0:J)=((0:K):J)from O,zm rx];show∃r u v,G (if((0:K):J)<(X d:J)then Z wT else Z I) _=_/\_;by_cases h0:0<X d;have hw:=b.dl;have ht:ci d (X d-1)≠0:=by
  obtain h|h:=b.df.nl
  lia;exact h
 have t1:=b.df.nn<|X d-1;have t2:=b.df.lt<|X d-1;have⟨x,E,H,w,M,x5⟩:=ai (fu:=fu) hp b.df (W:0<ci d (X d-1)) t2 W j;have sc:∀{a:ww J},Fp p a->X a<=90000->qE fu a (ci d<|X d-1) p=Z (xH p a [x]):=λ{a} P hl=>by
  unfold qE;rw[Y M];simp only;rw[Y<|vg W l P (Q3 E H) W rC j]
 rw[yg,Y O,Q O,zm rx];show∃r u v,zf ((X d:J)-1) _=_/\_;rw[(W:(X d:J)-1=((X d-1:K):J)),zb];show∃r u v,zD ((X d-1:K):J) (X d) _=_/\_;rw[yn,ze];show∃r u v,G (zg (ve fu p<|ci d<|X d-1) fu (((0:K):J),[d,s,t])) _=_/\_;have R:zg (ve fu p<|ci d<|X d-1) fu (((0:K):J),[d,s,t])=Z [xH p d [x],xH p s [x],xH p t [x]]:=by
  have⟨n,hn⟩:∃n,fu=n+4:=⟨fu-4,W⟩
  have step:∀(L:J×ww (ww J)->V (ww<|ww J)) (i:K) (y:ww J) (ts:ww (ww J)),i<3->ts.getD i []=y->Fp p y->X y<=90000->
   ve fu p (ci d<|X d-1) L ((i:J),ts)=L (((i+1:K):J),ts.set i<|xH p y [x]):=λL i y ts hi T U hr=>by
   unfold ve;simp only;rw[yg,zm hi,T,Y<|sc U hr,zm hi,ze,zb];rfl
  have z:zg (ve fu p<|ci d<|X d-1) (n+4) (((0:K):J),[d,s,t])=Z [xH p d [x],xH p s [x],xH p t [x]]:=by rw[kQ,step _ 0 d _ rx O b.df (xal b.dl W),kQ,step _ 1 s _ rx O b.sf (xal b.sl W),kQ,step _ 2 t _ rx O b.tf (xal b.tl W),kQ];unfold ve;simp only;rw[ir rx];rfl
  rw[<-hn]at z;exact z
 rw[Y R];have hc:∀a:ww J,Cg p (ci<|xH p a [x]) (ci a*pc x):=λa=>by
  have:=ZU p a [x];rw[j8]at this;exact this
 have hj:Cg p (pc x*pc (ci d<|X d-1)) (pc 1):=λk=>by
  rw[ky];unfold pc;split;rw[w];exact(xaJ rx W).symm;rfl
 have f1:=jK p d [x];have f2:=jK p s [x];have f3:=jK p t [x];have hz:=b.sl;have hA:=b.tl;simp only[xaw,xbV]at f1 f2 f3;have hd:∀k,ci (xH p d [x]) k=(x*ci d k)%p:=λk=>by rw[dm,j8,zo,zY]
 have hm:X (xH p d [x])=X d:=by refine xcF ((jj W _ _).nl.le λk hk=> ?_)<|xbz λhB=> ?_;rw[hd,yz hk,xaA,xaq];have B:=hd<|X d-1;rw[w,yz W]at B;cases B
 refine⟨xH p d [x],xH p s [x],xH p t [x],O,⟨jj W _ _,jj W _ _,jj W _ _,?_,?_,W,W,W⟩,.inr ?_⟩;refine(hc d).trans<|(b.cg.mul Cg.rfl).trans<|Cg.trans (Cg.of ?_)<|Cg.symm<|((hc s).mul Cg.rfl).add<|(hc t).mul Cg.rfl;simp only[wI,yV,zd,zo,zF]
 have⟨A,C,z1,z3,d1,d2⟩:=b.dv;have m:∀F:Pz,Cg p (F*ci d) (F*pc (ci d<|X d-1)*ci (xH p d [x])):=λF=>by
  refine Cg.symm<|(Cg.rfl.mul<|hc d).trans<|Cg.trans (Cg.of ?_)<|((Cg.rfl (f:=F*ci d)).mul hj).trans<|Cg.of<|yp _;simp only[zd,zo,zF]
 exact⟨_,_,z1.mul<|Fs.pc _,z3.mul<|Fs.pc _,d1.trans<|m A,d2.trans<|m C⟩;rw[hm,hd,w];rw[zG,Y O,ir rx];exact⟨d,s,t,O,⟨b.df,b.sf,b.tf,b.cg,b.dv,xal b.dl W,xal b.sl W,xal b.tl W⟩,.inl W⟩
end
section
variable{fu:wL}{a l b:ww wF}{p:wF}
def zfB{n:K}(h:n<9223372036854775808):sgn n=(n:J):=by unfold sgn;lia
def Cw{x:J}(h0:0<=x)(h:x<9223372036854775808)(f:3000000<=fu):JV fu (yC x)=Z (x,wT):=by
 have c:Bz 1 x:=by unfold Bz;lia
 unfold JV;rw[Y<|uj (c.ok rx) f,zn];have g:(yC x).1=I:=by unfold yC;simp;lia
 by_cases d:x=0
 subst d;rfl;have hc:=DA.2 d;have hd:=c.len;obtain⟨n,rfl⟩:=xaE h0;have e:(yC (n:J)).2.getD 0 0=n:=by show(yI<|(n:J).natAbs).getD 0 0=n;rw[xaL,Qy,xfd,xer,xap W]
 rw[zG,Y O,S rx,zG,Y O,S rx,g,S rx,Y O,S rx,S rx,show(0:J)=((0:K):J)from O,yn,F,e,zG,yn,F,e,F,zfB W]
def EB{a:U}(d:fF a)(h1:1<=p)(g:p<=65521)(c:3000000<=fu):Uv fu a p=Z (zv a%p,0):=by
 unfold Uv;have e:Bz 1 p:=by unfold Bz;lia
 have f:=xf (a:=zv a) (p:=p);rw[Y<|yr ⟨W,W⟩ c,Y<|YC d (e.okS rx) c,zn];unfold Mh;rw[zG];simp only[Z4];rw[Y<|Cw f.1 W c]
def jk(p:J)(a:N U):N J:=nl (X a)<|λk=>cf a k%p
def UC(p:J)(a:N U)(k:K):ci (jk p a) k=cf a k%p:=DT (λk c=>by rw[ym c,xaq]) k
def mz(p:J)(a:N U):Cg p (ci<|jk p a) (cf a):=λk=>by rw[UC,xaR]
def JZ(hp:0<p)(a:N U):Fp p (jk p a):=⟨λk=>by rw[UC];exact(xf hp).1,λk=>by rw[UC];exact(xf hp).2,Ck _ _⟩
def zms(p:J)(a:N U):X (jk p a)<=X a:=Mi _ _
def Zp{k:K}{a:N U}(o:xa k a)(c:k<=40000)(h1:1<=p)(q:p<=65521)(hl:X a<=1000000:=by lia)(r:3000000<=fu:=by lia):Zw fu a p=Z (jk p a,0):=by
 unfold Zw;have hd:=qS (λk=>cf a k%p) (X a);rw[zG,Y (v:=zl (X a)<|λk=>cf a k%p)];rw[Y (v:=jk p a)];refine zB (λt:N J=>∃m,m<=X a/\t=zl m (λk=>cf a k%p)/\dg (λk=>cf a k%p) m=dg (λk=>cf a k%p) (X a)) (λt=>X t) _ ?_ _ _ ⟨X a,Nm _,O,O⟩ (by rw[ye];lia);rintro t L ⟨m,u,rfl,d⟩ j;unfold oo;rw[ye]
 cases m with
 |zero=>
  rw[zG];unfold jk nl;rw[<-d];rfl
 |succ m=>
  rw[yg,(W:((m+1:K):J)-1=(m:J)),zb,yn,F,uc];by_cases h0:cf a m%p=0
  rw[Q h0,zb,yF,y9,F,zcF];exact j _ ⟨m,W,O,by rw[<-Ay (f:=λk=>cf a k%p) h0,d]⟩<|by rw[ye,ye];lia
  rw[S h0];unfold jk nl;rw[<-d,ig (f:=λk=>cf a k%p) h0]
 unfold jw;rw[yF,y9,F,gJ,Y];refine zB (λs:J×N J=>∃i:K,i<=X a/\s=((i:J),zl (X a) (λk=>if k<i then cf a k%p else 0))) (λs=>X a-s.1.toNat) _ ?_ _ _ ⟨0,xaf _,by rw[y6 (g:=λk=>if k<0 then cf a k%p else 0)<|λk _=>by rw[zG]];rfl⟩ (by show X a-0<fu;lia);rintro s L ⟨i,hi,rfl⟩ j;unfold u6;simp only;by_cases h:i<X a;rw[yg,Y O];simp only[Z4];have e1:VL fu (i:J) (a.getD i (I,[])) p=Z (cf a i%p):=by unfold VL;rw[Y<|EB (o.okS c i) h1 q r];rfl
 rw[zm h,F,Y e1,zm (by rw[ye];exact h),F,Yh,zb];refine j _ ⟨i+1,W,?_⟩ (by show X a-((i:J)+1).toNat<X a-(i:J).toNat;lia);congr 1;refine y6 λk c=> ?_;unfold XV;by_cases e:k=i;rw[Q e,yg,e];rw[S e];show(if k<i then cf a k%p else 0)=_;by_cases n:k<i;rw[Q n,yg];rw[S n,zG];rw[zG,Y O];simp only[xaj,Z5];congr 1;exact y6 λk c=>by rw[yg]
def uk(l:N J):N U:=wO (X l)<|ci l
def jT(l:N J):cf (uk l)=ci l:=uT λk=>j7 (λk c=>yz c) k
def zad(l:N J):X (uk l)<=X l:=by unfold uk;rw[xE];exact qS _ _
def Rl.bz(h:Rl l)(k:K):Bz 1 (ci l k):=by have⟨h1,c⟩:=h k;unfold Bz;lia
def P5(h:Rl l):xa 1 (uk l):=xh h.bz
theorem uw(h:Rl l)(hl:X l<=1000000)(c:3000000<=fu):ja fu l=Z (uk l):=by
 unfold ja;rw[Y (v:=zi (X l)<|ci l)];rw[Y<|zK (Xq h.bz) rx (by rw[yw];lia) c,yw,FZ];rfl;unfold jA;rw[yF,y9,F,db,Y];refine zB (λs:J×N U=>∃i:K,i<=X l/\s=((i:J),zi (X l) (λk=>if k<i then ci l k else 0))) (λs=>X l-s.1.toNat) _ ?_ _ _ ⟨0,xaf _,by rw[xc (g:=λk=>if k<0 then ci l k else 0)<|λk _=>by rw[zG]];rfl⟩ (by show X l-0<fu;lia);rintro s L ⟨i,hi,rfl⟩ f;unfold Zy;simp only;by_cases h1:i<X l;have e1:XZ fu (i:J) (l.getD i 0)=Z (yC<|ci l i):=by unfold XZ;rw[JH,Y<|yr (h i) c]
 rw[yg,zm h1,F,Y e1,zm (by rw[yw];exact h1),F,dp,zb];refine f _ ⟨i+1,W,?_⟩ (by show X l-((i:J)+1).toNat<X l-(i:J).toNat;lia);congr 1;refine xc λk j=> ?_;unfold XV;by_cases e:k=i;rw[Q e,yg,e];rw[S e];show(if k<i then ci l k else 0)=_;by_cases d:k<i;rw[Q d,yg];rw[S d,zG];rw[zG];congr 1;exact xc λk j=>by rw[yg]
theorem Ig(h:Rl l)(hl:X l<=1000000)(c:3000000<=fu):Ua fu l=Z (uk l):=by grind [Ua,Y,uw]
def ZE(hp:qt p=wT)(d:Fp p a)(e:Fp p b)(hc:X a<=90000:=by lia)(hd:X b<=90000:=by lia)(f:3000000<=fu:=by lia):ku fu a b p=Z (xH p a b,0):=by have⟨g,c⟩:=zA hp;unfold ku;rw[Y<|Za hp,Q O,Y<|zN W c (d.rl c) W f,Y<|zN W c (e.rl c) W f,d.pm,e.pm,Y<|vg W c d e W W f]
def gA(hp:qt p=wT)(d:Fp p a)(e:Fp p b)(hc:X a<=90000)(hd:X b<=90000)(f:3000000<=fu):V8 fu a b p=Z (Wm p a b<|p-1,0):=by have⟨g,c⟩:=zA hp;unfold V8;rw[Y<|Za hp,Q O,Y<|zN W c (d.rl c) W f,Y<|zN W c (e.rl c) W f,d.pm,e.pm,zb,Y<|Kx W c d e W W W W f]
def UD(hp:qt p=wT)(c:Fp p a)(d:Fp p b)(hd:X a<=90000)(f:X b<=90000)(g:3000000<=fu):XA fu a b p=Z (decide<|a=b):=by
 have⟨i,j⟩:=zA hp;unfold XA;rw[Y<|gA hp c d hd f g];simp only;have e:=dW (p:=p) W a b<|p-1;have hc:=bK (p:=p) a b;by_cases h:a=b
 have hl:X (Wm p a b<|p-1)<=0:=e.nl.le λk _=>by
  have:=hc k;rw[e.mod,y8]at this;simp_all
 simp_all;rw[Ww h,if_neg];intro h0;refine h<|c.ext d<|Cg.iff_sub.2<|hc.symm.trans λk=> ?_;rw[yz W,zS]
end
section
variable{p:wF}{l:ww wF}{fu M i:wL}
def PlL(p:J)(l:N J):Prop:=(∀j,j<X l->0<=ci l j/\ci l j<p)/\1<X l/\ci l (X l-1)=1
def PlL.fp(hp:0<p)(h:PlL p l):Fp p l:=by refine⟨λk=> ?_,λk=> ?_,.inr<|by rw[h.2.2];decide⟩;by_cases a:k<X l;exact(h.1 k a).1;rw[yz W];lia;by_cases a:k<X l;exact(h.1 k a).2;rw[yz W];exact hp
theorem UK(hl:X l<=1000000)(n:3000000<=fu):∃b,X9 fu l p=Z b/\(b=wT↔PlL p l):=by
 unfold X9;have⟨r,e1,g⟩:=zM (f:=W3 fu l p) (λi:J=>∃j:K,i=(j:J)/\j<=X l/\∀t,t<j->0<=ci l t/\ci l t<p) (λi=>X l-i.toNat) (λr=>(r=.inl ()/\∀t,t<X l->0<=ci l t/\ci l t<p)\/(r=.inr ()/\¬∀t,t<X l->0<=ci l t/\ci l t<p)) (by
  rintro i L ⟨j,rfl,o,c⟩ k;unfold W3;by_cases h1:j<X l;rw[yg,zm h1,F,JH];by_cases a:ci l j<0;grind;rw[S a];by_cases d:p<=ci l j;rw[Q d];exact⟨_,O,.inr ⟨O,λe=>by have:=(e j h1).2;lia⟩⟩;rw[S d,zb];refine k _ ⟨j+1,O,W,λt ht=> ?_⟩ W;by_cases m:t=j;rw[m];lia;exact c t W
  rw[zG];exact⟨_,O,.inl ⟨O,λt ht=>c t W⟩⟩) fu 0 ⟨0,O,xaf _,λt h=>jp h (xbb _)⟩ (by show X l-0<fu;lia)
 rw[Y e1];rcases g with⟨rfl,h⟩|⟨rfl,h⟩
 simp only;by_cases h1:1<X l;rw[yg,(W:(X l:J)-1=((X l-1:K):J)),zb,yn,F,JH];by_cases a:ci l (X l-1)=1
 rw[Q a];exact⟨_,O,λ_=>⟨h,h1,a⟩,λ_=>O⟩;rw[S a];exact⟨_,O,λe=>jp e rx,λe=>jp e.2.2 a⟩;rw[zG];exact⟨_,O,λe=>jp e rx,λe=>jp e.2.1 h1⟩;exact⟨_,O,λe=>jp e rx,λe=>jp e.1 h⟩
def Jk(p:J)(fs:N (N J)):N J:=fs.foldl (xH p) [1]
def prZ:N Pz->Pz
 |[]=>pc 1
 |f::r=>f*prZ r
theorem vo:∀(a b:N Pz),prZ (a++b)=prZ a*prZ b
 |[],b=>(zE _).symm
 |f::r,b=>by show f*prZ (r++b)=f*prZ r*prZ b;rw[vo r b,zd]
def zec(p:J):∀(fs:N (N J)) (t:N J),Cg p (ci<|fs.foldl (xH p) t) (ci t*prZ (fs.map ci))
 |[],t=>by show Cg p (ci t) (ci t*pc 1);rw[yp];exact Cg.rfl
 |f::r,t=>by refine(zec p r<|xH p t f).trans<|((ZU p t f).mul Cg.rfl).trans<|Cg.of<|zd _ _ _
def se(p:J)(fs:N (N J)):Cg p (ci<|Jk p fs) (prZ<|fs.map ci):=by have:=zec p fs [1];rw[j8,zE]at this;exact this
def zdy{p:J}(hp:0<p):∀(fs:N (N J)) {t:N J},Fp p t->Fp p (fs.foldl (xH p) t)
 |[],_,h=>h
 |f::r,t,h=>zdy hp r<|jj hp t f
def gf(hp:2<=p)(fs:N (N J)):Fp p (Jk p fs):=zdy W fs<|Q3
theorem zdh{p:J}{M:K}:∀{fs:N (N J)}{t:N J},(∀f∈fs,X f<=M)->X (fs.foldl (xH p) t)<=X t+X fs*M
 |[],_,_=>by simp
 |f::r,t,h=>by
  have h1:=zdh (p:=p) (t:=xH p t f) λg a=>h g<|FS _ a;have b:=jK p t f;show(r.foldl (xH p)<|xH p t f).length<=X t+(X r+1)*M;grind
def lQ{fs:N (N J)}(h:∀f∈fs,X f<=M):X (Jk p fs)<=1+X fs*M:=zdh h
theorem Lj{l:N (N J)}(h:i<X l):l.getD i []∈l:=by grind
theorem zfn{l:N (N J)}(h:i<X l):l.take (i+1)=l.take i++[l.getD i []]:=by grind [xeV]
def jH{fs:N (N J)}(hp:qt p=wT)(d:∀f∈fs,Fp p f)(a:∀f∈fs,X f<=M)(g:1+X fs*M<=90000)(h:M<=90000)(hc:X fs<=90000:=by lia)(b:3000000<=fu:=by lia):qw fu fs p=Z (Jk p fs):=by have⟨j,k⟩:=zA hp;unfold qw;rw[Y (v:=Jk p fs)];refine zB (λs:N J×J=>∃i:K,i<=X fs/\s=(Jk p<|fs.take i,(i:J))) (λs=>X fs-s.2.toNat) _ ?_ _ _ ⟨0,xaf _,O⟩ (by show X fs-0<fu;lia);rintro s L ⟨i,hi,rfl⟩ e;unfold K2;simp only;by_cases h1:i<X fs;have c:=Lj h1;have hl:=lQ (p:=p) (fs:=fs.take i) (M:=M) λf b=>a f<|xes b;have hd:X (fs.take i)*M<=X fs*M:=xac _<|List.length_take_le' ..;have m:=a _ c;rw[yg,zm h1,F,Y<|ZE hp (gf W _)<|d _ c];simp only;rw[zb];refine e _ ⟨i+1,W,?_⟩ (by show X fs-((i:J)+1).toNat<X fs-(i:J).toNat;lia);congr 1;unfold Jk;rw[zfn h1,List.foldl_append];rfl;rw[zG,xaW W]
def km(p:J)(f g:Pz):Prop:=∃s t:Pz,Fs s/\Fs t/\Cg p (s*f+t*g) (pc 1)
theorem km.symm{f g:Pz}(h:km p f g):km p g f:=by have⟨s,t,a,z2,h⟩:=h;refine⟨t,s,z2,a,(Cg.of ?_).trans h⟩;funext k;rw[zX,zX,Int.add_comm]
def km.mul{p:J}{f g h:Pz}(c:Fs g)(d:Fs h)(e:Fs f)(h1:km p f h)(a:km p g h):km p (f*g) h:=by have⟨s,t,b,z2,h1⟩:=h1;have⟨u,v,z3,z4,a⟩:=a;refine⟨s*u,s*f*v+t*(u*g+v*h),b.mul z3,((b.mul e).mul z4).add<|z2.mul<|(z3.mul c).add<|z4.mul d,Cg.trans (Cg.of ?_)<|(h1.mul a).trans<|Cg.of<|zE _⟩;simp only[wI,zF,zo];funext k;simp only[zX];lia
def km.one(p:J)(h:Pz):km p (pc 1) h:=⟨pc 1,pc 0,Fs.pc 1,Fs.pc 0,Cg.of (by rw[zE,yB];funext k;rw[zX,zS,xbY])⟩
theorem Fs.prZ:∀{fs:N Pz},(∀f∈fs,Fs f)->Fs (prZ fs)
 |[],_=>Fs.pc 1
 |f::r,a=>(a f<|IR).mul<|Fs.prZ λg b=>a g<|FS _ b
theorem km.prZ{p:J}{h:Pz}(c:Fs h):∀{fs:N Pz},(∀f∈fs,Fs f)->(∀f∈fs,km p f h)->km p (prZ fs) h
 |[],_,_=>km.one p h
 |f::r,b,d=>km.mul (Fs.prZ λg a=>b g<|FS _ a) c (b f<|IR) (d f<|IR)<|km.prZ c (λg a=>b g<|FS _ a) λg a=>d g<|FS _ a
def NX{g h d s t:N J}{S:K}(a:BzR p g h d s t S)(hl:X d=1)(h1:ci d (X d-1)=1):km p (ci g) (ci h):=by
 have e:ci d=pc 1:=by
  funext k;unfold pc;by_cases b:k=0
  simp_all;rw[ir b,yz W]
 have:=a.cg;rw[e]at this;exact⟨ci s,ci t,Fs.ci s,Fs.ci t,this.symm⟩
structure gW(p:J)(a:N U)(fs:N (N J)):Prop where
 a0:a.length≠0
 al:(jk p a).length=a.length
 fl:fs.length<=a.length
 pl:∀i,i<fs.length->(fs.getD i []).length<=a.length/\PlL p (fs.getD i [])
 cp:∀i j,i<fs.length->j<i->km p (ci<|fs.getD i []) (ci<|fs.getD j [])
 pr:xH p (Jk p fs) [ci (jk p a)<|a.length-1]=jk p a
def SJ{f:N J}{fs:N (N J)}(hp:qt p=wT)(hc:Fp p f)(hd:X f<=290)(hi:i<=X fs)(hl:i<=1000000)(c:∀j,j<i->Fp p (fs.getD j [])/\X (fs.getD j [])<=290)(g:3000000<=fu):
 ∃r,zg (jS fu p f<|fs.take i) fu 0=Z r/\(r=.inl ()->∀j,j<i->km p (ci f) (ci<|fs.getD j [])):=by
 have w:X (fs.take i)=i:=by rw[xas];lia
 have k:∀j,j<i->(fs.take i).getD j []=fs.getD j []:=λj a=>by rw[UV,xbK,Q a,<-UV]
 refine zM (λx:J=>∃j:K,x=(j:J)/\j<=i/\∀t,t<j->km p (ci f) (ci<|fs.getD t [])) (λx=>i-x.toNat) _ ?_ _ _ ⟨0,O,xaf _,λt h=>jp h<|xbb _⟩ (by show i-0<fu;lia);rintro x L ⟨j,rfl,a,b⟩ m;unfold jS;by_cases h1:j<i;have⟨k1,k2⟩:=c j h1;have⟨d,s,t,e1,n,o⟩:=uX (fu:=fu) hp hc k1 hd k2 g;rw[yg,yn,F,k j h1];have q:kv fu f (fs.getD j []) p=Z (d,0):=by unfold kv;rw[Y e1]
 rw[Y q];simp only;by_cases u:X d=1
 rw[yg,zb];refine m _ ⟨j+1,O,W,λt ht=> ?_⟩ W;by_cases v:t=j;rw[v];exact NX n u<|o.resolve_left W
 exact b t W
 rw[zG];exact⟨_,O,λe=>jp e rC⟩;rw[zG];exact⟨_,O,λ_ t ht=>b t W⟩
def Ae{k:K}{a:N U}{fs:N (N J)}(hp:qt p=wT)(s:xa k a)(u:k<=40000)(D:X a<=66)(d:3000000<=fu):
 ∃b,vE fu a fs p=Z b/\(b=wT->gW p a fs):=by
 have⟨E,v⟩:=zA hp;unfold vE;rw[Y<|Zp s u W v];simp only;by_cases h0:X a=0
 simp_all;rw[zG];by_cases hl:X (jk p a)=X a;rw[yg];by_cases hv:X a<X fs;simp_all;rw[zG]
 have⟨r,e1,w⟩:=zM (f:=ke fu a fs p) (λx:J×N J=>∃i:K,x=((i:J),jk p a)/\i<=X fs/\(∀t,t<i->X (fs.getD t [])<=X a/\PlL p (fs.getD t []))/\∀t j,t<i->j<t->km p (ci<|fs.getD t []) (ci<|fs.getD j [])) (λx=>X fs-x.1.toNat)
  (λr=>r=.inr ()\/(r=.inl (jk p a)/\(∀t,t<X fs->X (fs.getD t [])<=X a/\PlL p (fs.getD t []))/\∀t j,t<X fs->j<t->km p (ci<|fs.getD t []) (ci<|fs.getD j []))) (by
   rintro x L ⟨i,rfl,hi,g1,g⟩ y;unfold ke;simp only;by_cases h1:i<X fs;rw[yg,Y O];simp only[Z4];rw[zm h1,F];by_cases G:X a<X (fs.getD i []);rw[yg];exact⟨_,O,.inl O⟩;have⟨b,b1,b2⟩:=UK (fu:=fu) (l:=fs.getD i []) (p:=p) W d;rw[zG,Y b1]
   cases b with
   |false=>
    rw[Q rx];exact⟨_,O,.inl O⟩
   |true=>
    have hd:=b2.1 O;rw[S rx,yF,y9,F];have⟨q,q1,q2⟩:=SJ (fu:=fu) (i:=i) (fs:=fs) hp (hd.fp W) W W W (λj c=>⟨(g1 j c).2.fp W,by have:=(g1 j c).1;lia⟩) d;rw[Y q1];obtain q|q:=q
    simp only;rw[zb];refine y _ ⟨i+1,O,W,λt ht=> ?_,λt j ht c=> ?_⟩ (by show X fs-((i:J)+1).toNat<X fs-(i:J).toNat;lia);by_cases n:t=i;rw[n];exact⟨W,hd⟩;exact g1 t W
    by_cases n:t=i;rw[n]at c⊢;exact q2 O j c;exact g t j W c;exact⟨_,O,.inl O⟩
   rw[zG,Y O];simp only[xaj,Z5];exact⟨_,O,.inr ⟨O,λt ht=>g1 t W,λt j ht c=>g t j W c⟩⟩) fu (0,jk p a) ⟨0,O,xaf _,λt h=>jp h (xbb _),λt j h=>jp h (xbb _)⟩ (by show X fs-0<fu;lia)
 rw[Y e1];obtain rfl|⟨rfl,g1,g⟩:=w
 exact⟨_,O,λe=>jp e rx⟩
 simp only;have hc:∀{q:N J->Prop},(∀t,t<X fs->q (fs.getD t []))->∀f∈fs,q f:=λ{q} h f d=>by
  obtain⟨j,c,rfl⟩:=xcr.1 d;have:=h j c;rw[UV,xaa c]at this;exact this
 have hn:∀f∈fs,Fp p f:=hc λt ht=>(g1 t ht).2.fp W;have o:∀f∈fs,X f<=66:=hc λt ht=>by have:=(g1 t ht).1;lia
 have H:X fs*66<=66*66:=xac _ W;have hd:=lQ (p:=p) o;have m:=JZ (p:=p) W a;have P:ci (jk p a) (X a-1)≠0:=by
  obtain h|h:=m.nl
  lia;rw[hl]at h;exact h
 have R:=m.nn<|X a-1;have z:=m.lt<|X a-1;have A:(jk p a).drop (X a-1)=[ci (jk p a)<|X a-1]:=by rw[xbX W,xbQ W];unfold ci;rw[UV,xaa W];rfl
 have B:=Q3 (p:=p) (x:=ci (jk p a)<|X a-1) W z;have C:=jK p (Jk p fs) [ci (jk p a)<|X a-1];simp only[xaw,xbV]at C;rw[Y (jH hp hn o W rx),hl,(W:(X a:J)-1=((X a-1:K):J)),zb,yF,y9,F,A,Y<|ZE hp (gf W fs) B W rC];simp only;rw[Y<|UD hp (jj W _ _) m W W d];exact⟨_,O,λe=>⟨h0,hl,W,g1,g,WL e⟩⟩;rw[zG];exact⟨_,O,λe=>jp e rx⟩
end
section
variable{k fu K:wL}{a b d f g h s:ww Zr}{m:wF}
def dq(a b:N U):N U:=wO (max (X a) (X b))<|λj=>cf a j+cf b j
def zdP(a b:N U)(k:wL):cf (dq a b) k=cf a k+cf b k:=j7 (λj c=>Qq c) k
def iu(a b:N U):X (dq a b)<=max (X a) (X b):=by unfold dq;rw[xE];exact qS _ _
def tL(c:xa k a)(e:xa k b):xa (k+1) (dq a b):=xh λj=>(c.bz j).add<|e.bz j
def Ak(c:xa k a)(e:xa k b)(i:k+1<=100000)(hc:X a<=1000000)(hd:X b<=1000000)(j:3000000<=fu):qf fu a b=Z (dq a b):=lP c e i hc hd j
def zaw:N U:=uk [1]
def zlm:(cf zaw:Pz)=pc 1:=by unfold zaw;rw[jT,j8]
def zis:X zaw<=1:=zad [1]
def zh8:Rl [1]:=λk=>by
 rw[j8];unfold pc;split<;>exact⟨rx,rx⟩
def zdR:xa 1 zaw:=P5 zh8
def gH(f g h:N U)(m:J):N U:=vH (ef f<|xd g h) m
def Hd(x d:N U)(m:J):N U:=H5 (vH x m) d m
def Dr(x d:N U)(m:J):N U:=Vq (vH x m) d m
def puG(f g h s t:N U)(m:J):N U:=vH (dq g<|dq (xd t<|gH f g h m)<|xd (Hd (xd s<|gH f g h m) h m) g) m
def Ie(f g h s:N U)(m:J):N U:=vH (dq h<|Dr (xd s<|gH f g h m) h m) m
def nV(g h s t:N U)(m:J):N U:=vH (ef (dq (xd s g)<|xd t h) zaw) m
def puS(g h s t:N U)(m:J):N U:=vH (ef s<|Dr (xd s<|nV g h s t m) h m) m
def puT(g h s t:N U)(m:J):N U:=vH (ef t<|dq (xd t<|nV g h s t m)<|xd (Hd (xd s<|nV g h s t m) h m) g) m
def zi2{x:N U}(c:Bz K m)(h0:0<m):xa K (Hd x d m):=xh λj=>c.emod h0
def zhp{x:N U}(c:Bz K m)(h0:0<m):xa K (Dr x d m):=xh λj=>c.emod h0
theorem zdQ(x d:N U)(m:J):X (Hd x d m)<=X x+1:=by grind [H5,Hd,xE,XG,qS]
theorem zdj(x d:N U)(m:J):X (Dr x d m)<=X x:=by grind [Vq,Dr,xE,qS,XG]
def LX{x:N U}(c:0<X d)(hc:cf d (X d-1)=1):X (Dr x d m)<X d:=HC c hc
def zcJ(i:2<=m)(hl:0<X h)(h1:cf h (X h-1)=1):X (Ie f g h s m)=X h/\cf (Ie f g h s m) (X h-1)=1:=by
 have j:=LX (x:=xd s<|gH f g h m) (m:=m) hl h1;have e:∀k,cf (Ie f g h s m) k=(cf h k+cf (Dr (xd s<|gH f g h m) h m) k)%m:=λk=>by unfold Ie;rw[uQ,zdP]
 have e1:cf (Ie f g h s m) (X h-1)=1:=by rw[e,h1,ym (p:=Dr _ _ _) W];exact xaJ rx W
 refine⟨xcF (Py (cd _ _) λk c=> ?_)<|xbz λl=> ?_,e1⟩;have:=e k;unfold Ie at this;rw[this,ym c,ym (p:=Dr _ _ _) W,xbY,xaq];rw[ym W]at e1;cases e1
def nN{W:wL}{t:N U}{m:U}(H:xa K f)(n:xa K g)(u:xa K h)(j:xa K s)(ht:xa K t)(lf:X f<=W)(lg:X g<=W)(lh:X h<=W)(ls:X s<=W)(lt:X t<=W)(hW:W<=5000)(hi:1<=K)(hK:K<=1000)(hc:zp m.2)(hd:X m.2<=K)(h2:2<=zv m)(hl:0<X h)(h1:cf h (X h-1)=1)(e:3000000<=fu):
 jR fu [g,h,s,t] f m=Z [puG f g h s t<|zv m,Ie f g h s<|zv m,puS (puG f g h s t<|zv m) (Ie f g h s<|zv m) s t<|zv m,puT (puG f g h s t<|zv m) (Ie f g h s<|zv m) s t<|zv m]:=by
 have l:Bz K (zv m):=(Bz.of hc).mono hd;have o:fF m:=⟨hc,pM⟩;have h0:0<zv m:=pM
 unfold jR;rw[FO (i:=0) rx,F,FO (i:=1) rx,F,FO (i:=2) rx,F,FO (i:=3) rx,F,show[g,h,s,t].getD (Int.toNat 0) []=g from O,show[g,h,s,t].getD (Int.toNat 1) []=h from O,show[g,h,s,t].getD (Int.toNat 2) []=s from O,show[g,h,s,t].getD (Int.toNat 3) []=t from O];have p:=XW n u;have l1:=uu g h;have L:=bW f<|xd g h;rw[Y<|wa n u pM pM e,Y<|ZL (k:=K+K+X g) (H.mono pM) p pM pM pM e,Y<|XM (DH (H.mono pM) p) pM o h0,show vH (ef f<|xd g h) (zv m)=gH f g h (zv m)from O];have v:xa K (gH f g h<|zv m):=dC l h0;have le:X (gH f g h<|zv m)<=W+W:=xal (XG _ _) pM;have w:=XW j v;have M:=uu s<|gH f g h<|zv m;have D:=zi2 (x:=xd s<|gH f g h<|zv m) (d:=h) l h0;have pr:=zhp (x:=xd s<|gH f g h<|zv m) (d:=h) l h0;have lq:=zdQ (xd s<|gH f g h<|zv m) h<|zv m;have lr:=zdj (xd s<|gH f g h<|zv m) h<|zv m;rw[Y<|wa j v pM pM e,Y<|Jg w pM u hc hd h0 hl pM pM e,show H5 (vH (xd s<|gH f g h<|zv m)<|zv m) h (zv m)=Hd (xd s<|gH f g h<|zv m) h (zv m)from O,show Vq (vH (xd s<|gH f g h<|zv m)<|zv m) h (zv m)=Dr (xd s<|gH f g h<|zv m) h (zv m)from O];simp only;have q:=XW ht v;have P:=uu t<|gH f g h<|zv m;have y:=XW D n;have Q:=uu (Hd (xd s<|gH f g h<|zv m) h<|zv m) g;have r:=tL (k:=K+K+W+W+W+1) (q.mono pM) (y.mono pM);have R:=iu (xd t<|gH f g h<|zv m)<|xd (Hd (xd s<|gH f g h<|zv m) h<|zv m) g;have z:=tL (k:=K+K+W+W+W+2) (n.mono pM) r;have S:=iu g<|dq (xd t<|gH f g h<|zv m)<|xd (Hd (xd s<|gH f g h<|zv m) h<|zv m) g;rw[Y<|wa ht v pM pM e,Y<|wa D n pM pM e,Y<|Ak (k:=K+K+W+W+W+1) (q.mono pM) (y.mono pM) pM pM pM e,Y<|Ak (k:=K+K+W+W+W+2) (n.mono pM) r pM pM pM e,Y<|XM z pM o h0,show vH (dq g<|dq (xd t<|gH f g h<|zv m)<|xd (Hd (xd s<|gH f g h<|zv m) h<|zv m) g) (zv m)=puG f g h s t (zv m)from O];have T:=iu h<|Dr (xd s<|gH f g h<|zv m) h<|zv m;rw[Y<|Ak u pr pM pM pM e,Y<|XM (tL u pr) pM o h0,show vH (dq h<|Dr (xd s<|gH f g h<|zv m) h<|zv m) (zv m)=Ie f g h s (zv m)from O];have⟨hj,hk⟩:=zcJ (f:=f) (g:=g) (s:=s) h2 hl h1;have B:xa K (puG f g h s t<|zv m):=dC l h0;have E:xa K (Ie f g h s<|zv m):=dC l h0;have lG:X (puG f g h s t<|zv m)<=4*W+1:=xal (XG _ _) pM;clear l1 L M P Q R S T p w q y r z v le D pr lq lr;generalize puG f g h s t (zv m)=G at*
 generalize Ie f g h s (zv m)=c at*
 have p:=XW j B;have l1:=uu s G;have w:=XW ht E;have L:=uu t c;have q:=tL (k:=K+K+W) (p.mono pM) (w.mono pM);have M:=iu (xd s G)<|xd t c;have P:=bW (dq (xd s G)<|xd t c) zaw;have Q:=zis;rw[Y<|wa j B pM pM e,Y<|wa ht E pM pM e,Y<|Ak (k:=K+K+W) (p.mono pM) (w.mono pM) pM pM pM e];rw[Y<|Ig zh8 rx e,show uk [1]=zaw from O,Y<|ZL q (zdR.mono pM) pM pM pM e,Y<|XM (DH q<|zdR.mono pM) pM o h0,show vH (ef (dq (xd s G)<|xd t c) zaw) (zv m)=nV G c s t (zv m)from O];have C:xa K (nV G c s t<|zv m):=dC l h0;have lb:X (nV G c s t<|zv m)<=5*W+2:=xal (XG _ _) pM;have y:=XW j C;have R:=uu s<|nV G c s t<|zv m;have A:=zi2 (x:=xd s<|nV G c s t<|zv m) (d:=c) l h0;have pd:=zhp (x:=xd s<|nV G c s t<|zv m) (d:=c) l h0;have lc:=zdQ (xd s<|nV G c s t<|zv m) c<|zv m;have ld:=zdj (xd s<|nV G c s t<|zv m) c<|zv m;have S:=bW s<|Dr (xd s<|nV G c s t<|zv m) c<|zv m;rw[Y<|wa j C pM pM e,Y<|Jg y pM E hc hd h0 pM pM pM e,show H5 (vH (xd s<|nV G c s t<|zv m)<|zv m) c (zv m)=Hd (xd s<|nV G c s t<|zv m) c (zv m)from O,show Vq (vH (xd s<|nV G c s t<|zv m)<|zv m) c (zv m)=Dr (xd s<|nV G c s t<|zv m) c (zv m)from O];simp only;rw[Y<|ZL j pd pM pM pM e,Y<|XM (DH j pd) pM o h0,show vH (ef s<|Dr (xd s<|nV G c s t<|zv m) c<|zv m) (zv m)=puS G c s t (zv m)from O];have r:=XW ht C;have T:=uu t<|nV G c s t<|zv m;have z:=XW A B;have l9:=uu (Hd (xd s<|nV G c s t<|zv m) c<|zv m) G;have V:=tL (k:=K+K+6*W+3) (r.mono pM) (z.mono pM);have a0:=iu (xd t<|nV G c s t<|zv m)<|xd (Hd (xd s<|nV G c s t<|zv m) c<|zv m) G;have a1:=bW t<|dq (xd t<|nV G c s t<|zv m)<|xd (Hd (xd s<|nV G c s t<|zv m) c<|zv m) G;rw[Y<|wa ht C pM pM e,Y<|wa A B pM pM e,Y<|Ak (k:=K+K+6*W+3) (r.mono pM) (z.mono pM) pM pM pM e,Y<|ZL (ht.mono pM) V pM pM pM e,Y<|XM (DH (ht.mono pM) V) pM o h0,show vH (ef t<|dq (xd t<|nV G c s t<|zv m)<|xd (Hd (xd s<|nV G c s t<|zv m) c<|zv m) G) (zv m)=puT G c s t (zv m)from O]
end
section
variable{d f g h s:ww Zr}{m:wF}
def Wk(a:N U)(m:J):Cg m (cf<|vH a m) (cf a):=λk=>by rw[uQ,xaR]
def MV(a b:N U):(cf (ef a b):Pz)=cf a-cf b:=uT λk=>zc3 a b k
def FP(a b:N U):(cf (dq a b):Pz)=cf a+cf b:=uT λk=>zdP a b k
def zjX{x:N U}(b:0<X d)(hc:cf d (X d-1)=1):Cg m (cf x) ((cf (Hd x d m):Pz)*cf d+cf (Dr x d m)):=by
 intro k;unfold Hd Dr;rw[zX,<-ur,py W b hc,xeh,xaR,<-xeh];have c:=uQ x m k;generalize vH x m=r at*
 have⟨qn,a⟩:∃qn,qn=X r+1-X d:=⟨_,O⟩;have hd:∀j,j<qn->cf (H5 r d m) j=dvC r d m qn j:=λj i=>by
  rw[zc8];unfold dvQ dvC;simp_all
 have e:X (H5 r d m)<=qn:=by unfold H5;rw[xE,<-a];exact qS _ _
 have h:=zdd hd k qn<|Nm _;rw[Dk,PR e]at h;rw[NW,<-a,Int.add_comm,<-h,c,xaR]
def gL{n x:J}(hn:n∣m)(a:n∣x):n∣x%m:=by rw[Int.emod_def];exact xdt a<|xbw hn<|xbZ _ _
def DF{r d:N U}{n m:J}{qn:K}(hn:n∣m)(a:∀k,n∣cf r k):∀s k,n∣dvF r d m qn s k
 |0,k=>a k
 |s+1,k=>xdt (DF hn a s k)<|xbw (gL hn<|DF hn a s _)<|xbZ _ _
def zgS{x:N U}{n:J}(hn:n∣m)(b:Cg n (cf x) (pc 0))(c:0<X d)(hc:cf d (X d-1)=1):Cg n (cf<|Hd x d m) (pc 0)/\Cg n (cf<|Dr x d m) (pc 0):=by
 have a:∀k,n∣cf (vH x m) k:=λk=>by rw[uQ];exact gL hn<|b.dvd k
 refine⟨Cg.of_dvd λk=> ?_,Cg.of_dvd λk=> ?_⟩;unfold Hd;rw[zc8];refine gL hn ?_;unfold dvQ;split;exact gL hn<|DF hn a _ _;simp_all;unfold Dr;rw[py W c hc];exact gL hn<|DF hn a _ _
def zoI{n:J}(c:m∣n*n)(hn:n∣m){t:N U}(h1:Cg n (cf f) ((cf g:Pz)*cf h))(e:Cg n ((cf s:Pz)*cf g+(cf t:Pz)*cf h) (pc 1))(a:0<X h)(hc:cf h (X h-1)=1):
 Cg m (cf f) ((cf (puG f g h s t m):Pz)*cf (Ie f g h s m))/\Cg n (cf<|puG f g h s t m) (cf g)/\Cg n (cf<|Ie f g h s m) (cf h):=by
 have b:Cg m (cf<|gH f g h m) ((cf f:Pz)-(cf g:Pz)*cf h):=by refine(Wk _ _).trans<|Cg.of ?_;rw[MV,ur]
 have i:Cg n (cf<|gH f g h m) (pc 0):=(b.down hn).trans<|Cg.iff_sub.1 h1;have hd:Cg m ((cf s:Pz)*cf (gH f g h m)) ((cf (Hd (xd s<|gH f g h m) h m):Pz)*cf h+cf (Dr (xd s<|gH f g h m) h m)):=by rw[<-ur];exact zjX a hc
 have⟨j,z2⟩:=zgS (x:=xd s<|gH f g h m) (d:=h) hn (by rw[ur];exact i.mul_zero_l _) a hc;refine zgH c hn (q:=cf<|Hd (xd s<|gH f g h m) h m) (r:=cf<|Dr (xd s<|gH f g h m) h m) h1 e b hd j z2 ?_ ?_;refine(Wk _ _).trans<|Cg.of ?_;rw[FP,FP,ur,ur];refine(Wk _ _).trans<|Cg.of ?_;rw[FP]
def zo9{n:J}(a:m∣n*n)(hn:n∣m){t:N U}(b:Cg n ((cf s:Pz)*cf g+(cf t:Pz)*cf h) (pc 1))(c:0<X h)(hc:cf h (X h-1)=1):
 Cg m ((cf (puS g h s t m):Pz)*cf g+(cf (puT g h s t m):Pz)*cf h) (pc 1):=by
 have e:Cg m (cf<|nV g h s t m) ((cf s:Pz)*cf g+(cf t:Pz)*cf h-pc 1):=by refine(Wk _ _).trans<|Cg.of ?_;rw[MV,FP,ur,ur,zlm]
 have hd:Cg m ((cf s:Pz)*cf (nV g h s t m)) ((cf (Hd (xd s<|nV g h s t m) h m):Pz)*cf h+cf (Dr (xd s<|nV g h s t m) h m)):=by rw[<-ur];exact zjX c hc
 refine zfY a hn b e hd ?_ ?_;refine(Wk _ _).trans<|Cg.of ?_;rw[MV];refine(Wk _ _).trans<|Cg.of ?_;rw[MV,FP,ur,ur]
def zde{a b:N U}(e:0<X a)(hc:0<X b)(c:cf b (X b-1)=1):((cf a:Pz)*cf b) (X a-1+(X b-1))=cf a (X a-1):=by
 rw[vt,w5 (i:=X a-1) λi hi=> ?_,yg,(W:X a-1+(X b-1)-(X a-1)=X b-1),c,xcO];by_cases h:i<X a-1
 rw[ym (p:=b) W,xaA];rw[ym W,xbc]
theorem zd1(q:2<=m)(c:vH g m=g)(e:vH f m=f)(r:0<X f)(hl:0<X h)(hn:cf h (X h-1)=1)(hc:Cg m (cf f) ((cf g:Pz)*cf h)):
 X f=X g+(X h-1)/\0<X g/\cf g (X g-1)=cf f (X f-1):=by
 have l:=cd g m;have a:=cd f m;rw[c]at l;rw[e]at a;have o:∀k,cf g k%m=cf g k:=λk=>by rw[<-uQ,c]
 have hd:∀k,cf f k%m=cf f k:=λk=>by rw[<-uQ,e]
 have hp:=XC a W;have g0:0<X g:=by refine xcP λh0=>hp ?_;rw[<-hd,hc,vt,xb λi hi=>by rw[ym (p:=g) W,xbc],xaq]
 have t:=XC l W;have ht:=hc<|X g-1+(X h-1);rw[zde g0 hl hn,hd,o]at ht;have e1:X f=X g+(X h-1):=by refine xcF (Py a λk u=> ?_)<|xbz λv=> ?_;rw[<-hd,hc,uE (n:=X g) (m:=X h) (λj b=>ym b)<|λj b=>ym b,xaq];rw[ym (p:=f) W]at ht;lia
 grind
end
section
variable{r0 r1 a b K fu:wL}{u0 u1 v0 v1:wF}
structure ZbI(a b:wL)(r0 r1:wL)(u0 v0 u1 v1:J):Prop where
 p0:0<r0
 le0:r0<=max a b
 le1:r1<=max a b
 e0:u0*a+v0*b=r0
 e1:u1*a+v1*b=r1
 g:xdk r0 r1=xdk a b
 su:∃x y:wL,((u0=x/\u1= -y)\/(u0= -x/\u1=y))/\r0*y+r1*x=b
 sv:∃x y:wL,((v0=x/\v1= -y)\/(v0= -x/\v1=y))/\r0*y+r1*x=a
 bu0:u0.natAbs<=b
 bu1:u1.natAbs<=b
 bv0:v0.natAbs<=a
 bv1:v1.natAbs<=a
def P7{c:wL}(i:0<r1)(h:∃x y:wL,((u0=x/\u1= -y)\/(u0= -x/\u1=y))/\r0*y+r1*x=c):
 (∃x y:wL,((u1=x/\u0-((r0/r1:wL):J)*u1= -y)\/(u1= -x/\u0-((r0/r1:wL):J)*u1=y))/\r1*y+r0%r1*x=c)/\(u0-((r0/r1:wL):J)*u1).natAbs<=c:=by
 have⟨x,y,g,j⟩:=h;have hc:=xbu r0 r1;generalize r0/r1=q at*
 generalize r0%r1=r2 at*
 have e1:r1*(x+q*y)+r2*y=c:=by
  rw[xcp,<-xbn];have:r0*y=r1*q*y+r2*y:=by rw[<-xbk,hc]
  lia
 have k:x+q*y<=c:=by have l:1*(x+q*y)<=r1*(x+q*y):=xac _ W;lia
 have f:((q*y:wL):J)=(q:J)*(y:J):=rC
 rcases g with⟨d,e⟩|⟨d,e⟩
 rw[d,e,Int.mul_neg,<-f];exact⟨⟨y,x+q*y,.inr ⟨O,W⟩,e1⟩,W⟩;rw[d,e,<-f];exact⟨⟨y,x+q*y,.inl ⟨O,W⟩,e1⟩,W⟩
theorem ZbI.step(h:ZbI a b r0 r1 u0 v0 u1 v1)(c:0<r1):ZbI a b r1 (r0%r1) u1 v1 (u0-((r0/r1:wL):J)*u1) (v0-((r0/r1:wL):J)*v1):=by
 have⟨d,e⟩:=P7 c h.su;have⟨t1,t2⟩:=P7 c h.sv;have hd:=xbu r0 r1;have i:=xaP r0 c;have f:=h.le1;refine⟨c,f,W,h.e1,?_,?_,d,t1,h.bu1,e,h.bv1,t2⟩;have e0:=h.e0;have e1:=h.e1;have hc:(r0:J)=(r1:J)*((r0/r1:wL):J)+((r0%r1:wL):J):=W
 grind;rw[<-h.g,xdF r1,<-Nat.gcd_rec,xdF]
theorem Bz.nat{n:wL}(h:n<18446744073709551616^K):Bz K (n:J):=by unfold Bz;exact h
def nS{q x0 e z0 f g h:J}(c:Bz K q)(h1:Bz K x0)(l:Bz K e)(m:Bz K z0)(i:Bz K f)(j:Bz K g)(k:Bz K h)(n:K<=10000)(d:3000000<=fu):
 ZV fu (yC x0,(yC e,yC z0)) (yC q) (yC f,(yC g,yC h))=Z (yC<|x0-q*f,(yC<|e-q*g,yC<|z0-q*h)):=by
 unfold ZV;have b1:=c.mul i;have b2:=c.mul j;have b3:=c.mul k;rw[Y<|yi (c.ok W) (i.ok W) d,zn,zn,Y<|qg (h1.ok W) (b1.ok W) d,zn,zn,Y<|yi (c.ok W) (j.ok W) d,zn,zn,Y<|qg (l.ok W) (b2.ok W) d,zn,zn,Y<|yi (c.ok W) (k.ok W) d,zn,zn,Y<|qg (m.ok W) (b3.ok W) d,zn,zn]
def Pb(h:r1<=r0:=by lia)(c:0<r1:=by lia):bl (r0%r1)<bl r0:=by
 have f:=xbu r0 r1;have hc:=xaP r0 c;have d:1<=r0/r1:=(xcu c).2 W;have h1:r1*1<=r1*(r0/r1):=xaG _ d;have g:=E5 r0;have hp:1<=bl r0:=by rw[lD];lia
 have e:2^bl r0=2*2^(bl r0-1):=by rw[<-xdQ,(W:(bl r0-1).succ=bl r0)]
 have:=bU (n:=r0%r1) (k:=bl r0-1) W;lia
def zeQ(q:a<18446744073709551616^K)(t:b<18446744073709551616^K)(w:K<=1000)(f:3000000<=fu)(c:ZbI a b r0 r1 u0 v0 u1 v1):
 ∃r,zg (Q9 fu) fu ((yC r0,(yC u0,yC v0)),(yC r1,(yC u1,yC v1)))=Z r/\∃u v:J,r=(yC (xdk a b:wL),(yC u,yC v))/\u*a+v*b=(xdk a b:wL)/\u.natAbs<=b/\v.natAbs<=a:=by
 have hc:∀{n:wL},n<=max a b->bl n<=64*K:=λ{n} hn=>bU (by rw[xcg,LN];lia)
 refine zM (λs:(U×(U×U))×(U×(U×U))=>∃(r0 r1:wL) (u0 v0 u1 v1:J),s=((yC r0,(yC u0,yC v0)),(yC r1,(yC u1,yC v1)))/\ZbI a b r0 r1 u0 v0 u1 v1) (λs=>bl (zv s.1.1).natAbs+bl (zv s.2.1).natAbs+if(zv s.1.1).natAbs<(zv s.2.1).natAbs then 1 else 0) _ ?_ _ _ ⟨r0,r1,u0,v0,u1,v1,O,c⟩ ?_;rintro s L ⟨r0,r1,u0,v0,u1,v1,rfl,c⟩ k;have d:∀x:J,x.natAbs<=max a b->Bz K x:=λx y=>by unfold Bz;lia
 have z0:Bz K (r0:J):=d _ (by have:=c.le0;lia);have h:Bz K (r1:J):=d _ (by have:=c.le1;lia);unfold Q9;simp only;rw[Y<|y5 (h.ok W) f,zn];by_cases h0:r1=0
 rw[Q<|xm.2 W];have i:=c.g;rw[h0,Nat.gcd_zero_right]at i;exact⟨_,O,u0,v0,by rw[i],by rw[c.e0,i],c.bu0,c.bv0⟩;rw[S<|λe=>h0 (by have:=xm.1 e;lia),Y<|aV (z0.okS W) (h.okS W) f,zn,zn];unfold EV;rw[zG];simp only;have l:((r0:J)/(r1:J))=((r0/r1:wL):J):=O;have m:Bz K ((r0/r1:wL):J):=Bz.nat (by have h1:=xcD r0 r1;have j:=c.le0;lia)
 have o:=c.step W;have hd:=xbu r0 r1;have p:(r0:J)-((r0/r1:wL):J)*(r1:J)=((r0%r1:wL):J):=by
  have:(r0:J)=((r1*(r0/r1)+r0%r1:wL):J):=by rw[hd]
  conv=>lhs;rw[this]
  rw[hd];have j:(r0:J)=(r1:J)*((r0/r1:wL):J)+((r0%r1:wL):J):=by rw[this];simp
  rw[xbI];lia
 rw[l,Y<|nS m z0 (d _ (by have:=c.bu0;lia)) (d _ (by have:=c.bv0;lia)) h (d _ (by have:=c.bu1;lia)) (d _ (by have:=c.bv1;lia)) W f,p];refine k _ ⟨_,_,_,_,_,_,O,o⟩ ?_;simp only[zn,xaL];have z:=xaP r0 (W:0<r1);rw[zG];by_cases hi:r0<r1;rw[Q hi,xap hi];lia;have:=Pb (r0:=r0) (r1:=r1);lia;simp only[zn,xaL];have h1:=hc c.le0;have j:=hc c.le1;split<;>lia
theorem Be{x y:U}(d:zp x.2)(f:zp y.2)(hc:X x.2<=K)(hd:X y.2<=K)(h:zv x=(a:J))(i:zv y=(b:J))(j:0<a)(o:0<b)(k:K<=1000)(c:3000000<=fu):
 ∃u v:J,VH fu x y=Z (yC (xdk a b:wL),yC u,yC v)/\u*a+v*b=(xdk a b:wL)/\u.natAbs<=b/\v.natAbs<=a:=by
 have g:P x.2=a:=by have:=vM x;lia
 have nb:P y.2=b:=by have:=vM y;lia
 have l:a<18446744073709551616^K:=by rw[<-g];exact xag (vd d)<|xam rx hc
 have m:b<18446744073709551616^K:=by rw[<-nb];exact xag (vd f)<|xam rx hd
 have n:ZbI a b a b 1 0 0 1:=by refine⟨j,xew _ _,xea _ _,W,W,O,⟨1,0,.inl ⟨O,O⟩,W⟩,⟨0,1,.inr ⟨O,O⟩,W⟩,W,W,W,W⟩
 obtain⟨r,e1,u,v,rfl,p,q,s⟩:=zeQ (fu:=fu) l m k c n;unfold VH;rw[Y (yM d W W),Y<|yr rx c,Y<|yr rx c,Y (yM f W W),Y<|yr rx c,Y<|yr rx c,S rx,S rx,g,nb,Y e1];simp only;rw[Y<|y5 ⟨d,W⟩ c,S (λe=>by rw[h,vK W]at e;exact jp e rx),Y O,Y<|y5 ⟨f,W⟩ c,S (λe=>by rw[i,vK W]at e;exact jp e rx),Y O];grind
end
section
variable{p m:wF}{d:ww wF}{k K:wL}{f:ww Zr}
def Sx{x:Pz}(hp:2<=p)(g:Fs x)(r:0<Ap d)(hd:ci d (Ap d-1)=1)(h:Cg p (x*ci d) (pc 1)):Ap d=1:=by
 have⟨n,hn⟩:=g;have⟨X,b⟩:∃X,X=nl n (λk=>x k%p):=⟨_,O⟩;have a:∀k,ci X k=x k%p:=λk=>by
  rw[b];exact DT (λj o=>by rw[hn j o,xaq]) k
 have q:Nl X:=by rw[b];exact Ck _ _
 have c:Cg p (ci X*ci d) (pc 1):=(Cg.mul (λk=>by rw[a,xaR]) Cg.rfl).trans h;obtain h0|h0:=q
 have h1:=c 0;rw[vt,xb λi hi=>by rw[yz (l:=X) W,xbc]]at h1;unfold pc at h1;rw[Q O,xaq,xaJ rx W]at h1;cases h1
 have s:0<Ap X:=xcP λe=>h0 (yz W);have ht:(ci X*ci d) (Ap X-1+(Ap d-1))=ci X (Ap X-1):=by
  rw[vt,w5 (i:=Ap X-1) λi hi=> ?_,yg,(W:Ap X-1+(Ap d-1)-(Ap X-1)=Ap d-1),hd,xcO];by_cases hc:i<Ap X-1
  rw[yz (l:=d) W,xaA];rw[yz (l:=X) W,xbc]
 have h1:=c<|Ap X-1+(Ap d-1);rw[ht,a,xaR,<-a]at h1;refine Decidable.byContradiction λhl=> ?_;unfold pc at h1;rw[zG,xaq]at h1;exact h0 h1
def zkO{g h s t:N J}{S:wL}(hp:2<=p)(a:BzR p g h d s t S)(hd:X d=0\/ci d (X d-1)=1)(hc:km p (ci g) (ci h)):Cg p (ci s*ci g+ci t*ci h) (pc 1):=by
 have⟨A,C,c,z2,d1,d2⟩:=a.dv;have⟨u,v,z3,z4,hc⟩:=hc;have b:Cg p ((u*A+v*C)*ci d) (pc 1):=by refine Cg.trans (Cg.of ?_)<|(((Cg.rfl (f:=u)).mul d1.symm).add<|(Cg.rfl (f:=v)).mul d2.symm).trans hc;rw[yV,zd,zd]
 have j:0<X d:=by refine xcP λe=> ?_;have h1:=b 0;rw[vt,xb λi hi=>by rw[yz (l:=d) W,xaA]]at h1;unfold pc at h1;rw[xaq,xaJ rx W]at h1;cases h1
 have n:=hd.resolve_left W;have hl:=Sx hp ((z3.mul c).add<|z4.mul z2) j n b;have e:ci d=pc 1:=by
  funext k;unfold pc;by_cases o:k=0
  simp_all;rw[ir o,yz W]
 have:=a.cg;rw[e]at this;exact this.symm
def WB(hp:qt p=wT):kF p.toNat:=by refine xak λh=> ?_;rw[Iv<|λe=>h e.2.2]at hp;simp_all
def zmE{P N:wL}(h1:1<=P)(b:P<=65521)(a:k<=4*N)(c:0<N):P^k<18446744073709551616^N:=by rw[(rx:18446744073709551616=65536^4),<-xcg];exact xaI (xam W a)<|Nat.pow_lt_pow_left W W
def BE(hp:qt p=wT)(a:k<=1000:=by lia):Bz 250 (p^k):=by have⟨b,c⟩:=zA hp;obtain⟨P,rfl⟩:=xaE (W:0<=p);exact zmE W W a rx
theorem pO(hp:qt p=wT)(a:1<=k:=by lia):2<=p^k:=by have⟨b,c⟩:=zA hp;obtain⟨P,rfl⟩:=xaE (W:0<=p);have h1:P^1<=P^k:=xam W a;grind
def mQ{i j:wL}(h:i<=j:=by lia):p^i∣p^j:=⟨p^(j-i),by rw[<-Int.pow_add,(W:i+(j-i)=j)]⟩
def zmX{c:J}(hp:qt p=wT)(hc:c%p≠0)(a:0<=c):xdk c.toNat (p^k).toNat=1:=by
 have⟨g,h⟩:=zA hp;have hd:=WB hp;obtain⟨P,rfl⟩:=xaE (W:0<=p);obtain⟨C,rfl⟩:=xaE a;have b:=xaP C (W:0<P);have h1:=mM W hd W b;have e:xdk C P=1:=by rw[xdF,Nat.gcd_rec,xdF];exact h1
 exact Nat.Coprime.pow_right k e
structure Rd(K:wL)(m:J)(f:N U):Prop where
 ok:xa K f
 rd:vH f m=f
def Rd.mod(h:Rd K m f)(k:wL):cf f k%m=cf f k:=by rw[<-uQ,h.rd]
def Rd.can(h:Rd K m f):f=wO (X f) (cf f):=by have:=cd f m;rw[h.rd]at this;exact this
def mG(b:Bz K m)(h0:0<m)(a:N U):Rd K m (vH a m):=⟨dC b h0,Ep λk=>by rw[uQ,xaR]⟩
def CU{fu:wL}(hp:qt p=wT)(C:1<=k)(D:k<=1000)(g:Rd 250 (p^k) f)(N:0<X f)(P:X f<=1000)(hd:cf f (X f-1)%p≠0)(q:3000000<=fu):
 ∃w u,JI fu f (yC<|p^k)=Z w/\Rd 250 (p^k) w/\X w=X f/\cf w (X w-1)=1/\(u*cf f (X f-1))%p^k=1/\Cg (p^k) (cf w) (pc u*cf f):=by
 have h:=BE hp D;have E:=pO hp C;have⟨m,G⟩:∃m,m=p^k:=⟨_,O⟩;have n:=zmX (k:=k) hp hd (by rw[<-g.mod];exact xcH _ W)
 rw[<-G]at h E g n⊢;have⟨c,hc⟩:∃c,c=cf f (X f-1):=⟨_,O⟩;have r:=xf (a:=c) (p:=m);have s:=g.mod<|X f-1;rw[<-hc]at s hd n⊢;rw[s]at r;have Q:c≠0:=λe=>hd (by rw[e,xaq]);have R:Bz 250 c:=h.le W;have t:=g.ok.get<|X f-1;have⟨u,v,e1,z,S,T⟩:=Be (fu:=fu) (K:=250) (a:=c.toNat) (b:=m.toNat) (x:=f.getD (X f-1) (I,[])) (y:=yC m) t.1 (yx _) t.2 h.len (by rw[Qw,<-hc];lia) (by rw[zn];lia) W W rx q;rw[n]at z;have ht:Bz 250 u:=h.le W;have A:(u*c)%m=1:=by
  have:u*c=1+m*(-v):=by rw[xdc r.1,xdc (W:0<=m)]at z;rw[Int.mul_neg,xbI m v];lia
  rw[this,Int.add_mul_emod_self_left];exact xaJ rx W
 have H:fF (yC m):=h.okS rx;have⟨sc,hl⟩:∃sc,sc=wO (X f) (λj=>cf f j*u):=⟨_,O⟩;have hv:xa (250+250) sc:=by rw[hl];exact xh λj=>(g.ok.bz j).mul ht
 have U:X sc<=X f:=by rw[hl,xE];exact qS _ _
 have L:∀j,cf sc j=cf f j*u:=λj=>by rw[hl];exact j7 (λi hi=>WM hi) j
 have hn:∀j,cf (vH sc m) j=cf f j*u%m:=λj=>by rw[uQ,L]
 have o:cf (vH sc m) (X f-1)=1:=by rw[hn,<-hc,xbI,A]
 have B:X (vH sc m)=X f:=by refine xcF (Py (cd _ _) λj M=> ?_)<|xbz λV=> ?_;rw[hn,ym M,xbc,xaq];rw[ym W]at o;cases o
 refine⟨vH sc m,u,?_,mG h W _,B,by rw[B];exact o,A,λj=> ?_⟩;unfold JI;rw[(W:(X f:J)-1=((X f-1:wL):J)),zb,yn,F,Y e1];simp only;rw[Y<|jQ (l:=250) g.ok ⟨yx _,ht.len⟩ rx W q,zn,<-hl,Y (XM hv rx H<|by rw[zn];lia),zn];rw[hn,zY,xaR,xbI]
end
section
variable{G g9 S f g0 h0:ww Zr}{p:wF}{i k lh LS j fu:wL}
structure TrI(p:J)(k:K)(f g0 h0:N U)(lh LS i:K)(G g9 S T:N U):Prop where
 i1:1<=i
 ik:i<=k
 rG:Rd 250 (p^i) G
 rH:Rd 250 (p^i) g9
 rS:Rd 250 (p^i) S
 rT:Rd 250 (p^i) T
 hl:g9.length=lh
 h1:cf g9 (lh-1)=1
 fac:Cg (p^i) (cf f) ((cf G:Pz)*cf g9)
 bez:Cg (p^i) ((cf S:Pz)*cf G+(cf T:Pz)*cf g9) (pc 1)
 gp:Cg p (cf G) (cf g0)
 hp:Cg p (cf g9) (cf h0)
 sl:S.length<=LS
def zm2{m:J}{T:N U}{K:wL}(d:2<=m)(b:Rd K m T)(hl:0<X g9)(h1:cf g9 (X g9-1)=1)(c:Cg m ((cf S:Pz)*cf G+(cf T:Pz)*cf g9) (pc 1)):X T<=X S+X G+1:=by refine xbz λe=> ?_;have ht:=XC b.can W;have hp:=c<|X T-1+(X g9-1);rw[zX,zde W hl h1,uE (λj a=>ym a)<|λj a=>ym a,xcI,b.mod]at hp;unfold pc at hp;rw[zG,xaq]at hp;lia
theorem Pe{k:K}(hi:1<=i)(a:cf f (X f-1)%p≠0)(hc:0<X f):X (vH f<|p^i)=X f:=by
 refine xcF (XG _ _)<|xbz λb=>a ?_;have h:cf (vH f<|p^i) (X f-1)=0:=ym W;rw[uQ]at h;have hd:p∣p^i:=by have:=mQ (p:=p) hi;grind
 rw[<-xcA _ hd,h,xaq]
def TrI.lens{T:N U}(h:TrI p k f g0 h0 lh LS i G g9 S T)(hp:qt p=wT)(a:cf f (X f-1)%p≠0)(hd:0<X f)(d:0<lh):
 X f=X G+(lh-1)/\0<X G/\cf G (X G-1)=cf f (X f-1)%p^i/\X T<=LS+X G+1:=by
 have hc:=pO hp h.i1;have hl:=h.hl;have h1:=h.h1;rw[<-hl]at h1;have b:=Pe (k:=k) h.i1 a hd;have⟨e1,e,c⟩:=zd1 hc h.rG.rd (Ep λj=>by rw[uQ,xaR]) W W h1<|(Wk _ _).trans h.fac;have g:=zm2 hc h.rT W h1 h.bez;have:=h.sl;rw[b,uQ]at c;lia
def zmJ(h:j<=i+i):p^j∣p^i*p^i:=by rw[<-Int.pow_add];exact mQ h
theorem uh(h:1<=i:=by lia):p∣p^i:=by have:=mQ (p:=p) h;grind
def TrI.step{T:N U}(h:TrI p k f g0 h0 lh LS i G g9 S T)(hp:qt p=wT)(w:k<=1000)(hi:xa 250 f)(hd:cf f (X f-1)%p≠0)(q:0<X f)(hn:0<lh)(y:i<k)(ht:X f<=300)(z:LS<=4500)(hv:lh<=LS)(r:3000000<=fu):
 ∃b c e l,jR fu [G,g9,S,T] f (yC<|p^min (2*i) k)=Z [b,c,e,l]/\TrI p k f g0 h0 lh LS (min (2*i) k) b c e l:=by
 have⟨j,t⟩:∃j,j=min (2*i) k:=⟨_,O⟩;have u:=h.i1;have⟨l1,A,B,C⟩:=h.lens hp hd q hn;have a:=BE hp (k:=j);have n:=pO hp (k:=j);have hl:=h.hl;have h1:=h.h1;have D:=h.sl;rw[<-hl]at h1;have o:=nN (fu:=fu) (K:=250) (W:=5000) hi h.rG.ok h.rH.ok h.rS.ok h.rT.ok pM pM pM pM pM (Nm _) rx rx (yx<|p^j) a.len (by rw[zn];exact n) pM h1 r;rw[zn]at o;rw[<-t];refine⟨_,_,_,_,o,?_⟩;have d1:p^j∣p^i*p^i:=zmJ pM;have d2:p^i∣p^j:=mQ;have d3:p∣p^i:=uh u;have⟨f1,f2,f3⟩:=zoI d1 d2 h.fac h.bez pM h1;have⟨t1,t2⟩:=zcJ (f:=f) (g:=G) (s:=S) n pM h1;have hc:Cg (p^i) ((cf S:Pz)*cf (puG f G g9 S T<|p^j)+(cf T:Pz)*cf (Ie f G g9 S<|p^j)) (pc 1):=((Cg.rfl.mul f2).add<|Cg.rfl.mul f3).trans h.bez;have v:=zo9 d1 d2 hc pM (by rw[t1];exact t2);have E:=LX (x:=xd S<|nV (puG f G g9 S T<|p^j) (Ie f G g9 S<|p^j) S T<|p^j) (d:=Ie f G g9 S<|p^j) (m:=p^j) pM (by rw[t1];exact t2);refine⟨pM,pM,mG a pM _,mG a pM _,mG a pM _,mG a pM _,pM,by rw[hl]at t2;exact t2,f1,v,(f2.down d3).trans h.gp,(f3.down d3).trans h.hp,?_⟩;have e1:=XG (ef S<|Dr (xd S<|nV (puG f G g9 S T<|p^j) (Ie f G g9 S<|p^j) S T<|p^j) (Ie f G g9 S<|p^j)<|p^j)<|p^j;have F:=bW S<|Dr (xd S<|nV (puG f G g9 S T<|p^j) (Ie f G g9 S<|p^j) S T<|p^j) (Ie f G g9 S<|p^j)<|p^j;show(vH _ _).length<=LS;lia
theorem zgQ(hp:qt p=wT)(h1:1<=j)(a:j<=1000)(b:3000000<fu):qC fu p (j:J)=Z (yC<|p^j,0):=by grind [Au,uM]
def zez{T:N U}(h:TrI p k f g0 h0 lh LS 1 G g9 S T)(hp:qt p=wT)(g:k<=1000)(hc:xa 250 f)(l:cf f (X f-1)%p≠0)(hd:0<X f)(m:0<lh)(n:X f<=300)(hi:LS<=4500)(o:lh<=LS)(q:3000000<fu):
 ∃a b c d,zg (YH fu f p (k:J)) fu (1,[G,g9,S,T])=Z [a,b,c,d]/\TrI p k f g0 h0 lh LS k a b c d:=by
 obtain⟨r,e1,a,b,c,d,rfl,e⟩:=zM (f:=YH fu f p (k:J)) (λs:J×N (N U)=>∃(i:K) (G g9 S T:N U),s=((i:J),[G,g9,S,T])/\TrI p k f g0 h0 lh LS i G g9 S T) (λs=>k-s.1.toNat) (λr=>∃G g9 S T,r=[G,g9,S,T]/\TrI p k f g0 h0 lh LS k G g9 S T) (by
  rintro s L ⟨i,G,g9,S,T,rfl,h⟩ t;unfold YH;simp only;have hl:=h.i1;have w:=h.ik;by_cases u:i<k;have⟨a,b,c,d,e1,e⟩:=h.step (fu:=fu) hp g hc l hd m u n hi o W;have v:min (2*(i:J)) (k:J)=((min (2*i) k:K):J):=W
  rw[yg,zb,F,v,Y<|zgQ hp W W q];simp only;rw[Y e1];exact t _ ⟨_,_,_,_,_,O,e⟩ (by show k-((min (2*i) k:K):J).toNat<k-(i:J).toNat;lia);rw[zG];obtain rfl:i=k:=W
  exact⟨_,O,_,_,_,_,O,h⟩) fu (1,[G,g9,S,T]) ⟨1,_,_,_,_,O,h⟩ (by show k-1<fu;lia)
 exact⟨_,_,_,_,e1,e⟩
end
section
variable{p:wF}{l:ww wF}{g:Pz}
def ziR{a b:N J}(hp:2<=p)(e:0<X a)(hd:ci a (X a-1)=1)(f:0<X b)(d:ci b (X b-1)=1):X (xH p a b)=X a+X b-1/\ci (xH p a b) (X a+X b-1-1)=1:=by
 have ht:(ci a*ci b) (X a-1+(X b-1))=1:=by
  rw[vt,w5 (i:=X a-1) λi hi=> ?_,yg,(W:X a-1+(X b-1)-(X a-1)=X b-1),d,hd];rfl;by_cases hc:i<X a-1
  rw[yz (l:=b) W,xaA];rw[yz (l:=a) W,xbc]
 have h1:ci (xH p a b) (X a+X b-1-1)=1:=by rw[dm,(W:X a+X b-1-1=X a-1+(X b-1)),ht];exact xaJ rx W
 refine⟨xcF ((jj W a b).nl.le λk h=> ?_)<|xbz λo=> ?_,h1⟩;rw[dm,uE (n:=X a) (m:=X b) (λj c=>yz c)<|λj c=>yz c,xaq];rw[yz W]at h1;cases h1
def zan{p:J}(hp:2<=p):∀(fs:N (N J)) {t:N J},0<X t->ci t (X t-1)=1->(∀f∈fs,PlL p f)->0<X (fs.foldl (xH p) t)/\ci (fs.foldl (xH p) t) (X (fs.foldl (xH p) t)-1)=1
 |[],_,h0,h1,_=>⟨h0,h1⟩
 |f::r,t,h0,h1,h=>by
  have a:=h f<|IR;have⟨e1,b⟩:=ziR hp h0 h1 (show 0<X f by have:=a.2.1;lia) a.2.2;have:=a.2.1;exact zan hp r W (by rw[e1];exact b) λg c=>h g<|FS _ c
def zew(hp:2<=p){fs:N (N J)}(h:∀f∈fs,PlL p f):0<X (Jk p fs)/\ci (Jk p fs) (X (Jk p fs)-1)=1:=zan hp fs rx O h
def La(h:Nl l):X (uk l)=X l:=by unfold uk;rw[xE];exact aq (Nm _) (λk h1 a=>by lia)<|h.imp id id
def tT(h:Fp p l)(a:p<=65521):Rd 250 (p^1) (uk l):=by refine⟨(P5<|h.rl a).mono rx,?_⟩;rw[xbO,xce,xdd];unfold vH;rw[show(λj=>cf (uk l) j%p)=cf (uk l)from uT λj=>by rw[jT,h.mod]];exact R7 _ _
def km.congr{f f' a:Pz}(h:km p f g)(b:Cg p f f')(c:Cg p g a):km p f' a:=by have⟨s,t,d,z2,h⟩:=h;exact⟨s,t,d,z2,((Cg.rfl.mul b.symm).add<|Cg.rfl.mul c.symm).trans h⟩
theorem Me{A B:N (N J)}(h:∀a∈A,∀b∈B,km p (ci a)<|ci b):km p (prZ<|A.map ci) (prZ<|B.map ci):=by grind [Fs.ci,km.symm,km.prZ,Fs.prZ]
def zjo{c:J}(hp:qt p=wT)(h0:0<c)(h1:c<p):km p (pc c) g:=by have⟨x,e1,b,d,a⟩:=UA hp h0 h1<|Nm _;refine⟨pc x,pc 0,Fs.pc _,Fs.pc _,?_⟩;rw[yB,ky];intro k;rw[zX,zS,xbY];unfold pc;split;rw[a];exact(xaJ rx W).symm;rfl
def Fz{α β:Type}(R:α->β->Prop):N α->N β->Prop
 |[],[]=>Wr
 |a::r,b::s=>R a b/\Fz R r s
 |_,_=>UP
def Fz.append{α β:Type}{R:α->β->Prop}:∀{a:N α}{b:N β}{c:N α}{d:N β},Fz R a b->Fz R c d->Fz R (a++c) (b++d)
 |[],[],_,_,_,h=>h
 |_::_,_::_,_,_,h,e=>⟨h.1,Fz.append h.2 e⟩
def Fz.len{α β:Type}{R:α->β->Prop}:∀{a:N α}{b:N β},Fz R a b->X a=X b
 |[],[],_=>rfl
 |_::_,_::_,h=>by rw[xaw,xaw,h.2.len]
structure Up(p:J)(k:K)(u:N U)(g:N J):Prop where
 rd:Rd 250 (p^k) u
 len:u.length=g.length
 top:cf u (u.length-1)=1
 cg:Cg p (cf u) (ci g)
def ze3{f:N U}(h:0<X f):f.drop (X f-1)=[f.getD (X f-1) (I,[])]:=Lr
def zkm{z:U}(hp:0<p)(h0:zv z%p≠0):jk p [z]=[zv z%p]:=by
 have b:=xf (a:=zv z) hp;refine(JZ hp [z]).ext (Q3 W b.2) ((mz p [z]).trans λk=> ?_)
 cases k with
 |zero=>show zv z%p=(zv z%p)%p;rw[xaR]
 |succ k=>skip;rfl
end
def zmO{k:K}{p:J}(hp:qt p=wT)(P:1<=k)(hk:k<=1000):∀(n:K) {fu:K}{f:N U}{fs:N (N J)},X fs=n->1<=n->n<=66->3000002+n<=fu->
 Rd 250 (p^k) f->0<X f->X f<=66->cf f (X f-1)%p≠0->(∀g∈fs,PlL p g/\X g<=66)->fs.Pairwise (λa b=>km p (ci a)<|ci b)->Cg p (cf f) (pc (cf f<|X f-1)*prZ (fs.map ci))->
 ∃us,qi fu f fs p (k:J) (yC<|p^k)=Z us/\Fz (Up p k) us fs/\Cg (p^k) (cf f) (pc (cf f<|X f-1)*prZ (us.map λu=>(cf u:Pz))):=by
 intro n
 induction n using xdz with
 |_ n ih=>
 intro fu f fs hn h9 h' a5 R hl a6 hd hE KJ ht;have⟨C,o⟩:=zA hp;obtain⟨F,rfl⟩:∃F,fu=F+1:=⟨fu-1,W⟩;have hf:3000000<F:=W
 have a7:=pO hp P;have hK:p∣p^k:=uh P;unfold qi;by_cases h1:n=1
 obtain⟨g,rfl⟩:∃g,fs=[g]:=by
  match fs,hn with
  |[g],_=>exact⟨g,O⟩
  |[],h=>simp at h;lia
  |_::_::_,h=>simp at h;lia
 have⟨l,a9⟩:=hE g rC;have⟨w,u,e1,e2,e3,e4,e5,e6⟩:=CU (fu:=F) hp P hk R hl W hd W;have hu:Cg (p^k) (pc (cf f<|X f-1)*pc u) (pc 1):=λj=>by
  rw[ky,xbI];unfold pc;split;rw[e5];exact(xaJ rx W).symm;rfl
 have hG:Cg (p^k) (cf f) (pc (cf f<|X f-1)*cf w):=by refine Cg.symm<|(Cg.rfl.mul e6).trans ?_;rw[<-zd];exact(hu.mul Cg.rfl).trans<|Cg.of<|zE _
 have hA:∀x:Pz,prZ [x]=x:=λx=>yp x;have hH:Cg p (cf w) (ci g):=by refine(e6.down hK).trans ?_;have v:Cg p (pc u*cf f) (pc u*(pc (cf f<|X f-1)*ci g)):=Cg.rfl.mul<|ht.trans<|Cg.of (by show _*prZ [ci g]=_;rw[hA]);refine v.trans ?_;rw[<-zd,zo<|pc u];exact((hu.down hK).mul Cg.rfl).trans<|Cg.of<|zE _
 have hR:X w=X g:=by
  have b0:=l.fp (p:=p) W;refine xcF (xbz λhS=> ?_)<|xbz λhS=> ?_;have v:=hH<|X w-1;rw[e4,yz W,xaq,xaJ rx W]at v;cases v
  have v:=hH<|X g-1;rw[l.2.2,ym W,xaq,xaJ rx W]at v;cases v
 rw[Q rC,Y e1];refine⟨[w],O,⟨⟨e2,hR,e4,hH⟩,jP⟩,?_⟩;show Cg _ _ (_*prZ [(cf w:Pz)]);rw[hA];exact hG;have⟨e,hT⟩:∃h,h=n/2:=⟨_,O⟩;have⟨c,hc⟩:∃c,c=cf f (X f-1):=⟨_,O⟩;have h8:X fs<=66:=W
 have hB:fs=fs.take e++fs.drop e:=(xbG e fs).symm;have hU:X (fs.take e)=e:=by rw[xas];lia
 have hV:X (fs.drop e)=n-e:=by rw[xch];lia
 have hv:∀g∈fs.take e,PlL p g/\X g<=66:=λg l=>hE g<|xes l;have D:∀g∈fs.drop e,PlL p g/\X g<=66:=λg l=>hE g<|xfK l;rw[hB]at KJ ht;have⟨a0,a1,E⟩:=xdm.1 KJ;rw[xaO,vo,<-hc]at ht;have hL:=xf (a:=c) (p:=p);rw[<-hc]at hd;have hW:∀g∈fs.take e,Fp p g:=λg l=>(hv g l).1.fp W;have hX:∀g∈fs.drop e,Fp p g:=λg l=>(D g l).1.fp W;have y:=se p<|fs.take e;have A:=se p<|fs.drop e;have q:=zew (p:=p) C (fs:=fs.drop e) λg l=>(D g l).1;have a3:=lQ (p:=p) (fs:=fs.take e) (M:=66) λg l=>(hv g l).2;have a4:=lQ (p:=p) (fs:=fs.drop e) (M:=66) λg l=>(D g l).2;have b1:X (fs.take e)*66<=66*66:=xac _ W;have b2:X (fs.drop e)*66<=66*66:=xac _ W;have hM:=Q3 (p:=p) (x:=c%p) W hL.2;have⟨g0,hJ⟩:∃g0,g0=xH p (Jk p<|fs.take e) [c%p]:=⟨_,O⟩;have⟨h0,V⟩:∃h0,h0=Jk p (fs.drop e):=⟨_,O⟩;have he:Fp p g0:=by rw[hJ];exact jj W _ _
 have hi:Fp p h0:=by rw[V];exact gf C _
 have hC:Cg p (pc<|c%p) (pc c):=λj=>by unfold pc;split;exact xaR _ _;rfl
 have ho:Cg p (ci g0) (prZ ((fs.take e).map ci)*pc c):=by rw[hJ];refine(ZU p _ _).trans ?_;rw[j8];exact y.mul hC
 have hq:Cg p (ci h0) (prZ<|(fs.drop e).map ci):=by rw[V];exact A
 rw[<-V]at q;have hD:Cg p (cf f) (ci g0*ci h0):=by refine ht.trans<|Cg.trans (Cg.of ?_) (ho.mul hq).symm;simp only[zd,zo,zF]
 have hN:km p (ci g0) (ci h0):=by refine km.congr (km.mul (Fs.pc _) (Fs.prZ λx hx=>by obtain⟨a,_,rfl⟩:=xat.1 hx;exact Fs.ci a) (Fs.prZ λx hx=>by obtain⟨a,_,rfl⟩:=xat.1 hx;exact Fs.ci a) (Me E)<|zjo hp (W:0<c%p) hL.2) ?_ hq.symm;exact(Cg.rfl.mul hC).trans ho.symm
 have hj:p^1=p:=by rw[xbO,xce,xdd]
 have rg:=tT he o;have rh:=tT hi o;have lz:X (uk h0)=X h0:=La hi.nl;have H:X (uk g0)=X g0:=La he.nl;have hO:cf (uk h0) (X (uk h0)-1)=1:=by rw[lz,jT];exact q.2
 have hY:X (vH f p)=X f:=by have:=Pe (k:=k) (i:=1) (p:=p) (f:=f) (Nm _) (by rw[<-hc];exact hd) hl;rw[hj]at this;exact this
 have⟨d1,d2,d3⟩:=zd1 (m:=p) (f:=vH f p) (g:=uk g0) (h:=uk h0) C (by have:=rg.rd;rw[hj]at this;exact this) (Ep λj=>by rw[uQ,xaR]) W W hO ((Wk f p).trans<|by rw[jT,jT];exact hD);rw[hY,lz,H]at d1;rw[H]at d2;have⟨d,s,t,z1,B,z3⟩:=uX (fu:=F) hp he hi W W W;have hP:=zkO C B z3 hN;have b3:max (X g0) (X h0)*(max (X g0) (X h0)+1)<=66*67:=xcf W W;have b4:=B.sl;have b5:=B.tl;have rs:=tT B.sf o;have rt:=tT B.tf o;have hI:TrI p k f (uk g0) (uk h0) (X h0) 4430 1 (uk g0) (uk h0) (uk s) (uk t):=by refine⟨Nm _,P,rg,rh,rs,rt,lz,by rw[<-lz];exact hO,?_,?_,Cg.rfl,Cg.rfl,by have:=zad s;lia⟩;rw[hj,jT,jT];exact hD;rw[hj,jT,jT,jT,jT];exact hP
 have⟨G,L,S,T,l1,r⟩:=zez (fu:=F) hI hp hk R.ok (by rw[<-hc];exact hd) hl W W rx W hf;have⟨m1,m2,m3,m4⟩:=r.lens hp (by rw[<-hc];exact hd) hl W;have hZ:c%p^k=c:=by have:=R.mod<|X f-1;rw[<-hc]at this;exact this
 rw[<-hc,hZ]at m3;have h3:=r.hl;have hy:=r.h1;rw[<-h3]at hy;have h4:Cg p (cf G) (pc c*prZ ((fs.take e).map ci)):=by refine r.gp.trans ?_;rw[jT,zo];exact ho
 have h5:Cg p (cf L) (pc 1*prZ ((fs.drop e).map ci)):=by refine r.hp.trans ?_;rw[jT,zE];exact hq
 have⟨us,u1,u2,u3⟩:=ih e W (fu:=F) (f:=G) (fs:=fs.take e) hU W W W r.rG m2 W (by rw[m3];exact hd) hv a0 (by rw[m3];exact h4);have⟨vs,v1,v2,v3⟩:=ih (n-e) W (fu:=F) (f:=L) (fs:=fs.drop e) hV W W W r.rH W W (by rw[hy,xaJ rx W];decide) D a1 (by rw[hy];exact h5);rw[m3]at u3;rw[hy]at v3;have b6:=u2.len;have b7:=v2.len;refine⟨us++vs,?_,by rw[hB];exact u2.append v2,?_⟩
 have ez:[f.getD (X f-1) (I,[])].length=1:=O;have hQ:xa 250 [f.getD (X f-1) (I,[])]:=λz hz=>by
  obtain rfl:=xad.1 hz;exact R.ok.get _
 have h6:jk p [f.getD (X f-1) (I,[])]=[c%p]:=by rw[hc];exact zkm W<|by rw[Qw,<-hc];exact hd
 have h7:=jK p (Jk p<|fs.take e) [c%p];simp only[xaw,xbV]at h7;have a2:xdv (X fs:J) 2=(e:J):=by rw[hn,hT];rfl
 rw[zG,xN rx,a2,zb,(W:(X f:J)-1=((X f-1:K):J)),zb,yF,y9,ze,ze3 hl,Y (Zp hQ rx W o rC),h6];simp only;rw[yF,y9,ze,Y (jH hp hW (λg l=>(hv g l).2) W rx),Y (ZE hp (gf C _) hM W rC),<-hJ];simp only;rw[yF,y9,ze,Y (jH hp hX (λg l=>(D g l).2) W rx),<-V,Y z1];simp only;rw[Y (uw (he.rl o) W W),Y (uw (hi.rl o) W W),Y (uw (B.sf.rl o) W W),Y (uw (B.tf.rl o) W W),Y l1];rw[FO (i:=0) rx,yF,y9,ze,show[G,L,S,T].getD (Int.toNat 0) []=G from O,Y u1,FO (i:=1) rx,yF,y9,ze,show[G,L,S,T].getD (Int.toNat 1) []=L from O,Y v1,y9,ze];rw[<-hc,xaO,vo];refine r.fac.trans<|(u3.mul v3).trans<|Cg.of ?_;rw[zE,zd]
section
variable{a:ww Zr}{p:wF}
def yu(a:N U):N U:=wO (X a)<|cf a
def Ye(a:N U)(k:K):cf (yu a) k=cf a k:=j7 (λj b=>ym b) k
def ZP(a:N U):X (yu a)<=X a:=by unfold yu;rw[xE];exact qS _ _
def fZ{k:K}(h:xa k a):xa k (yu a):=xh h.bz
structure zrm(p:J)(k:K)(a:N U)(fs:N (N J))(us:N (N U)):Prop where
 hp:qt p=wT
 k1:1<=k
 k2:k<=1000
 rt:gW p (yu a) fs
 up:Fz (Up p k) us fs
 cg:fs≠[]->Cg (p^k) (cf a) (pc (cf (yu a)<|(yu a).length-1)*prZ (us.map λu=>(cf u:Pz)))
def gW.mem{fs:N (N J)}(h:gW p a fs):∀g∈fs,PlL p g/\X g<=X a:=λg b=>by
 obtain⟨j,c,rfl⟩:=xcr.1 b;have:=h.pl j c;simp_all
def gW.pw{fs:N (N J)}(h:gW p a fs):fs.Pairwise (λa b=>km p (ci a)<|ci b):=by refine xcU.2 λi j hi c d=> ?_;have:=h.cp j i c d;rw[UV,UV,xaa hi,xaa c]at this;exact this.symm
def AG{fu:wL}{k:J}{fs:N (N J)}(d:xa 250 a)(ht:X a<=1000)(w:3000200<=fu):
 ∃us e,jB fu a fs p k=Z (us,e)/\(e=0->zrm p k.toNat a fs us/\1<=k)/\(e≠0->(Au p k).2=0\/e=1):=by
 unfold jB;have x:=ZP a;have hl:=fZ d;rw[Y<|uM W];by_cases i:qt p=wT/\1<=k/\k<=1000
 have⟨hp,h1,y⟩:=i;obtain⟨K,rfl⟩:=xaE (W:0<=k);have hd:Au p (K:J)=(yC<|p^K,0):=by unfold Au;simp_all
 rw[hd];simp only;rw[Y (zK d rx W W),Q jP,show wO (X a) (cf a)=yu a from O];by_cases hv:65<X (yu a);rw[yg];exact⟨_,_,O,λe=>jp e rx,λ_=> .inl jP⟩;rw[zG];have⟨b,b1,b2⟩:=Ae (fu:=fu) (fs:=fs) hp hl rx W W;rw[Y b1]
 cases b with
 |false=>
  rw[Q rx];exact⟨_,_,O,λe=>jp e rx,λ_=> .inl jP⟩
 |true=>
  have c:=b2 O;rw[S rx];by_cases h0:X fs=0
  obtain rfl:fs=[]:=xbt.1 h0;rw[Q (show((X ([]:N (N J)):wL):J)=0 from O)];exact⟨_,_,O,λ_=>⟨⟨hp,W,W,c,jP,λe=>jp O e⟩,h1⟩,λe=>jp O e⟩;rw[zG];have⟨z,A⟩:=zA hp;have l:=BE hp (k:=K);have B:=pO hp (k:=K);have o:fF (yC<|p^K):=l.okS rx;have⟨f,hc⟩:∃f,f=vH (yu a) (p^K):=⟨_,O⟩;have hn:=c.a0;have m:cf (yu a) (X (yu a)-1)%p≠0:=by
   have h3:=(JZ (p:=p) W<|yu a).nl;unfold Nl at h3;rw[c.al]at h3;obtain h3|h3:=h3
   exact jp h3 hn;rw[UC]at h3;exact h3
  have q:X f=X (yu a):=by rw[hc];exact Pe (k:=K) W m W
  have hi:cf f (X f-1)=cf (yu a) (X (yu a)-1)%p^K:=by rw[q,hc,uQ]
  have h:p∣p^K:=uh;have r:cf f (X f-1)%p≠0:=by rw[hi,xcA _ h];exact m
  have s:Cg p (cf f) (pc (cf f<|X f-1)*prZ (fs.map ci)):=by
   have e1:Cg p (cf f) (cf<|yu a):=by rw[hc];exact(Wk _ _).down h
   refine e1.trans<|(mz p<|yu a).symm.trans ?_;rw[<-c.pr];refine(ZU p _ _).trans ?_;rw[j8,zo];refine Cg.mul (λj=> ?_)<|se p fs;rw[UC,hi];unfold pc;split;rw[xcA _ h,xaR];rfl
  have⟨us,t,u,v⟩:=zmO (k:=K) hp W W (X fs) (fu:=fu) (f:=f) (fs:=fs) O W (by have:=c.fl;lia) (by have:=c.fl;lia) (by rw[hc];exact mG l W _) W W r (λg n=>⟨(c.mem g n).1,by have:=(c.mem g n).2;lia⟩) c.pw s;rw[Y (XM hl rx o<|by rw[zn];lia),zn,<-hc,Y t];refine⟨_,_,O,λ_=>⟨⟨hp,W,W,c,u,λ_=> ?_⟩,h1⟩,λe=>jp O e⟩;rw[xba];have e1:Cg (p^K) (cf a) (cf f):=by rw[hc];exact Cg.trans (Cg.of<|funext λj=>(Ye a j).symm) (Wk _ _).symm
  refine e1.trans<|v.trans<|Cg.mul (λj=> ?_) Cg.rfl;rw[hi];unfold pc;split;rw[xaR];rfl
 have hd:Au p k=((I,[]),1):=by unfold Au;rw[S i]
 rw[hd];simp only;rw[Y (zK d rx W W),S rx];exact⟨_,_,O,λe=>jp e rx,λ_=> .inr O⟩
end
def Mn(A:Pz)(d:K):Prop:=A d=1/\∀k,d<k->A k=0
def Mn.top{A x:Pz}{d n:K}(h:Mn A d)(a:∀k,n<k->x k=0):(x*A) (n+d)=x n:=by rw[vt,w5 (i:=n) λi hi=> ?_,yg,(W:n+d-n=d),h.1,xcO];by_cases hc:i<n;rw[h.2 _ W,xaA];grind
def Mn.zero{p:J}(hp:2<=p){A x:Pz}{d:K}(h:Mn A d)(j:Fs x)(l:∀k,d<=k->(x*A) k%p=0):Cg p x (pc 0):=by
 have⟨n,hn⟩:=j;have a:∀c,c<=n->∀k,n-c<=k->x k%p=0:=by
  intro c
  induction c with
  |zero=>intro _ k g;rw[hn k W,xaq]
  |succ c m=>
   intro hc k g;by_cases h1:n-c<=k;grind;obtain rfl:k=n-(c+1):=W
   have e:Cg p x (λi=>if i<=n-(c+1)then x i else 0):=λi=>by
    by_cases hi:i<=n-(c+1);simp_all;show _=(if i<=n-(c+1)then x i else 0)%p;rw[S hi,xaq];grind
   have b:=(e.mul<|Cg.rfl (f:=A))<|n-(c+1)+d;rw[l _ W,h.top<|λi hi=>zG]at b;rw[Q<|Nm _]at b;exact b.symm
 intro k;rw[zS,xaq];by_cases g:k<n;exact a n (Nm _) k W
 rw[hn k W,xaq]
def PZ{k m n:J}(h:Int.gcd k m=1)(hd:k∣m*n):k∣n:=
 xcm.1 (Nat.Coprime.dvd_of_dvd_mul_left h<|by rw[<-xcw];exact xcm.2 hd)
def pdv(n:J)(f:Pz):Pz:=λk=>f k/n
def Nu{n:J}{f:Pz}(h:Cg n f (pc 0)):pc n*pdv n f=f:=by funext k;rw[zY];exact Int.mul_ediv_cancel'<|h.dvd k
def NA{n:J}{f:Pz}(h:Fs f):Fs (pdv n f):=by have⟨c,hc⟩:=h;exact⟨c,λk a=>by show f k/n=0;rw[hc k a,xek]⟩
def Fs.subt{f g:Pz}(c:Fs f)(d:Fs g):Fs (f-g):=by have⟨a,e⟩:=c;have⟨b,h⟩:=d;exact⟨a+b,λk i=>by rw[y8,e k W,h k W];rfl⟩
def ze0{p n:J}(hp:2<=p)(hn:n≠0)(E:p∣n){A B c g:Pz}{d:K}(i:Mn A d)(o:Mn c d)(F:Fs A)(j:Fs c)(G:Fs B)(l:Fs g)(hc:km p A B)(h1:Cg n A c)(H:Cg n B g)(h:Cg (n*p) (A*B) (c*g)):
 Cg (n*p) A c/\Cg (n*p) B g:=by
 have⟨a,q⟩:∃a,a=pdv n (c-A):=⟨_,O⟩;have⟨b,r⟩:∃b,b=pdv n (g-B):=⟨_,O⟩;have u:pc n*a=c-A:=by rw[q];exact Nu<|Cg.iff_sub.1 h1.symm
 have v:pc n*b=g-B:=by rw[r];exact Nu<|Cg.iff_sub.1 H.symm
 have L:Fs a:=by rw[q];exact NA<|j.subt F
 have w:Fs b:=by rw[r];exact NA<|l.subt G
 have x:∀k,c k=A k+n*a k:=λk=>by
  have:=WP u k;rw[zY,y8]at this;lia
 have bk:∀k,g k=B k+n*b k:=λk=>by
  have:=WP v k;rw[zY,y8]at this;lia
 have hl:c=A+pc n*a:=uT λk=>by rw[zX,zY,x]
 have M:g=B+pc n*b:=uT λk=>by rw[zX,zY,bk]
 have y:Cg p (a*B+b*A) (pc 0):=by
  refine Cg.of_dvd λk=> ?_;have e:c*g-A*B=pc n*(a*B+b*A+pc n*(a*b)):=by rw[hl,M];simp only[wI,yV,zd,zF,zo];funext k;simp only[zX,y8];lia
  have hd:=(Cg.iff_sub.1 h.symm).dvd k;rw[e,zY]at hd;have z:p∣(a*B+b*A+pc n*(a*b)) k:=(Int.mul_dvd_mul_iff_left hn).1 hd;rw[zX,zY]at z;exact(Int.dvd_add_left<|xbw E<|xbZ _ _).1 z
 have⟨s,t,fs,N,P⟩:=hc;have Q:∀k,d<=k->a k=0:=λk C=>by
  have e:c k=A k:=by by_cases R:k=d;rw[R,i.1,o.1];rw[i.2 k W,o.2 k W]
  have:=x k;have S:n*a k=0:=W
  exact(xeQ.1 S).resolve_left hn
 have D:Cg p a ((s*a-t*b)*A):=by
  have e1:Cg p a (a*(s*A+t*B)):=by have:=(Cg.rfl (m:=p) (f:=a)).mul P.symm;rw[yp]at this;exact this
  refine e1.trans<|Cg.iff_sub.2 ?_;have e:a*(s*A+t*B)-(s*a-t*b)*A=t*(a*B+b*A):=by simp only[wI,yV,qx,ki,zd,zF,zo];funext k;simp only[zX,y8];lia
  rw[e];exact y.mul_zero_l t
 have T:=i.zero hp ((fs.mul L).subt<|N.mul w) λk C=>by rw[<-D k,Q k C,xaq]
 have hi:Cg p a (pc 0):=D.trans<|T.mul_zero_r A;have ht:Cg p (b*A) (pc 0):=by
  have e:b*A=a*B+b*A-a*B:=by funext k;simp only[zX,y8];lia
  rw[e];exact y.zero_sub<|hi.mul_zero_r B
 have U:Cg p b (pc 0):=i.zero hp w λk _=>by rw[ht k,zS,xaq]
 refine⟨Cg.symm<|Cg.iff_sub.2<|Cg.of_dvd λk=> ?_,Cg.symm<|Cg.iff_sub.2<|Cg.of_dvd λk=> ?_⟩;rw[<-u,zY];exact Int.mul_dvd_mul_left n<|hi.dvd k;rw[<-v,zY];exact Int.mul_dvd_mul_left n<|U.dvd k
def S8{p:J}(hp:2<=p){A B a e:Pz}{d:K}(f:Mn A d)(g:Mn a d)(i:Fs A)(b:Fs a)(l:Fs B)(c:Fs e)(hc:km p A B)(h1:Cg p A a)(m:Cg p B e):∀j,Cg (p^j) (A*B) (a*e)->Cg (p^j) A a/\Cg (p^j) B e
 |0,_=>⟨λk=>by rw[xce,Int.emod_one,Int.emod_one],λk=>by rw[xce,Int.emod_one,Int.emod_one]⟩
 |1,_=>by grind
 |j+2,h=>by
  have⟨g1,n⟩:=S8 hp f g i b l c hc h1 m (j+1)<|h.down<|mQ;rw[xbO]at h⊢;exact ze0 hp (Int.ne_of_gt<|Int.pow_pos W) (uh) f g i b l c hc g1 n h
def fU:K->K->K
 |_,0=>1
 |0,_+1=>0
 |n+1,k+1=>fU n k+fU n (k+1)
def QG(n:K):fU n 0=1:=by cases n<;>rfl
def K4(n k:K):fU (n+1) (k+1)=fU n k+fU n (k+1):=O
def Ah:∀n k,n<k->fU n k=0
 |0,0,h=>jp h<|xfQ _
 |0,k+1,_=>rfl
 |n+1,0,h=>jp h<|xbb _
 |n+1,k+1,h=>by rw[K4,Ah n k W,Ah n (k+1) W]
def Ei:∀n,fU n n=1
 |0=>rfl
 |n+1=>by rw[K4,Ei n,Ah n (n+1) W]
def Ow:∀n k,(k+1)*fU (n+1) (k+1)=(n+1)*fU n k
 |0,0=>rfl
 |0,k+1=>by skip;rfl
 |n+1,0=>by
  have h:=Ow n 0;rw[QG]at h;rw[K4,QG];lia
 |n+1,k+1=>by
  have h1:=Ow n k;have a:=Ow n<|k+1;have b:=K4 n k;rw[K4 (n+1)<|k+1];grind
def znp(a:J):∀n,(a+1)^n=yv (n+1) (λk=>(fU n k:J)*a^k)
 |0=>by
  show _=(0:J)+((1:K):J)*a^0;simp_all
 |n+1=>by
  have e1:yv (n+1+1) (λk=>(fU (n+1) k:J)*a^k)=1+(yv (n+1) (λk=>a*((fU n k:J)*a^k))+yv (n+1) (λk=>(fU n (k+1):J)*a^(k+1))):=by rw[Zo,<-XH];congr 1;show((fU (n+1) 0:K):J)*a^0=1;rw[QG,xce];rfl;exact yA λk _=>by rw[K4,xfj,Int.add_mul,xbO,<-xcY,<-xcY,xbI (_*a^k) a,<-xcY]
  have b:yv (n+1) (λk=>(fU n k:J)*a^k)=1+yv (n+1) (λk=>(fU n (k+1):J)*a^(k+1)):=by
   have h:yv (n+1+1) (λk=>(fU n k:J)*a^k)=yv (n+1) (λk=>(fU n k:J)*a^k):=by show yv (n+1) _+((fU n (n+1):K):J)*a^(n+1)=_;rw[Ah n (n+1) W];lia
   rw[<-h,Zo];congr 1;rw[QG,xce];rfl
  rw[e1,ZA,xbO,znp a n,xfx,xcO,xbI _ a];lia
def zdk{p x y:K}(hp:2<=p)(hn:kF p)(h0:0<x)(h1:x<p)(h:p∣x*y):p∣y:=
 Nat.Coprime.dvd_of_dvd_mul_left (mM hp hn h0 h1) h
def zdz{p k:K}(hp:2<=p)(hn:kF p)(h0:0<k:=by lia)(h1:k<p:=by lia):p∣fU p k:=by obtain⟨q,rfl⟩:∃q,p=q+1:=⟨p-1,W⟩;obtain⟨j,rfl⟩:∃j,k=j+1:=⟨k-1,W⟩;exact zdk hp hn h0 h1 ⟨fU q j,Ow q j⟩
def RY{p:K}(hp:2<=p)(hn:kF p)(a:J):(a+1)^p%p=(a^p+1)%p:=by
 obtain⟨q,rfl⟩:∃q,p=q+1:=⟨p-1,W⟩;rw[znp];show(yv (q+1) _+((fU (q+1) (q+1):K):J)*a^(q+1))%_=_;rw[Ei,Zo];have hd:((q+1:K):J)∣yv q (λk=>(fU (q+1) (k+1):J)*a^(k+1)):=gk λk b=>
  xbw (xdl.2<|zdz hp hn) (xbZ _ _)
 have⟨c,hc⟩:=hd;rw[QG];have e:1*1+((q+1:K):J)*c+1*a^(q+1)=a^(q+1)+1+((q+1:K):J)*c:=W
 simp_all
def zbD{p:K}(hp:2<=p)(hn:kF p):∀a:K,(a:J)^p%p=a%p
 |0=>by rw[show((0:K):J)=0 from O,Int.zero_pow W]
 |a+1=>by rw[xfj,show((1:K):J)=1 from O,RY hp hn,xeh,zbD hp hn a,<-xeh]
def zcl{p:J}(hp:qt p=wT){a:J}(h0:0<a)(h1:a<p):(a^(p-2).toNat*a)%p=1:=by
 have⟨f,g⟩:=zA hp;have hn:=WB hp;obtain⟨P,rfl⟩:=xaE (W:0<=p);obtain⟨A,rfl⟩:=xaE (W:0<=a);have b:2<=P:=W
 have h:=zbD b hn A;obtain⟨Q,rfl⟩:∃Q,P=Q+2:=⟨P-2,W⟩;rw[(W:(((Q+2:K):J)-2).toNat=Q)];have e:(A:J)^(Q+2)-A=A*((A:J)^Q*A-1):=by grind
 have hd:((Q+2:K):J)∣(A:J)*((A:J)^Q*A-1):=by rw[<-e];exact xaH<|xaM.1 h
 have c:Int.gcd ((Q+2:K):J) (A:J)=1:=mM b hn;have d:=PZ c hd;have i:=xaM.2<|xax d;assumption
def zon{n:K}{f:Pz}{x:J}(h:x=f n):zl n f++[x]=zl (n+1) f:=by rw[h];exact zlM
structure zgt(p:J)(a m:N J):Prop where
 fm:Fp p m
 ln:m.length=a.length
 top:ci m (m.length-1)=1
 cg:∃x y:J,Cg p (ci m) (pc x*ci a)/\Cg p (ci a) (pc y*ci m)
def Tk{p x:J}{a:N J}(hp:2<=p)(e:Fp p a)(f:0<X a)(b:(x*ci a (X a-1))%p=1):zgt p a (xH p a [x]):=by
 have hc:∀k,ci (xH p a [x]) k=(x*ci a k)%p:=λk=>by rw[dm,j8,zo,zY]
 have hd:X (xH p a [x])=X a:=by refine xcF ((jj W _ _).nl.le λk d=> ?_)<|xbz λg=> ?_;rw[hc,yz d,xaA,xaq];have c:=hc<|X a-1;rw[b,yz W]at c;cases c
 have h1:Cg p (ci<|xH p a [x]) (pc x*ci a):=λk=>by rw[hc,zY,xaR]
 refine⟨jj W _ _,hd,by rw[hd,hc,b],x,ci a<|X a-1,h1,?_⟩;refine Cg.symm<|(Cg.rfl.mul h1).trans ?_;rw[<-zd];refine Cg.trans (Cg.mul (λk=> ?_) Cg.rfl)<|Cg.of<|zE _;rw[ky,xbI];unfold pc;split;rw[b];exact(xaJ rx W).symm;rfl
def WX{fu:K}{a:N J}{p:J}(hp:qt p=wT)(b:Fp p a)(i:0<X a)(hc:X a<=90000)(c:3000000<=fu):∃x,0<x/\x<p/\(x*ci a (X a-1))%p=1/\jy fu a p=Z (xH p a [x],0):=by
 have⟨j,d⟩:=zA hp;have hd:ci a (X a-1)≠0:=by
  obtain h|h:=b.nl
  lia;exact h
 have t1:=b.nn<|X a-1;have⟨x,x0,f,g,_,e⟩:=ai (fu:=fu) hp b (W:0<ci a (X a-1)) (b.lt _) hc c;refine⟨x,x0,f,g,?_⟩;unfold jy;rw[Y<|Za hp,Q O,Y<|zN W d (b.rl d) W c,b.pm,zG,(W:(X a:J)-1=((X a-1:K):J)),zb,yn,F,JH,Y e]
def K8{fu:K}{p:J}{g h:N J}(hp:qt p=wT)(a:Fp p g)(b:Fp p h)(c:X g<=290)(hc:X h<=290)(e:3000000<=fu):
 ∃d s t,kv fu g h p=Z (d,0)/\BzR p g h d s t (2+max (X g) (X h)*(max (X g) (X h)+1))/\(X d=0\/ci d (X d-1)=1):=by grind [kv,uX,Y]
def zda{p:J}{g h d s t:N J}{S:K}(hp:2<=p)(a:BzR p g h d s t S)(hd:X d=0\/ci d (X d-1)=1):X d=1↔km p (ci g) (ci h):=by
 refine⟨λh1=>NX a h1 (hd.resolve_left W),λhc=> ?_⟩;have⟨A,C,c,z2,d1,d2⟩:=a.dv;have⟨u,v,z3,z4,hc⟩:=hc;have b:Cg p ((u*A+v*C)*ci d) (pc 1):=by refine Cg.trans (Cg.of ?_)<|(((Cg.rfl).mul d1.symm).add<|(Cg.rfl).mul d2.symm).trans hc;rw[yV,zd,zd]
 have f:0<X d:=by refine xcP λe=> ?_;have h1:=b 0;rw[vt,xb λi hi=>by rw[yz W,xaA]]at h1;unfold pc at h1;rw[xaq,xaJ rx W]at h1;cases h1
 exact Sx hp ((z3.mul c).add<|z4.mul z2) f (hd.resolve_left W) b
section
variable{a:ww wF}{p:wF}
def dvp(f:Pz):Pz:=λk=>((k+1:K):J)*f (k+1)
theorem ab(f g:Pz):dvp (f*g)=dvp f*g+f*dvp g:=by
 funext k;show((k+1:K):J)*(f*g) (k+1)=(dvp f*g) k+(f*dvp g) k;rw[vt,vt,vt,<-ZA];have e:yv (k+1+1) (λi=>((k+1:K):J)*(f i*g (k+1-i)))=yv (k+1+1) (λi=>(i:J)*(f i*g (k+1-i)))+yv (k+1+1) (λi=>((k+1-i:K):J)*(f i*g (k+1-i))):=by rw[<-XH];exact yA λi hi=>by grind
 rw[e];congr 1
 rw[Zo];show((0:K):J)*_+_=_;rw[show((0:K):J)=0 from O,xbc,xcI];exact yA λi hi=>by
  show((i+1:K):J)*(f (i+1)*g (k+1-(i+1)))=((i+1:K):J)*f (i+1)*g (k-i);grind
 show yv (k+1) _+((k+1-(k+1):K):J)*_=_;rw[xck,show((0:K):J)=0 from O,xbc,xbY];exact yA λi hi=>by
  show((k+1-i:K):J)*(f i*g (k+1-i))=f i*(((k-i+1:K):J)*g (k-i+1));grind
def zio{m:J}{f g:Pz}(h:Cg m f g):Cg m (dvp f) (dvp g):=λk=>by
 show(((k+1:K):J)*f (k+1))%m=(((k+1:K):J)*g (k+1))%m;rw[xcd,h,<-xcd]
def zo4(c:J):dvp (pc c)=pc 0:=uT λk=>by
 rw[zS];rfl
def drv(p:J)(a:N J):N J:=nl (X a)<|λk=>dvp (ci a) k%p
def zm0{k:K}(h:X a<=k+1):dvp (ci a) k=0:=by show((k+1:K):J)*ci a (k+1)=0;rw[yz h,xaA]
def Px(p:J)(a:N J)(k:K):ci (drv p a) k=dvp (ci a) k%p:=DT (λk b=>by rw[zm0 W,xaq]) k
def zju(p:J)(a:N J):Cg p (ci<|drv p a) (dvp<|ci a):=λk=>by rw[Px,xaR]
def zgL(hp:0<p)(a:N J):Fp p (drv p a):=⟨λk=>by rw[Px];exact(xf hp).1,λk=>by rw[Px];exact(xf hp).2,Ck _ _⟩
def zoH(p:J)(a:N J):X (drv p a)<=X a:=Mi _ _
def BF{fu:K}(hp:qt p=wT)(b:Fp p a)(hc:X a<=90000)(e:3000000<=fu):VK fu a p=Z (drv p a,0):=by
 have⟨n,c⟩:=zA hp;unfold VK;have g:∀k:K,0<=((k:J)%p)*ci a k/\((k:J)%p)*ci a k<=4293001441:=λk=>by
  have d:=xf (a:=(k:J)) (p:=p);exact gI c d.1 d.2 (b.nn k)<|b.lt k
 rw[Y<|Za hp,Q O,Y<|zN W c (b.rl c) W e,b.pm,Y (v:=zl (X a-1)<|λk=>(((k+1:K):J)%p)*ci a (k+1))];have l:∀k,X a-1<=k->(((k+1:K):J)%p)*ci a (k+1)=0:=λk o=>by rw[yz W,xaA]
 have d:Rl (zl (X a-1)<|λk=>(((k+1:K):J)%p)*ci a (k+1)):=λk=>by
  rw[X6 l];have:=g<|k+1;exact⟨W,W⟩
 rw[Y<|zN W c d (by rw[ye];lia) e];congr 2;refine(Ej W _).ext (zgL W _) λk=> ?_;rw[Mb,X6 l,Px,xaR,xaR];show _=(((k+1:K):J)*ci a (k+1))%p;rw[xcd,xaR,<-xcd];refine zB (λs:N J×J×N J=>∃i:K,i<=X a/\s=(zl (i-1)<|λk=>(((k+1:K):J)%p)*ci a (k+1),(i:J),a)) (λs=>X a-s.2.1.toNat) _ ?_ _ _ ⟨0,xaf _,O⟩ (by show X a-0<fu;lia);rintro s L ⟨i,hi,rfl⟩ m;unfold eJ;simp only;by_cases h:i<X a;rw[yg,Y O];simp only[Z4];rw[zm h,F,JH];by_cases h0:0<i;have hd:=g i;obtain⟨j,rfl⟩:∃j,i=j+1:=⟨i-1,W⟩;rw[yg,y9,F,nj,zb,xN (by rw[ye];simp;lia),F,(W:j+1-1=j),zon (f:=λk=>(((k+1:K):J)%p)*ci a (k+1)) O,zb];exact m _ ⟨j+1+1,W,O⟩ (by show X a-(((j+1:K):J)+1).toNat<X a-((j+1:K):J).toNat;lia);obtain rfl:i=0:=W
 rw[zG,zb];exact m _ ⟨1,W,O⟩ (by show X a-(((0:K):J)+1).toNat<X a-((0:K):J).toNat;lia);rw[zG,Y O];simp only[xaj,Z5];obtain rfl:i=X a:=W
 rfl
end
section
variable{p:wF}{m g d:ww wF}{A:Pz}
structure vu(p:J)(m:N J):Prop where
 fm:Fp p m
 ln:0<m.length
 top:ci m (m.length-1)=1
def vu.mn(h:vu p m):Mn (ci m) (X m-1):=⟨h.top,λk a=>yz W⟩
def vu.one(h:vu p m)(hl:X m=1):m=[1]:=by
 match m,hl with
 |[x],_=>have:=h.top;exact Z2 (λy=>[y]) this
def LV{q r:N J}(hp:2<=p)(a:vu p m)(f:vu p g)(w:Fs A)(hd:Cg p (ci m) (A*ci g))(o:Fp p q)(B:Fp p r)(t:Cg p (ci m) (ci q*ci g+ci r))(C:X r<X g):
 vu p q/\Cg p (ci m) (ci q*ci g)/\X m+1=X q+X g:=by
 have hl:=f.ln;have h1:Cg p ((A-ci q)*ci g) (ci r):=by rw[ki];refine((hd.symm.trans t).sub Cg.rfl).trans<|Cg.of ?_;funext k;rw[y8,zX];lia
 have y:=f.mn.zero hp (w.subt<|Fs.ci q) λk u=>by rw[h1 k,yz W,xaq]
 have D:Cg p (ci r) (pc 0):=h1.symm.trans<|y.mul_zero_r _;have b:Cg p (ci m) (ci q*ci g):=by
  refine t.trans<|Cg.iff_sub.2 ?_;have e:ci q*ci g+ci r-ci q*ci g=ci r:=by funext k;rw[y8,zX];lia
  simp_all
 have hn:=a.ln;have q0:0<X q:=by refine xcP λe=> ?_;have v:=b<|X m-1;rw[a.top,vt,xb λi hi=>by rw[yz (l:=q) W,xbc],xaq,xaJ rx W]at v;cases v
 have ht:=f.mn.top (x:=ci q) (n:=X q-1) λk u=>yz W;have c:=b<|X q-1+(X g-1);rw[ht,a.fm.mod,o.mod]at c;have z:ci q (X q-1)≠0:=by
  obtain h|h:=o.nl
  lia;exact h
 have hc:X m+1=X q+X g:=by
  have E:X q-1+(X g-1)<X m:=xdp λh=>by
   rw[yz h]at c;exact z c.symm
  have F:X m<=X q-1+(X g-1)+1:=a.fm.nl.le λk u=>by rw[<-a.fm.mod,b,uE (n:=X q) (m:=X g) (λj s=>yz s)<|λj s=>yz s,xaq]
  lia
 refine⟨⟨o,q0,?_⟩,b,hc⟩;rw[<-c,(W:X q-1+(X g-1)=X m-1),a.top]
def zmK{h s t:N J}{S:K}(hp:2<=p)(b:vu p g)(a:BzR p g h d s t S)(hd:X d=0\/ci d (X d-1)=1):vu p d:=by
 have⟨A,C,c,z2,d1,d2⟩:=a.dv;have hl:0<X d:=by refine xcP λe=> ?_;have h1:=d1<|X g-1;rw[b.top,vt,xb λi hi=>by rw[yz W,xaA],xaJ rx W]at h1;cases h1
 exact⟨a.df,hl,hd.resolve_left W⟩
def ni{a:N J}(hp:2<=p)(c:vu p a)(hd:vu p d)(e:Fs A)(h:Cg p (ci a) (A*ci d)):X d<=X a:=by
 refine xbz λhc=> ?_;have f:∀k,X d-1<=k->(A*ci d) k%p=0:=λk i=>by rw[<-h k,yz W,xaq]
 have h0:=hd.mn.zero hp e f;have b:=(h.trans<|h0.mul_zero_r _)<|X a-1;rw[c.top,zS,xaJ rx W]at b;cases b
end
def zjg{p:J}{m:N J}(hp:0<p)(a:Fp p m):xH p m [1]=m:=by grind [Fp.ext,jj,ZU,j8,yp]
section
variable{fu K:wL}{a b:Zr}
def exI(x y:J):J:=if y=0 then 0 else if x%y=0 then x/y else 0
def exE(x y:J):J:=if y=0 then 3 else if x%y=0 then 0 else 4
def vO(f:fF a)(c:fF b)(d:3000000<=fu):v7 fu a b=Z (yC<|exI (zv a)<|zv b,exE (zv a)<|zv b):=by
 unfold v7 exI exE;rw[Y<|aV f c d];unfold EV;by_cases h0:zv b=0
 rw[Q h0,Q h0,Q h0];rfl;rw[S h0,S h0,S h0];simp only[Z4];have g:Bz (X b.2) (zv a%zv b):=by unfold Bz;have h1:=xcH (zv a) h0;have i:=Int.emod_lt (zv a) h0;have h:=Bz.of c.1;unfold Bz at h;lia
 rw[Y O,S rx,Y<|y5 (g.ok (by have:=c.2;lia)) d,zn];by_cases h1:zv a%zv b=0
 rw[Q<|xm.2 h1,Q h1,Q h1];rw[S<|λe=>h1<|xm.1 e,S h1,S h1];rfl
def Bn(f:fF a)(c:fF b)(d:3000000<=fu):Vt fu a b=Z (yC<|exI (zv a)<|zv b,exE (zv a)<|zv b):=by
 unfold Vt exI exE;rw[Y<|XN f c d];unfold EV;by_cases h0:zv b=0
 rw[Q h0,Q h0,Q h0];rfl;rw[S h0,S h0,S h0];simp only[Z4];have g:Bz (X b.2) (zv a%zv b):=by unfold Bz;have h1:=xcH (zv a) h0;have i:=Int.emod_lt (zv a) h0;have h:=Bz.of c.1;unfold Bz at h;lia
 rw[Y<|um (g.ok (by have:=c.2;lia)) d,zn];by_cases h1:zv a%zv b=0
 rw[Q<|xm.2 h1,Q h1,Q h1];rw[S<|λe=>h1<|xm.1 e,S h1,S h1];rfl
def zfo{n:wL}(h:n<18446744073709551616^K):bl n<=64*K:=bU<|by rw[xcg];exact h
def Vr(e:zp a.2)(f:zp b.2)(j:X a.2<=K)(hi:X b.2<=K)(p:K<=10000)(k:3000000<=fu):WU fu a b=Z (yC (xdk (zv a).natAbs (zv b).natAbs:wL)):=by
 unfold WU;rw[Y<|Vs e,Y<|Vs f,vM,vM];have c:P a.2<18446744073709551616^K:=xag (vd e)<|xam rx j;have g:P b.2<18446744073709551616^K:=xag (vd f)<|xam rx hi;generalize P a.2=A at*
 generalize P b.2=B at*
 have l:xdk A B<18446744073709551616^K:=by
  by_cases h:A=0
  simp_all;exact xaI (Nat.gcd_le_left _ W) c
 have hc:∀{n:wL},n<18446744073709551616^K->X (yI n)<=K:=λ{n} h=>(zL _ _).2 h;rw[Y (v:=yI<|xdk A B)];have hl:=hc l;rw[Y (yM (zt _) W W),zV];rfl;refine zB (λs:N wL×N wL=>∃x y:wL,s=(yI x,yI y)/\x<18446744073709551616^K/\y<18446744073709551616^K/\xdk x y=xdk A B) (λs=>bl (P s.1)+bl (P s.2)+if P s.1<P s.2 then 1 else 0) _ ?_ _ _ ⟨A,B,O,c,g,O⟩ ?_;rintro s L ⟨x,y,rfl,m,i,d⟩ o;unfold tU;simp only;have q:=hc m;have r:=hc i;by_cases h0:y=0
 subst h0;rw[S<|by rw[mb];decide];rw[Nat.gcd_zero_right]at d;rw[d];have hp:=qk (n:=y) W;rw[yg,Y<|sK (zt x) (zt y) W W k,zV,zV,S h0];simp only;have t:=xaP x (W:0<y);refine o _ ⟨y,x%y,O,i,W,?_⟩ ?_;rw[<-d,xdF y,<-Nat.gcd_rec,xdF];simp only[zV];rw[zG];by_cases hd:x<y;rw[Q hd,xap hd];lia;have:=Pb (r0:=x) (r1:=y);lia;simp only[zV];have h1:=zfo c;have u:=zfo g;split<;>lia
def mi(c:zp a.2)(hl:X a.2<=200000)(d:3000000<=fu):Ql fu a=Z (yC ((zv a).natAbs:wL)):=by unfold Ql;rw[Y<|yW (z:=(I,a.2)) c hl d,vM];rfl
def lk(d:zp a.2)(f:zp b.2)(hd:X a.2<=K)(k:X b.2<=K)(p:K<=10000)(c:3000000<=fu):QB fu a b=Z (yC (xdk (zv a).natAbs (zv b).natAbs:wL)):=by
 unfold QB;rw[Y<|mi d W c,Y<|mi f W c,vM,vM];have g:P a.2<18446744073709551616^K:=xag (vd d)<|xam rx hd;have h:P b.2<18446744073709551616^K:=xag (vd f)<|xam rx k;generalize P a.2=A at*
 generalize P b.2=B at*
 rw[Y (v:=yC (xdk A B:wL))];refine zB (λs:U×U=>∃x y:wL,s=(yC (x:wL),yC (y:wL))/\x<18446744073709551616^K/\y<18446744073709551616^K/\xdk x y=xdk A B) (λs=>bl (zv s.1).natAbs+bl (zv s.2).natAbs+if(zv s.1).natAbs<(zv s.2).natAbs then 1 else 0) _ ?_ _ _ ⟨A,B,O,g,h,O⟩ ?_;rintro s L ⟨x,y,rfl,l,i,m⟩ n;unfold oM;simp only;have o:=Bz.nat l;have j:=Bz.nat i;rw[Y<|um (j.ok W) c,zn];by_cases h0:y=0
 subst h0;rw[Q<|xm.2 (show((0:wL):J)=0 from O)];simp_all;rw[S<|λe=>h0 (by have:=xm.1 e;lia),Y<|XN (o.okS W) (j.okS W) c,zn,zn];unfold EV;rw[zG];simp only;have hi:=xaP x (W:0<y);rw[show((x:J)%(y:J))=((x%y:wL):J)from O];refine n _ ⟨y,x%y,O,i,W,?_⟩ ?_;rw[<-m,xdF y,<-Nat.gcd_rec,xdF];simp only[zn,xaL];rw[zG];by_cases hc:x<y;rw[Q hc,xap hc];lia;have:=Pb (r0:=x) (r1:=y);lia;simp only[zn,xaL];have h1:=zfo g;have q:=zfo h;split<;>lia
end
end Go.Proofs.YtoegnnjcmlghhaaGreat
