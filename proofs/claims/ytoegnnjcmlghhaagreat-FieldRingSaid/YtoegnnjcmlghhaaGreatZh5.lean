/- What a proof needs: rules of walking, mirrors of functions and their plain laws. No condition. -/
import Derived.Test.YtoegnnjcmlghhaaGreatZh4
set_option linter.all false
namespace Go.Proofs.YtoegnnjcmlghhaaGreat
open Bool renaming false->I,true->wL
open Go.Proofs.YtoegnnjcmlghhaaGreat renaming Zr->M,bd->Y,za->U,nm->B,cC->D,zu->Q,nv->A,ze->S
open List renaming length->X,length->lM
open Nat renaming beq->E
open Option renaming some->Z
open _root_ renaming rfl->O,List->N,Int->J,Nat->K,Option->V,List->xS,Int->wl,Nat->wr,Option->ww,trivial->wR,absurd->wS,Bool->qR,funext->jp,Rat->kw,congrArg->ut,if_true->uP,if_false->uS,True->XS,decide_eq_false->Wl,congrFun->Wn,of_decide_eq_true->Ws,False->QR,propext->ii,mkRat->iI
open Bool renaming false_eq_true->xao
open Classical renaming byContradiction->xai
open Int renaming add_emod->xei,add_zero->xcd,dvd_mul_left->xcU,dvd_mul_right->xce,dvd_of_emod_eq_zero->xaH,dvd_refl->xej,dvd_sub->xdB,dvd_trans->xbw,dvd_zero->xdM,emod_emod->xaW,emod_emod_of_dvd->xcF,emod_eq_emod_iff_emod_sub_eq_zero->xaO,emod_eq_of_lt->xaJ,emod_eq_zero_of_dvd->xaz,emod_lt_of_pos->xdQ,emod_nonneg->xcR,eq_ofNat_of_zero_le->xaE,le_of_lt->xdO,le_refl->xgb,mul_add->xfE,mul_assoc->xdc,mul_comm->xbE,mul_dvd_mul->xga,mul_emod->xci,mul_eq_zero->xeS,mul_le_mul_of_nonneg_right->xbF,mul_ne_zero->xcT,mul_nonneg->xcC,mul_one->xcY,mul_zero->xaA,natAbs_dvd_natAbs->xcr,natAbs_ediv_le_natAbs->xbG,natAbs_mul->xct,natAbs_natCast->xaD,natAbs_neg->xeY,natCast_add->xeO,natCast_dvd_natCast->xcW,natCast_mul->xeN,natCast_nonneg->xdm,ofNat_dvd_left->xfq,one_mul->xdg,pow_succ->xbU,pow_zero->xcj,sub_self->xek,sub_zero->xdi,tdiv->xdE,tmod->xcv,toNat_natCast->xbe,toNat_of_nonneg->xdf,zero_add->xcS,zero_ediv->xel,zero_emod->xau,zero_mul->xbd
open List renaming drop->xdT,drop_eq_getElem_cons->xcb,drop_eq_nil_of_le->xbW,ext_getElem->xeI,ext_getElem?->xcA,getD_eq_getElem?_getD->FS,getElem?_eq_getElem->xab,getElem?_eq_none->xbB,getElem?_map->xbV,getElem?_replicate->xdj,getElem?_take->xcn,getElem_mem->xbQ,length_append->xaw,length_cons->xax,length_drop->xbX,length_eq_zero_iff->xbh,length_map->xaj,length_nil->xbP,length_range->xev,length_replicate->xaM,length_set->xbj,length_take->xav,map_append->xaY,map_congr_left->xbZ,map_cons->xbS,map_map->xcN,map_nil->xex,map_take->xeU,mem_append->So,mem_cons_of_mem->UV,mem_cons_self->H1,mem_iff_getElem->xcE,mem_map->xas,mem_of_getElem?->xbp,mem_of_mem_drop->xeX,mem_of_mem_take->xdo,mem_or_eq_of_mem_set->xdF,mem_range->xbg,mem_replicate->xfr,mem_singleton->xag,nil_append->xbA,pairwise_append->xdp,pairwise_iff_getElem->xcZ,range->xaN,range_succ->xdk,replicate->xaa,take->xdH,take_add_one->xeu,take_append_drop->xbv,take_length->xbY,take_of_length_le->xaQ
open Nat renaming add_assoc->xcH,add_comm->xdW,add_mul->xbf,add_mul_div_left->xcw,add_mul_mod_self_left->xcc,add_zero->xbD,div_add_mod->xbu,div_div_eq_div_mul->xaF,div_eq_of_lt->xbi,div_le_self->xcM,div_lt_iff_lt_mul->xbb,div_mul_le_self->xcQ,div_one->xeq,eq_zero_of_not_pos->xfy,eq_zero_or_pos->xcx,gcd->xdt,gcd_comm->xdN,gcd_dvd_left->xfR,gcd_dvd_right->xdC,le_add_right->xbM,le_antisymm->xcP,le_div_iff_mul_le->xcy,le_max_left->xeb,le_max_right->xdS,le_of_lt->xdK,le_of_not_lt->xbz,le_refl->IR,le_succ->xbH,le_trans->xap,lt_irrefl->xfW,lt_of_le_of_lt->xaL,lt_of_lt_of_le->xah,lt_of_not_le->xdr,lt_or_ge->xca,lt_trans->xfi,min_eq_left->xcq,mod_eq_of_lt->xaq,mod_lt->xaU,mul_add->xbn,mul_assoc->xaT,mul_comm->xaS,mul_div_mul_right->xfL,mul_le_mul->xck,mul_le_mul_left->xaC,mul_le_mul_right->xak,mul_left_comm->xdA,mul_lt_mul''->xcm,mul_lt_mul_of_pos_right->xbI,mul_mod_mul_right->xeh,mul_one->xea,mul_pos->xdy,mul_zero->xcO,not_lt_zero->xbq,one_mul->xcz,pos_of_ne_zero->xcJ,pow_add->xbo,pow_le_pow_right->xal,pow_lt_pow_right->xfT,pow_mul->xch,pow_pos->xaV,pow_succ->xba,pow_succ'->xdV,pow_zero->xez,strongRecOn->xdG,sub_le->xfh,sub_self->xcD,succ_mul->xds,two_pow_pos->xdL,zero_add->xaK,zero_le->xan,zero_mod->xgf,zero_mul->xcp
open Option renaming getD_some->xdq
open Rat renaming add_zero->xfk,divInt->xgj,intCast_mul->xbs,mkRat_eq_div->xfS,natCast_inj->xec,natCast_mul->xda,pow_zero->xfj,zero_mul->xeA
section
variable{fu k B i:wr}{a y b t:xS wr}
theorem xM:qq fu a (k:J)=Z (a.getD k 0):=by grind [qq,zo,S]
def zaF{x y:K}(d:0<B)(h:x/B^(k+1)=y/B^(k+1))(hd:x/B^k%B<y/B^k%B):x<y:=by
 have h1:=Jl x B k d;have f:=Jl y B k d;rw[h]at h1;refine xdr λe=> ?_;have:=Nat.div_le_div_right (c:=B^k) e;omega
theorem zjX{x y:K}(c:0<B)(h:x/B^(k+1)=y/B^(k+1))(hd:x/B^k%B=y/B^k%B):x/B^k=y/B^k:=by grind [Jl]
def Jq(g:xj a)(h:xj b)(l:X a<=1000000)(n:X b<=1000000)(o:2000000<fu):kV fu a b=Z (jH (nw a:K) (nw b:K)):=by
 unfold kV;have e1:max (X a:J) (X b:J)=((max (X a) (X b):K):J):=iT
 rw[S,e1,zb];have t0:nw a/4294967296^(max (X a) (X b))=nw b/4294967296^(max (X a) (X b)):=by
  have h1:nw a<4294967296^(max (X a) (X b)):=xah (Qv g)<|xal i0<|xeb _ _;have d:nw b<4294967296^(max (X a) (X b)):=xah (Qv h)<|xal i0<|xdS _ _;rw[xbi h1,xbi d]
 have g1:∀k,a.getD k 0=nw a/4294967296^k%4294967296:=bn g;have c:∀k,b.getD k 0=nw b/4294967296^k%4294967296:=bn h;by_cases hc:nw a=nw b
 ·rw[U (v:=.inl ())]
  ·rw[hc,kP O]
  ·refine zA (λi:J=>∃m:K,i=(m:J)-1/\m<=max (X a) (X b)) (λi=>(i+1).toNat) _ ?_ _ _ ⟨_,O,IR _⟩ iT;rintro i L ⟨m,rfl,j⟩ f;unfold Xd;by_cases h0:m=0
   ·rw[zB]
   ·have e:(m:J)-1=((m-1:K):J):=iT
    rw[zX,e,U xM,U xM,g1,c,hc,zB,U xM,U xM,g1,c,hc,zB,zb];exact f _ ⟨m-1,O,iT⟩ iT
 ·rw[U (v:=.inr<|jH (nw a:K) (nw b:K))];refine zA (λi:J=>∃m:K,i=(m:J)-1/\m<=max (X a) (X b)/\nw a/4294967296^m=nw b/4294967296^m) (λi=>(i+1).toNat) _ ?_ _ _ ⟨_,O,IR _,t0⟩ iT;rintro i L ⟨m,rfl,j,ht⟩ f;unfold Xd;by_cases h0:m=0
  ·subst h0;rw[xez,xeq,xeq]at ht;exact wS ht hc
  ·have e:(m:J)-1=((m-1:K):J):=iT
   have hd:nw a/4294967296^(m-1+1)=nw b/4294967296^(m-1+1):=by rw[(iT:m-1+1=m)];exact ht
   rw[zX,e,U xM,U xM];by_cases h1:a.getD (m-1) 0<b.getD (m-1) 0
   ·rw[zX,qG];rw[g1,c]at h1;have:=zaF i0 hd h1;omega
   ·rw[zB,U xM,U xM];by_cases d:b.getD (m-1) 0<a.getD (m-1) 0
    ·rw[zX,vM];rw[g1,c]at d;have:=zaF i0 hd.symm d;omega
    ·rw[zB,zb];refine f _ ⟨m-1,O,iT,zjX i0 hd ?_⟩ iT;rw[<-g1,<-c];omega
theorem MO{x:N K}{c:K}(ht:X t=i)(h:nw t+4294967296^i*c=nw (x.take i)+nw (y.take i)):
 nw (t++[(x.getD i 0+y.getD i 0+c)%4294967296])+4294967296^(i+1)*((x.getD i 0+y.getD i 0+c)/4294967296)=nw (x.take<|i+1)+nw (y.take<|i+1):=by grind [BA,kK,xbu]
def fT(d:zm a)(e:zm b)(q:X a<=200000)(r:X b<=200000)(u:2000000<fu):Vj fu a b=Z (yB<|A a+A b):=by
 unfold Vj;rw[U (xY d iT iT),U<|xY e iT iT];have l1:=Vt d;have w:=Vt e;have f:=qD<|A a;have g:=qD<|A b;have v1:=qM<|A a;have l:=qM<|A b;generalize Vv (A a)=x at*
 generalize Vv (A b)=y at*
 have⟨n,hn⟩:∃n,n=max (X x) (X y)+1:=⟨_,O⟩;have hd:nw x+nw y<4294967296^n:=by
  have h1:nw x<4294967296^(max (X x) (X y)):=xah (Qv f)<|xal i0<|xeb _ _;have z:nw y<4294967296^(max (X x) (X y)):=xah (Qv g)<|xal i0<|xdS _ _;rw[hn,xba];omega
 rw[U (v:=kQ n<|nw x+nw y)]
 ·rw[U (jC (qO _ _) (by rw[yQ];omega)<|by rw[yQ];omega),Y8,xaq hd,v1,l]
 ·refine zA (λs:N K×K×J=>∃(t:N K) (c i:K),s=(t,c,(i:J))/\i<=n/\X t=i/\xj t/\c<=1/\nw t+4294967296^i*c=nw (x.take i)+nw (y.take i)) (λs=>n-s.2.2.toNat) _ ?_ _ _ ⟨[],0,0,O,iT,O,xj.nil,iT,by simp[nw]⟩ (by show n-0<fu;omega);rintro s L ⟨t,c,i,rfl,hi,ht,j,hc,hv⟩ m;unfold im;simp only;have e1:max (X x:J) (X y:J)=((max (X x) (X y):K):J):=iT
  rw[S,e1,zb];by_cases h1:i<n
  ·have b1:=f.getD i;have b2:=g.getD i;have o:((x.getD i 0+y.getD i 0)%18446744073709551616+c)%18446744073709551616=x.getD i 0+y.getD i 0+c:=iT
   rw[zX,U xM,U xM,S,S,S,Eo,o,w8 (by simp[ht];omega),S,S,CV,zb];refine m _ ⟨_,_,i+1,O,iT,by simp[ht],j.append<|xj.cons (xaU _ i0) xj.nil,iT,MO ht hv⟩ (by show n-((i:J)+1).toNat<n-(i:J).toNat;omega)
  ·rw[zB];obtain rfl:i=n:=iT
   rw[xaQ iT,xaQ iT]at hv;have hp:0<4294967296^i:=xaV i0;have p:c=0:=by
    obtain h|h:=xcx c
    ·exact h
    ·have:4294967296^i*1<=4294967296^i*c:=xaC _ h;omega
   subst p;rw[xcO,xbD]at hv;rw[<-hv,<-ht,aZ j]
theorem FJ{x:N K}{b D:K}(ht:X t=i)(c:D+y.getD i 0+b=x.getD i 0+4294967296)(h:nw t+nw (y.take i)=nw (x.take i)+4294967296^i*b)(d:D<8589934592):
 nw (t++[D%4294967296])+nw (y.take<|i+1)=nw (x.take<|i+1)+4294967296^(i+1)*(1-D/4294967296):=by
 rw[BA,ht,kK,kK,xba];have hd:D/4294967296=0\/D/4294967296=1:=iT
 have e1:4294967296^i*(D%4294967296)+4294967296^i*y.getD i 0+4294967296^i*b+4294967296^i*4294967296*(D/4294967296)=4294967296^i*x.getD i 0+4294967296^i*4294967296:=by
  rw[xaT,<-xbn,<-xbn,<-xbn,<-xbn];grind
 grind
def bO{x:N K}(e:xj x)(f:xj y)(hl:X x<=1000000)(q:2000000<fu)(h:nw y<=nw x):Xi fu x y=Z (Vv<|nw x-nw y):=by
 unfold Xi;have r:=Qv e;have g:nw (y.take (X x))=nw y:=by rw[HR f,xaq iT]
 have c:∃t,xj t/\X t=X x/\nw t=nw x-nw y/\zg (JO fu x y) fu ([],0,0)=Z t:=by
  refine⟨kQ (X x)<|nw x-nw y,qO _ _,yQ _ _,by rw[Y8,xaq iT],?_⟩;refine zA (λs:N K×K×J=>∃(t:N K) (b i:K),s=(t,b,(i:J))/\i<=X x/\X t=i/\xj t/\b<=1/\nw t+nw (y.take i)=nw (x.take i)+4294967296^i*b) (λs=>X x-s.2.2.toNat) _ ?_ _ _ ⟨[],0,0,O,iT,O,xj.nil,iT,by simp[nw]⟩ (by show X x-0<fu;omega);rintro s L ⟨t,b,i,rfl,hi,ht,d,u,hv⟩ j;unfold JO;simp only;by_cases h1:i<X x
  ·have b1:=e.getD i;have b2:=f.getD i;have⟨D,hd⟩:∃D,D=x.getD i 0+4294967296-y.getD i 0-b:=⟨_,O⟩;have l:(((x.getD i 0+4294967296)%18446744073709551616+18446744073709551616-y.getD i 0)%18446744073709551616+18446744073709551616-b)%18446744073709551616=D:=iT
   have m:(1+18446744073709551616-D/2^32)%18446744073709551616=1-D/4294967296:=iT
   rw[zX,U xM,S,U xM,S,S,S,Eo,l,w8 (by simp[ht];omega),S,S,CV,S,m,zb];exact j _ ⟨_,_,i+1,O,iT,by simp[ht],d.append<|xj.cons (xaU _ i0) xj.nil,iT,FJ ht iT hv iT⟩ (by show X x-((i:J)+1).toNat<X x-(i:J).toNat;omega)
  ·rw[zB];obtain rfl:i=X x:=iT
   rw[g,xbY]at hv;have n:=Qv d;rw[ht]at n;have hc:b=0:=by
    obtain h|h:=xcx b
    ·exact h
    ·have:4294967296^X x*1<=4294967296^X x*b:=xaC _ h;omega
   subst hc;rw[xcO,xbD]at hv;rw[(iT:nw x-nw y=nw t),<-ht,aZ d]
 have⟨t,k1,k2,o,p⟩:=c;rw[U p,U (JW k1 iT iT),o]
def JC(c:zm a)(d:zm b)(hd:X a<=200000)(j:X b<=200000)(e:2000000<fu):
 YD fu a b=Z (if A a<A b then([],1)else(yB<|A a-A b,0)):=by
 unfold YD;rw[U (xY c iT iT),U<|xY d iT iT];have l1:=Vt c;have l:=Vt d;have f:=qD<|A a;have g:=qD<|A b;rw[U<|Jq f g iT iT e,qM,qM];by_cases h:A a<A b
 ·rw[qG iT,iq i0,iq h]
 ·have hc:¬jH ((A a:K):J) ((A b:K):J)<0:=by
   rcases xca (A b) (A a)with h|h
   ·rw[vM iT];decide
   ·rw[kP iT];decide
  have m:X (Vv<|A a-A b)<=2*X a:=by
   rw[vo,BP];exact xaL (xfh _ _)<|vv c
  rw[ir hc,ir h,U (bO f g iT e<|by rw[qM,qM];omega),qM,qM,U (jC (qD _) iT iT),qM]
def xc{z:M}(h:zm z.2)(hl:X z.2<=200000)(c:3000000<=fu):y8 fu z=Z (yz<|zv z):=VO h iT iT
def BR(s:qR)(n:K):zv (s,yB n)=if s=wL then-(n:J)else(n:J):=by unfold zv;rw[zT]
def DP{z:M}(h:gV z)(c:3000000<=fu):Ka fu z=Z (yz (-zv z)):=by
 unfold Ka;have:=h.2;rw[U<|xc (z:=(!z.1,z.2)) h.1 (by show X z.2<=_;omega) c];rcases xZ z with⟨h1,d⟩|⟨h1,d⟩
 ·skip;unfold zv;simp[h1]
 ·skip;unfold zv;simp[h1]
theorem dP{a b:M}(g:gV a)(h:gV b)(j:3000000<=fu):Vn fu a b=Z (yz<|zv a+zv b):=by
 unfold Vn;have l:=g.2;have m:=h.2;have n:X (yB<|A a.2+A b.2)<=100001:=Zk (xap (xf g.1) l)<|xap (xf h.1) m;rw[S];by_cases d:a.1=b.1
 ·rw[iq (by simp[d]),U (fT g.1 h.1 iT iT iT),U<|xc (z:=(a.1,yB<|A a.2+A b.2)) (zp _) (by show(yB _).length<=_;omega) j,BR];rcases xZ a with⟨h1,e⟩|⟨h1,e⟩<;>rcases xZ b with⟨c,f⟩|⟨c,f⟩
  ·grind
  ·simp_all
  ·simp_all
  ·rw[h1,e,f,ir i0];congr 2
 ·rw[ir (by simp[d]),U<|JC g.1 h.1 iT iT iT];by_cases hc:A a.2<A b.2
  ·have hd:X (yB<|A b.2-A a.2)<=100000:=xap (JF<|xfh _ _)<|xap (xf h.1) m;rw[iq hc];simp only;rw[ir i0,U (JC h.1 g.1 iT iT iT),zB];simp only;rw[U<|xc (z:=(b.1,yB<|A b.2-A a.2)) (zp _) (by show(yB _).length<=_;omega) j,BR];rcases xZ a with⟨h1,e⟩|⟨h1,e⟩<;>rcases xZ b with⟨c,f⟩|⟨c,f⟩
   ·rw[h1,c]at d;exact wS O d
   ·rw[c,e,f,ir i0];congr 2;omega
   ·rw[c,e,f,iq O];congr 2;omega
   ·rw[h1,c]at d;exact wS O d
  ·have hd:X (yB<|A a.2-A b.2)<=100000:=xap (JF<|xfh _ _)<|xap (xf g.1) l;rw[ir hc];simp only;rw[iq wR,U<|xc (z:=(a.1,yB<|A a.2-A b.2)) (zp _) (by show(yB _).length<=_;omega) j,BR];rcases xZ a with⟨h1,e⟩|⟨h1,e⟩<;>rcases xZ b with⟨c,f⟩|⟨c,f⟩
   ·rw[h1,c]at d;exact wS O d
   ·rw[h1,e,f,iq O];congr 2;omega
   ·rw[h1,e,f,ir i0];congr 2;omega
   ·rw[h1,c]at d;exact wS O d
def Qi{z:M}(h:gV z)(d:3000000<=fu):Zq fu z=Z (jH (zv z) 0):=by
 unfold Zq;have:=h.2;rw[U<|xc h.1 iT d];by_cases h1:zv z<0
 ·rw[iq<|(QH _).2 h1,qG h1]
 ·rw[ir<|λe=>h1<|(QH _).1 e];by_cases c:zv z=0
  ·rw[ir<|λe=>Bw.1 e c,kP c]
  ·rw[iq<|Bw.2 c,vM iT]
def b8{a b:M}(c:gV a)(d:gV b)(e:3000000<=fu):YB fu a b=Z (yz<|zv a*zv b):=by
 have:=c.2;have:=d.2;exact Cu c.1 d.1 iT iT iT
end
section
variable{b v1 v0 u w q r fu y s lo:wr}
theorem zhL(a:q*v1+r=u)(h:q*v0<=b*r+w):q*(v1*b+v0)<=u*b+w:=by grind [xbn,xaT,xbf,xaS]
theorem zcZ(a:q*v1+r=u)(h:b*r+w<q*v0):u*b+w<q*(v1*b+v0):=by grind [xbn,xaT,xbf,xaS]
def rn(hv:0<v1*b+v0)(a:q*v1+r=u)(hc:(u*b+w)/(v1*b+v0)<=q:=by lia)(h:q*v0<=b*r+w:=by lia):q=(u*b+w)/(v1*b+v0):=
 xcP ((xcy hv).2<|zhL a h) hc
theorem zdK(hv:0<v1*b+v0)(a:q*v1+r=u)(h:b*r+w<q*v0):(u*b+w)/(v1*b+v0)<=q-1/\0<q/\(q-1)*v1+(r+v1)=u:=by
 have h0:0<q:=by
  obtain h0|h0:=xcx q
  ·simp_all
  ·exact h0
 have h1:=(xbb hv).2<|zcZ a h;obtain⟨p,rfl⟩:∃p,q=p+1:=⟨q-1,W⟩;grind
theorem SJ(a:u<v1*b+v0)(c:v0<b)(hc:q*v1+r=u)(d:b<=r):q<b:=by
 refine xdr λh=> ?_;have:b*v1<=q*v1:=xak _ h;grind
def R4(a:q<b)(c:v0<b)(d:b<=r):q*v0<=b*r+w:=by
 have h1:=xck (xdK a)<|xdK c;have e:b*b<=b*r:=xaC _ d;lia
theorem bj(a:u<v1*b+v0)(c:w<b:=by lia):(u*b+w)/(v1*b+v0)<b:=by
 have hv:0<v1*b+v0:=W
 rw[xbb hv];have:(u+1)*b<=(v1*b+v0)*b:=xak _ a;grind
def DX{β:Type}(mk:K->K->β)(ms:β->K)(hc:∀q r,ms (mk q r)=2-r/2147483648){f:(β->V K)->β->V K}(h1:2147483648<=v1)(z:v1<4294967296)(h0:v0<4294967296)(g:u<v1*4294967296+v0)(l:w<4294967296)(B:10<fu)(m:∀(q r:K) (L:β->V K),q<18446744073709551616->r<4294967296->q*v0<18446744073709551616\/4294967296<=q->
 f L (mk q r)=if 4294967296<=q then(if 4294967296<=r+v1 then Z (q-1)else L (mk (q-1)<|r+v1))else if 4294967296*r+w<q*v0 then(if 4294967296<=r+v1 then Z (q-1)else L (mk (q-1)<|r+v1))else Z q):
 zg f fu (mk (u/v1)<|u%v1)=Z ((u*4294967296+w)/(v1*4294967296+v0)):=by
 have hv:0<v1*4294967296+v0:=W
 have C:=bj g l;have hi:u/v1<18446744073709551616:=by
  rw[xbb W];lia
 refine zA (λs:β=>∃q r,s=mk q r/\q<18446744073709551616/\r<4294967296/\q*v1+r=u/\(u*4294967296+w)/(v1*4294967296+v0)<=q) ms _ ?_ _ _ ⟨_,_,O,hi,?_,?_,?_⟩<|by rw[hc];lia
 ·rintro s L ⟨q,r,rfl,n,o,i,t⟩ j;have v:q*v0<18446744073709551616\/4294967296<=q:=by
   obtain h|h:=xca q 4294967296
   ·left;exact xcm (a:=q) (b:=v0) (c:=4294967296) (d:=4294967296) h h0
   ·exact .inr h
  rw[m q r L n o v];by_cases k:4294967296<=q
  ·rw[iq k];have hd:(q-1)*v1+(r+v1)=u:=by
    obtain⟨p,rfl⟩:∃p,q=p+1:=⟨q-1,W⟩;rw[xbf]at i;simp only[Nat.add_sub_cancel];lia
   by_cases e:4294967296<=r+v1
   ·rw[iq e,<-rn hv hd W<|R4 (SJ g h0 hd e) h0 e]
   ·rw[ir e];exact j _ ⟨_,_,O,W,W,hd,W⟩<|by rw[hc,hc];lia
  ·rw[ir k];by_cases ht:4294967296*r+w<q*v0
   ·have⟨d1,d2,d3⟩:=zdK hv i ht;rw[iq ht];by_cases e:4294967296<=r+v1
    ·rw[iq e,<-rn hv d3 d1<|R4 (SJ g h0 d3 e) h0 e]
    ·rw[ir e];exact j _ ⟨_,_,O,W,W,d3,d1⟩<|by rw[hc,hc];lia
   ·rw[ir ht,<-rn hv i t]
 ·have:=xaU u (W:0<v1);lia
 ·rw[xaS];exact xbu u v1
 ·rw[xcy W];have x:(u*4294967296+w)/(v1*4294967296+v0)*(v1*4294967296+v0)<=u*4294967296+w:=xcQ _ _;generalize(u*4294967296+w)/(v1*4294967296+v0)=Q at*
  rw[xbn,<-xaT]at x;generalize Q*v1=A at*
  lia
theorem Iz{x:K}(h:y<2^s):x*2^s|||y=x*2^s+y:=by grind [xaS,Nat.two_pow_add_eq_or_of_lt]
def NA(h0:0<y)(h:y<18446744073709551616):bl y<=64/\9223372036854775808<=y*2^(64-bl y)/\y*2^(64-bl y)<18446744073709551616:=by
 have h1:=UI (k:=64) (by simpa using h);have a:=CQ y;refine⟨h1,?_,?_⟩
 ·have hp:1<=bl y:=by rw[cB h0];lia
  have c:2^(bl y-1)<=y:=by
   refine xbz λhc=> ?_;have:=UI hc;lia
  have e:9223372036854775808=2^(bl y-1)*2^(64-bl y):=by rw[<-xbo,(W:bl y-1+(64-bl y)=63)]
  rw[e];exact xak _ c
 ·have e:18446744073709551616=2^bl y*2^(64-bl y):=by rw[<-xbo,(W:bl y+(64-bl y)=64)]
  rw[e];exact xbI a<|xaV i0
def NP(a:lo<18446744073709551616)(c:s<=64):lo*2^s=lo/2^(64-s)*18446744073709551616+lo*2^s%18446744073709551616/\lo/2^(64-s)<2^s:=by
 have e:18446744073709551616=2^(64-s)*2^s:=by rw[<-xbo,(W:64-s+s=64)]
 have hp:0<2^s:=xaV i0;have d:lo*2^s/18446744073709551616=lo/2^(64-s):=by rw[e,xfL _ _ hp]
 refine⟨W,?_⟩;rw[xbb (xaV i0),xaS,<-e];exact a
theorem lL{x w1 w0:K}(a:0<y)(c:0<b)(d:w0<b):((x*b+w1)*b+w0)/y=(x*b+w1)/y*b+((x*b+w1)%y*b+w0)/y/\((x*b+w1)*b+w0)%y=((x*b+w1)%y*b+w0)%y:=by
 generalize x*b+w1=X;have h:=xbu X y;have e:X*b+w0=X%y*b+w0+y*(X/y*b):=by grind
 rw[e];constructor
 ·rw[xcw _ _ a];lia
 ·simp_all
def znR{a:K}(c:a<4294967296)(d:b<4294967296):(a*4294967296%18446744073709551616+b)%18446744073709551616=a*4294967296+b:=W
theorem j9{x:K}(a:x<18446744073709551616):xI fu x=Z ((64-bl x:K):J):=by
 unfold xI;have h:=UI (k:=64) (by simpa using a);rw[U<|qQ a,zb];grind
def VH{hi:K}(hn:lo<18446744073709551616)(F:y<18446744073709551616)(P:hi<y)(G:10<fu):
 qS fu hi lo y=Z ((hi*18446744073709551616+lo)/y,(hi*18446744073709551616+lo)%y):=by
 unfold qS;rw[zB,zB];by_cases h0:hi=0
 ·subst h0;rw[iq O,yW,S,yW,S,xcp,xaK]
 ·rw[zB,U<|j9 F];have⟨n1,n2,l⟩:=NA (y:=y) W F;have⟨s,Q⟩:∃s,s=64-bl y:=⟨_,O⟩;rw[<-Q]at n2 l⊢;have R:s<=64:=W
  have T:Cr (s:J)=s:=by have:=BY (x:=(s:J)) W W;lia
  have em:min (s:J).toNat 64=s:=W
  have e8:(64+18446744073709551616-s)%18446744073709551616=64-s:=W
  have n:min (((64-s:K):K):J).toNat 64=64-s:=W
  have⟨Y,c⟩:∃Y,Y=y*2^s:=⟨_,O⟩;rw[<-c]at n2 l;have⟨w1,w2⟩:=NP hn R;have hp:0<2^s:=xaV i0;have hz:hi*2^s+2^s<=Y:=by
   have:(hi+1)*2^s<=y*2^s:=xak _ P;rw[xbf,xcz]at this;rw[c];exact this
  simp only[nm,T,em,e8,n,Eo,CV];rw[<-c,xaq l,xaq (W:hi*2^s<18446744073709551616),Iz w2];have⟨u,o⟩:∃u,u=hi*2^s+lo/2^(64-s):=⟨_,O⟩;have⟨t,ht⟩:∃t,t=lo*2^s%18446744073709551616:=⟨_,O⟩;have hv:t<18446744073709551616:=by rw[ht];exact xaU _ i0
  rw[<-o,<-ht];have hd:u<Y:=W
  have ho:(hi*18446744073709551616+lo)*2^s=u*18446744073709551616+t:=by
   rw[xbf,w1,o,<-ht,xbf,Nat.mul_right_comm];lia
  have e:Y=Y/4294967296*4294967296+Y%4294967296:=W
  have H:2147483648<=Y/4294967296:=W
  have M:Y/4294967296<4294967296:=W
  have a0:Y%4294967296<4294967296:=W
  have step:∀{u w:K},u<Y->w<4294967296->(u*4294967296+w)/(Y/4294967296*4294967296+Y%4294967296)=(u*4294967296+w)/Y:=by intro u w _ _;rw[<-e]
  have ew:Y/2^32=Y/4294967296:=O;have et:t/2^32=t/4294967296:=O;rw[ew,et,yW];have f:∀{u:K},u<Y->(u+18446744073709551616-u/(Y/4294967296)*(Y/4294967296)%18446744073709551616)%18446744073709551616=u%(Y/4294967296):=by
   intro u o;have h1:=xbu u<|Y/4294967296;rw[xaS]at h1;have p:u/(Y/4294967296)*(Y/4294967296)<=u:=W
   rw[xaq (W:u/(Y/4294967296)*(Y/4294967296)<18446744073709551616)];lia
  have body:∀{q r w:K},q<18446744073709551616->r<4294967296->w<4294967296->(q*(Y%4294967296)<18446744073709551616\/4294967296<=q)->∀(A B C:V K),(4294967296<=r+Y/4294967296->A=Z (q-1))->(¬4294967296<=r+Y/4294967296->A=B)->C=Z q->
   (if((4294967296:K):J)<=(q:J)then A else if(((4294967296*r%18446744073709551616+w)%18446744073709551616:K):J)<((q*(Y%4294967296)%18446744073709551616:K):J)then A else C)=
   if 4294967296<=q then(if 4294967296<=r+Y/4294967296 then Z (q-1)else B)else if 4294967296*r+w<q*(Y%4294967296)then(if 4294967296<=r+Y/4294967296 then Z (q-1)else B)else Z q:=by
   intro q r w d k hw g A B C h1 p h3;have hA:A=if 4294967296<=r+Y/4294967296 then Z (q-1)else B:=by
    split
    ·next h=>exact h1 h
    ·next h=>exact p h
   rw[<-hA,h3];by_cases v:4294967296<=q
   ·rw[zX,iq v]
   ·have e3:(q*(Y%4294967296))%18446744073709551616=q*(Y%4294967296):=xaq<|g.resolve_right v;have e4:(4294967296*r%18446744073709551616+w)%18446744073709551616=4294967296*r+w:=W
    rw[zB,ir v,e3,e4];by_cases N:4294967296*r+w<q*(Y%4294967296)
    ·rw[zX,iq N]
    ·rw[zB,ir N]
  have L0:zg (jz fu (Y/4294967296) (Y%4294967296)<|t/4294967296) fu (u/(Y/4294967296),u%(Y/4294967296))=Z ((u*4294967296+t/4294967296)/Y):=by
   rw[<-step hd (by lia:t/4294967296<4294967296)];refine DX (λq r=>(q,r)) (λs=>2-s.2/2147483648) (λ_ _=>O) (w:=t/4294967296) H M a0 (by rw[<-e];exact hd) W G ?_;intro q r L d k g;have e1:(r+Y/4294967296)%18446744073709551616=r+Y/4294967296:=W
   by_cases hc:q=0
   ·subst hc;unfold jz;simp only[nm,xcp,xgf];rw[zB,zB,zB,zB]
   have z:(q+18446744073709551616-1)%18446744073709551616=q-1:=W
   refine Eq.trans ?_<|body d k W g (if 4294967296<=r+Y/4294967296 then Z (q-1)else L (q-1,r+Y/4294967296)) _ _ (λh=>iq h) (λh=>ir h) O;unfold jz;simp only[nm,e1,z];have D:∀(X:V K),(if((4294967296:K):J)<=((r+Y/4294967296:K):J)then Z (q-1)else X)=if 4294967296<=r+Y/4294967296 then Z (q-1)else X:=by
    intro X;by_cases h:4294967296<=r+Y/4294967296
    ·rw[zX,iq h]
    ·rw[zB,ir h]
   rw[D]
  have i:∀{x q:K},x/Y=q->∀{m:K},m=x%18446744073709551616->(m+18446744073709551616-q*Y%18446744073709551616)%18446744073709551616=x%Y:=by
   intro x q d m hm;have h1:=xbu x Y;rw[d,xaS]at h1;have p:=xaU x (W:0<Y);lia
  rw[f hd,U L0,i O (x:=u*4294967296+t/4294967296) W];have⟨a,E⟩:∃a,a=(u*4294967296+t/4294967296)%Y:=⟨_,O⟩;have j:a<Y:=by rw[E];exact xaU _ W
  rw[<-E,yW,f j];have L1:zg (jB fu (Y/4294967296) (Y%4294967296)<|t%4294967296) fu (a%(Y/4294967296),a/(Y/4294967296))=Z ((a*4294967296+t%4294967296)/Y):=by
   rw[<-step j (by lia:t%4294967296<4294967296)];refine DX (λq r=>(r,q)) (λs=>2-s.1/2147483648) (λ_ _=>O) (w:=t%4294967296) H M a0 (by rw[<-e];exact j) W G ?_;intro q r L d k g;have e1:(r+Y/4294967296)%18446744073709551616=r+Y/4294967296:=W
   by_cases hc:q=0
   ·subst hc;unfold jB;simp only[nm,xcp,xgf];rw[zB,zB,zB,zB]
   have z:(q+18446744073709551616-1)%18446744073709551616=q-1:=W
   refine Eq.trans ?_<|body d k W g (if 4294967296<=r+Y/4294967296 then Z (q-1)else L (r+Y/4294967296,q-1)) _ _ (λh=>iq h) (λh=>ir h) O;unfold jB;simp only[nm,e1,z];have D:∀(X:V K),(if((4294967296:K):J)<=((r+Y/4294967296:K):J)then Z (q-1)else X)=if 4294967296<=r+Y/4294967296 then Z (q-1)else X:=by
    intro X;by_cases h:4294967296<=r+Y/4294967296
    ·rw[zX,iq h]
    ·rw[zB,ir h]
   rw[D]
  rw[U L1,i O (x:=a*4294967296+t%4294967296) W];have hl:=bj (b:=4294967296) (v1:=Y/4294967296) (v0:=Y%4294967296) (u:=u) (w:=t/4294967296) (by rw[<-e];exact hd);rw[step hd W]at hl;have hc:=bj (b:=4294967296) (v1:=Y/4294967296) (v0:=Y%4294967296) (u:=a) (w:=t%4294967296) (by rw[<-e];exact j);rw[step j W]at hc;have⟨k1,k2⟩:=lL (x:=u) (b:=4294967296) (y:=Y) (w1:=t/4294967296) (w0:=t%4294967296) W i0 W;rw[<-E]at k1 k2;have eU:(u*4294967296+t/4294967296)*4294967296+t%4294967296=(hi*18446744073709551616+lo)*2^s:=by rw[ho];lia
  rw[eU,c,xfL _ _ hp,<-c]at k1;rw[eU,c,xeh,<-c]at k2;rw[k1,<-k2,Nat.mul_div_cancel _ hp];rw[znR hl hc]
end
section
variable{fu s:wr}{a:xS wr}
def zaM{m x:K}{l:N K}:(xaa (m+1) 0++l).set m x=xaa m 0++(x::l):=by
 rw[List.replicate_succ'];simp_all
def GW(k n:K):va (k+1) n=n%18446744073709551616::va k (n/18446744073709551616):=O
def ou{q r:K}(h:r<18446744073709551616):(q*18446744073709551616+r)%18446744073709551616=r/\(q*18446744073709551616+r)/18446744073709551616=q:=W
theorem rF(A m:K):A/18446744073709551616^m=A/18446744073709551616^(m+1)*18446744073709551616+A/18446744073709551616^m%18446744073709551616:=by grind [Jl]
def Et{x:K}(c:zm a)(i:x<18446744073709551616)(h0:0<x)(hl:X a<=1000000)(o:2000000<fu):VJ fu a x=Z (yB<|A a/x,A a%x):=by
 unfold VJ;rw[yF,yW,S,zb];have f:=vv c;have d:zg (Ui fu a x) fu (0,(X a:J)-1,xaa (X a) 0)=Z (A a%x,va (X a)<|A a/x):=by
  refine zA (λs:K×J×N K=>∃m:K,m<=X a/\s=(A a/18446744073709551616^m%x,(m:J)-1,xaa m 0++va (X a-m) (A a/18446744073709551616^m/x))) (λs=>(s.2.1+1).toNat) _ ?_ _ _ ⟨X a,IR _,?_⟩ (by show((X a:J)-1+1).toNat<fu;lia)
  ·rintro s L ⟨m,p,rfl⟩ j;unfold Ui;simp only
   cases m with
   |zero=>
    simp_all
   |succ m=>
    have e:((m+1:K):J)-1=(m:J):=W
    have hc:=c.getD m;have hd:A a/18446744073709551616^(m+1)%x<x:=xaU _ h0;have k:a.getD m 0=A a/18446744073709551616^m%18446744073709551616:=Kc c m;have g:=rF (A a) m;rw[<-k]at g;rw[zX,e,z8,S,U<|VH hc i hd W];have⟨k1,k2⟩:=lL (x:=0) (b:=18446744073709551616) (y:=x) (w1:=A a/18446744073709551616^(m+1)) (w0:=a.getD m 0) h0 i0 hc;rw[xcp,xaK,<-g]at k1 k2;rw[zo (by simp;lia),S,zb,zaM,<-k2];refine j _ ⟨m,W,?_⟩ (by show((m:J)-1+1).toNat<(((m+1:K):J)-1+1).toNat;lia);have h:(A a/18446744073709551616^(m+1)%x*18446744073709551616+a.getD m 0)/x<18446744073709551616:=by
     rw[xbb h0];have:(A a/18446744073709551616^(m+1)%x+1)*18446744073709551616<=x*18446744073709551616:=xak _ hd;rw[xaS 18446744073709551616 x];lia
    have l:X a-m=(X a-(m+1))+1:=W
    rw[k1,l,GW];congr 3;rw[(ou h).1,(ou h).2]
  ·rw[xbi f,Nat.zero_div,xgf,xcD];simp[va]
 rw[U d];have n:A a/x<18446744073709551616^X a:=xaL (xcM _ _) f;simp only;rw[U (xo (wq _ _) (by rw[zY];lia)<|by rw[zY];lia),kv,xaq n]
def FY(b:s<=64):(18446744073709551616:K)=2^(64-s)*2^s:=by rw[<-xbo,(W:64-s+s=64)]
theorem Rq{y c:K}(f:y<18446744073709551616)(d:s<64)(hc:c<2^s):y*2^s%18446744073709551616|||c=(y*2^s+c)%18446744073709551616/\y/2/2^(63-s)=(y*2^s+c)/18446744073709551616/\(y*2^s+c)/18446744073709551616<2^s:=by
 have⟨w1,h⟩:=NP f<|xdK d;have hp:0<2^s:=xaV i0;have e:=FY<|xdK d;have b:y*2^s%18446744073709551616=y%2^(64-s)*2^s:=by rw[e,xeh]
 have h1:y%2^(64-s)*2^s+2^s<=18446744073709551616:=by
  rw[e];have:=xak (2^s)<|xaU y<|xaV (n:=64-s) (i0:0<2);grind
 have g:y/2/2^(63-s)=y/2^(64-s):=by rw[xaF,(iP:64-s=63-s+1),xba,xaS 2]
 refine⟨?_,?_,?_⟩
 ·rw[b,Iz hc];rw[b]at w1;generalize y%2^(64-s)*2^s=A at*
  generalize y*2^s=i at*
  generalize y/2^(64-s)=W at*
  lia
 ·rw[g];rw[b]at w1;generalize y%2^(64-s)*2^s=A at*
  generalize y*2^s=i at*
  generalize y/2^(64-s)=W at*
  lia
 ·rw[b]at w1;generalize y%2^(64-s)*2^s=A at*
  generalize y*2^s=i at*
  generalize y/2^(64-s)=W at*
  lia
def lQ{a:N K}{s:K}(b:zm a)(c:s<64):∀k,(vb (aV a<|2^s) k).2<2^s
 |0=>xaV i0
 |k+1=>(Rq (b.getD k) c<|lQ b c k).2.2
def FT:(2:K)^64=18446744073709551616:=i0
def QZ{n:K}(b:zm a)(hl:X a<=1000000:=by lia)(hn:n<=262144:=by lia)(j:2000000<fu:=by lia):Wc fu a (n:J)=Z (yB<|A a*2^n,0):=by
 unfold Wc;have⟨s,l⟩:∃s,s=n%64:=⟨_,O⟩;have hd:s<64:=W
 rw[zB,zB,U<|jG (step:=aV a<|2^s) W W ?_]
 ·have m:=lQ b hd (X a);have d:2^s<18446744073709551616:=by rw[<-FT];exact xfT i0 hd
  have e1:xdE (n:J) 64=((n/64:K):J):=O;simp only;rw[w8 (by have:=wy (aV a<|2^s) (X a);simp[this];lia),S,w8 i0,e1,zb,PA W];rw[U (Jt W<|by rw[zY];lia),U (xo ((zm.replicate _).append<|wq _ _) (by simp[zY];lia)<|by simp[zY];lia),C4,kv,xaq<|C5 b d];congr 3;rw[<-FT,<-xch,xaS<|2^_,xaT,<-xbo];congr 2;lia
 ·intro k c;have hc:=lQ b hd k;have⟨l1,e,o⟩:=Rq (b.getD k) hd hc;unfold de;have e1:xcv (n:J) 64=((n%64:K):J):=O;have f:min (((1:K):J)).toNat 64=1:=i0
  have g:min ((n%64:K):J).toNat 64=s:=W
  have h:(63:J)-((n%64:K):J)=((63-s:K):J):=W
  have i:min ((63-s:K):J).toNat 64=63-s:=W
  rw[zo c,S,w8 i0,S,e1,yW,S,g,S,zo c,S,S,f,w8 i0,S,h,zb,yW,S,i,l1];rw[show(2:K)^1=2 from O,e];rfl
def GP{step:K->K->K×K}{X:K}(h:∀k,step k 0=(X/18446744073709551616^k%18446744073709551616,0)):∀n,vb step n=(va n X,0)
 |0=>rfl
 |n+1=>by
  have b:=GP h n;unfold vb;rw[b,h,Uv]
def zf9{A k:K}(f:s<64):A/18446744073709551616^k%18446744073709551616/2^s|||A/18446744073709551616^(k+1)%18446744073709551616*2%18446744073709551616*2^(63-s)%18446744073709551616=A/2^s/18446744073709551616^k%18446744073709551616:=by
 have e:=FY<|xdK f;have hp:0<2^s:=xaV i0;have j:0<2^(64-s):=xaV i0;have h1:=rF A k;have e0:A/18446744073709551616^(k+1)=A/18446744073709551616^k/18446744073709551616:=by rw[xba,xaF]
 rw[xaF,xaS<|2^s,<-xaF];rw[e0]at h1⊢;generalize A/18446744073709551616^k=X at*
 have e1:X/18446744073709551616%18446744073709551616*2%18446744073709551616*2^(63-s)%18446744073709551616=X/18446744073709551616%2^s*2^(64-s):=by
  rw[Nat.mod_mul_mod,xaT,<-xdV,(W:(63-s).succ=64-s)];rw[Nat.mod_mul_mod];generalize X/18446744073709551616=V;conv=>lhs;rw[e,xaS (2^(64-s))<|2^s]
  rw[xeh]
 have g:X%18446744073709551616/2^s<2^(64-s):=by
  rw[xbb hp,<-e];exact xaU _ i0
 rw[e1,Nat.or_comm,Iz g];have b:X/2^s=X/18446744073709551616*2^(64-s)+X%18446744073709551616/2^s:=by
  have c:=xbu X 18446744073709551616;have h:X=X%18446744073709551616+2^s*(X/18446744073709551616*2^(64-s)):=by
   have:2^s*(X/18446744073709551616*2^(64-s))=18446744073709551616*(X/18446744073709551616):=by rw[e,xaS<|X/_,<-xaT,xaS<|2^s]
   lia
  conv=>lhs;rw[h]
  rw[xcw _ _ hp];lia
 rw[b];have d:X/18446744073709551616*2^(64-s)=X/18446744073709551616%2^s*2^(64-s)+18446744073709551616*(X/18446744073709551616/2^s):=by
  have c:=xbu (X/18446744073709551616)<|2^s;conv=>lhs;rw[<-c]
  rw[xbf,e,xaS (2^(64-s))<|2^s,xaT,xaT,xaS (2^(64-s))<|_/_];lia
 have l:X/18446744073709551616%2^s*2^(64-s)+2^(64-s)<=18446744073709551616:=by
  generalize X/18446744073709551616=V;rw[e,xaS (2^(64-s))<|2^s];have:=xak (2^(64-s))<|xaU V hp;rw[xds]at this;exact this
 have i:X/18446744073709551616%2^s*2^(64-s)+X%18446744073709551616/2^s<18446744073709551616:=by
  clear d b e1 e0 h1;generalize X/18446744073709551616%2^s*2^(64-s)=m at*
  generalize X%18446744073709551616/2^s=V at*
  lia
 rw[d,Nat.add_right_comm,xcc,xaq i]
theorem nZ{n:K}(b:zm a)(hl:lM a<=1000000)(hn:n<=1000000000)(q:2000000<fu):Uw fu a (n:J)=Z (yB<|A a/2^n):=by
 unfold Uw;have e0:max (n:J) 0=(n:J):=W
 have e1:xdE (n:J) 64=((n/64:K):J):=O;have e:xcv (n:J) 64=((n%64:K):J):=O;have f:=vv b;have hc:2^n=18446744073709551616^(n/64)*2^(n%64):=by
  rw[<-FT,<-xch,<-xbo];grind
 rw[S,e0,w8 i0,e1,zb];by_cases h:lM a<=n/64
 ·rw[zX];have:A a/2^n=0:=by rw[hc,<-xaF,xbi<|xah f<|xal i0 h,Nat.zero_div]
  rw[this];rfl
 ·rw[zB,w8 i0,zb,yF,yW,S,w8 i0,S,e];have hd:=b.drop<|n/64;have hv:A (a.drop<|n/64)=A a/18446744073709551616^(n/64):=Ml b _;have⟨D,c⟩:∃D,D=a.drop (n/64):=⟨_,O⟩;rw[<-c]at hd hv⊢;have r:lM D<=1000000:=by rw[c,xbX];lia
  have⟨s,d⟩:∃s,s=n%64:=⟨_,O⟩;have g:s<64:=W
  have jo:=GP (step:=λk _=>(A D/2^s/18446744073709551616^k%18446744073709551616,0)) (X:=A D/2^s)<|λ_=>O;rw[<-d,U<|jG (step:=λk _=>(A D/2^s/18446744073709551616^k%18446744073709551616,0)) W W ?_]
  ·rw[jo];simp only;rw[U (xo (wq _ _) (by rw[zY];lia)<|by rw[zY];lia),kv,xaq<|xaL (xcM _ _)<|vv hd,hv,hc,<-xaF,d]
  ·intro k i;rw[jo];unfold eV;have j:min (((1:K):J)).toNat 64=1:=i0
   have l:min (s:J).toNat 64=s:=W
   have m:(63:J)-(s:J)=((63-s:K):J):=W
   have o:min ((63-s:K):J).toNat 64=63-s:=W
   have p:(k:J)+1=((k+1:K):J):=W
   rw[zo i,S,yW,S,l,p,zb,U (Vk D W),S,j,m,zb,yW,S,o,S,Kc hd,Kc hd,show(2:K)^1=2 from O,zf9 g]
end
def Ti{fu u w v1 v0:K}(h1:9223372036854775808<=v1)(i:v1<18446744073709551616)(h0:v0<18446744073709551616)(e:u<v1*18446744073709551616+v0)(j:w<18446744073709551616)(b:u/v1<18446744073709551616)(k:10<fu):
 zg (K1 fu w v1 v0) fu (u/v1,u%v1)=Z ((u*18446744073709551616+w)/(v1*18446744073709551616+v0)):=by
 have hv:0<v1*18446744073709551616+v0:=W
 refine zA (λs:K×K=>∃q r,s=(q,r)/\q<18446744073709551616/\r<18446744073709551616/\q*v1+r=u/\(u*18446744073709551616+w)/(v1*18446744073709551616+v0)<=q) (λs=>2-s.2/9223372036854775808) _ ?_ _ _ ⟨_,_,O,b,?_,?_,?_⟩ (by show 2-u%v1/9223372036854775808<fu;lia)
 ·rintro s L ⟨q,r,rfl,b,l,c,hc⟩ f;have m:q*v0<18446744073709551616*18446744073709551616:=xcm b h0;have a:∀(hd:18446744073709551616*r+w<q*v0),(if((0:K):J)<(((r+v1+0)/18446744073709551616:K):J)then Z ((q+18446744073709551616-1)%18446744073709551616)else L ((q+18446744073709551616-1)%18446744073709551616,(r+v1+0)%18446744073709551616))=Z ((u*18446744073709551616+w)/(v1*18446744073709551616+v0)):=by
   intro hd;have⟨d1,d2,d3⟩:=zdK hv c hd;have g:(q+18446744073709551616-1)%18446744073709551616=q-1:=W
   rw[g];by_cases d:18446744073709551616<=r+v1
   ·rw[zX,<-rn hv d3 d1<|R4 (SJ e h0 d3 d) h0 d]
   ·rw[zB];exact f _ ⟨_,_,O,W,W,by rw[(W:(r+v1+0)%18446744073709551616=r+v1)];exact d3,d1⟩ (by show 2-(r+v1+0)%18446744073709551616/9223372036854775808<2-r/9223372036854775808;lia)
  unfold K1;simp only;rw[U<|VI b h0];simp only[B];by_cases c1:q*v0/18446744073709551616<r
  ·rw[zX,<-rn hv c hc]
  ·rw[zB];by_cases c2:q*v0/18446744073709551616=r
   ·rw[zX];by_cases n:q*v0%18446744073709551616<=w
    ·rw[zX,<-rn hv c hc]
    ·rw[zB,yW];exact a W
   ·rw[zB,yW];exact a W
 ·have:=xaU u (W:0<v1);lia
 ·rw[xaS];exact xbu u v1
 ·rw[xcy W];have h:(u*18446744073709551616+w)/(v1*18446744073709551616+v0)*(v1*18446744073709551616+v0)<=u*18446744073709551616+w:=xcQ _ _;generalize(u*18446744073709551616+w)/(v1*18446744073709551616+v0)=Q at*
  rw[xbn,<-xaT]at h;generalize Q*v1=A at*
  lia
def CF{fu a b c v1 v0:K}(h1:9223372036854775808<=v1)(d:v1<18446744073709551616)(h0:v0<18446744073709551616)(b1:b<18446744073709551616)(b0:c<18446744073709551616)(e:10<fu):
 Kt fu a b c v1 v0=Z (if v1<=a then 18446744073709551615 else((a*18446744073709551616+b)*18446744073709551616+c)/(v1*18446744073709551616+v0)):=by
 unfold Kt;by_cases h:v1<=a
 ·simp_all
 ·have f:(a*18446744073709551616+b)/v1<18446744073709551616:=by
   rw[xbb W];lia
  rw[zB,ir h,U<|VH b1 d W e];simp only;rw[U<|Ti h1 d h0 ?_ b0 f e];lia
def ziB{u v d q:K}(hd:0<d)(hv:0<v/d)(h:q*v<=u):q<=u/d/(v/d):=by
 refine(xcy hv).2<|(xcy hd).2 ?_;refine xap ?_ h;rw[xaT];exact xaC _<|xcQ v d
def zjg{u v d x B:K}(hd:0<d)(a:x*(v/d)<=u/d)(b:x<=B)(hv:B*d<=v):x*v<=u+v:=by
 have h1:x*v<=x*(v/d*d+d):=xaC _ (by have h:=xbu v d;have:=xaU v hd;rw[xaS d]at h;lia);have c:x*(v/d*d+d)=x*(v/d)*d+x*d:=by rw[xbn,xaT]
 have e:=xap (xak _ a)<|xcQ u d;have f:x*d<=B*d:=xak _ b;lia
def SQ{U V D:K}(b:0<D)(d:9223372036854775808*(18446744073709551616*D)<=V)(l:V<18446744073709551616*(18446744073709551616*D))(e:U<V*18446744073709551616){x:K}
 (a:x=if V/D/18446744073709551616<=U/D/18446744073709551616/18446744073709551616 then 18446744073709551615 else U/D/(V/D)):U/V<=x/\x<=U/V+1/\x<18446744073709551616:=by
 have hc:0<V:=W
 have m:U/V<18446744073709551616:=by rw[xbb hc,xaS];exact e
 have n:9223372036854775808*18446744073709551616<=V/D:=by rw[xcy b,xaT];exact d
 have up:∀{x:K},x*V<=U+V->x<=U/V+1:=λ{x} h=>by
  have:x<=(U+V)/V:=(xcy hc).2 h;simp_all
 by_cases h:V/D/18446744073709551616<=U/D/18446744073709551616/18446744073709551616
 ·rw[iq h]at a;subst a;refine⟨W,up ?_,i0⟩;have e1:V/D/18446744073709551616=V/(D*18446744073709551616):=xaF ..;have f:U/D/18446744073709551616/18446744073709551616=U/(D*18446744073709551616*18446744073709551616):=by rw[xaF,xaF,<-xaT]
  rw[e1,f]at h;have g:0<D*18446744073709551616:=W
  have k1:=xcQ U<|D*18446744073709551616*18446744073709551616;have k2:V<(V/(D*18446744073709551616)+1)*(D*18446744073709551616):=by
   have h1:=xbu V<|D*18446744073709551616;have o:=xaU V g;rw[xbf,xcz,xaS];lia
  have i:V/(D*18446744073709551616)*(D*18446744073709551616*18446744073709551616)<=U:=xap (xak _ h) k1;rw[<-xaT]at i;have j:18446744073709551615*V<=18446744073709551615*((V/(D*18446744073709551616)+1)*(D*18446744073709551616)):=xaC _<|xdK k2;rw[xbf,xcz]at j;generalize V/(D*18446744073709551616)*(D*18446744073709551616)=A at*
  lia
 ·rw[ir h]at a;have hd:x<=18446744073709551616:=by
   rw[a];have c:U/D/18446744073709551616/18446744073709551616<V/D/18446744073709551616:=xdr h;have h1:U/D<(V/D)*18446744073709551616+18446744073709551616*18446744073709551616:=W
   have:U/D<=18446744073709551616*(V/D)+(V/D):=W
   refine Nat.le_of_lt_succ<|(xbb W).2 ?_;rw[xds];lia
  have k:U/V<=x:=by
   rw[a];exact ziB b W<|xcQ U V
  have c:x<18446744073709551616:=by
   rw[a,xbb W];have c:U/D/18446744073709551616/18446744073709551616<V/D/18446744073709551616:=xdr h;lia
  refine⟨k,up<|zjg b (B:=18446744073709551616) ?_ hd ?_,c⟩
  ·rw[a];exact xcQ _ _
  ·lia
section
variable{fu V k y:wr}{s:wl}{v t:xS wr}
def Fz{n P x0:K}(hv:zm v)(a:X v=n)(b:A v=V)(ht:zm t)(o:X t=n+1)(d:A t=P)(hd:0<V)(h1:P/V<=x0)(e:x0<=P/V+1)(f:x0<18446744073709551616)(hn:n<=500000)(p:2000000<fu):
 zg (dj fu v) fu (s,(n:J),x0,t)=Z (s,(n:J),P/V,t):=by
 have g:V<18446744073709551616^n:=by rw[<-b,<-a];exact vv hv
 refine zA (λq:J×J×K×N K=>∃x,q=(s,(n:J),x,t)/\P/V<=x/\x<=P/V+1/\x<18446744073709551616) (λq=>q.2.2.1-P/V) _ ?_ _ _ ⟨x0,O,h1,e,f⟩ (by show x0-P/V<fu;lia);rintro q L ⟨x,rfl,g1,r,i⟩ j;unfold dj;simp only;have l:V*x<18446744073709551616^(n+1):=by
  rw[xba]
  calc V*x<=V*18446744073709551616:=xaC _ W
   _<_:=xbI g i0
 rw[U<|bu hv i,U (ay (wq _ _) ht<|by rw[zY];lia),kv,b,a,xaq l,d];have u:=xbu P V;have hl:=xaU P hd;by_cases h:x=P/V
 ·have w:V*x<=P:=by rw[h];lia
  have m:¬(0:J)<jH ((V*x:K):J) (P:J):=by
   rcases xca (V*x) P with hh|hh
   ·rw[qG W];decide
   ·rw[kP W];decide
  rw[ir m,h]
 ·have c:x=P/V+1:=W
  have hi:P<V*x:=by rw[c,xbn,xea];lia
  have z:0<x:=by rw[c];exact Nat.succ_pos _
  have hc:(P:J)<((V*x:K):J):=Int.ofNat_lt.2 hi;rw[vM hc,iq i0,S,(W:(x+18446744073709551616-1)%18446744073709551616=x-1)];exact j _ ⟨x-1,O,W,W,W⟩ (by show x-1-P/V<x-P/V;lia)
def zfE{j:K}(ht:zm t)(hl:X t<=k)(a:k<=j):(t++xaa j 0).take k=va k (A t):=by
 refine se ((ht.append<|zm.replicate _).take _) (wq _ _) (by rw[zY,xav,xaw,xaM];lia) ?_;rw[BB<|ht.append<|zm.replicate _,ug,Q7,xcO,xbD,kv]
def zck{n e a:K}{L:N K×J×N K×N K->ww (N K×N K)}(hv:zm v)(hl:X v=n)(m:A v=V)(hS:2<=n)(hc:9223372036854775808*18446744073709551616^(n-1)<=V)(ht:zm t)(hU:X t=e+n)(hk:k<e)(hb:e+n<=500000)(hf:2000000<fu)(hT:A t=a/18446744073709551616^(k+1)%V*18446744073709551616^(k+1)+a%18446744073709551616^(k+1)):
 ∃o,zm o/\X o=e+n/\A o=a/18446744073709551616^k%V*18446744073709551616^k+a%18446744073709551616^k/\
  VF fu s v L (v,(k:J),t,xaa (k+1) 0++va (e-(k+1)) (a/18446744073709551616^(k+1)/V))=L (v,(k:J)-1,o,xaa k 0++va (e-k) (a/18446744073709551616^k/V)):=by
 have hd:V<18446744073709551616^n:=by rw[<-m,<-hl];exact vv hv
 have M:0<18446744073709551616^k:=xaV i0;have g:0<V:=by
  have:0<18446744073709551616^(n-1):=xaV i0;lia
 have⟨T,hn⟩:∃T,T=a/18446744073709551616^(k+1)%V:=⟨_,O⟩;have⟨f,u⟩:∃f,f=a/18446744073709551616^k%18446744073709551616:=⟨_,O⟩;have hp:f<18446744073709551616:=by rw[u];exact xaU _ i0
 have hJ:T<V:=by rw[hn];exact xaU _ g
 have⟨P,Q⟩:∃P,P=T*18446744073709551616+f:=⟨_,O⟩;have R:=rF a k;rw[<-u]at R;have⟨k1,k2⟩:=lL (x:=0) (b:=18446744073709551616) (y:=V) (w1:=a/18446744073709551616^(k+1)) (w0:=f) g i0 hp;rw[xcp,xaK,<-R,<-hn,<-Q]at k1 k2;have hA:a%18446744073709551616^(k+1)=f*18446744073709551616^k+a%18446744073709551616^k:=by rw[xba,Nat.mod_mul,u,xaS];lia
 have q:P<V*18446744073709551616:=by
  have:(T+1)*18446744073709551616<=V*18446744073709551616:=xak _ hJ;lia
 have Y:A t=P*18446744073709551616^k+a%18446744073709551616^k:=by rw[hT,<-hn,hA,Q,xbf,xba,xaS<|18446744073709551616^k,xaT];lia
 have hC:=xaU a M;have z:A t/18446744073709551616^k=P:=by rw[Y,xdW,Nat.add_mul_div_right _ _ M,xbi hC,xaK]
 have hK:A t%18446744073709551616^k=a%18446744073709551616^k:=by rw[Y,xdW,Nat.add_mul_mod_self_right,Nat.mod_mod]
 have⟨D,r⟩:∃D,D=18446744073709551616^(n-2):=⟨_,O⟩;have hL:0<D:=by rw[r];exact xaV i0
 have c:18446744073709551616^(n-1)=18446744073709551616*D:=by rw[r,<-xdV,(W:(n-2).succ=n-1)]
 have en:18446744073709551616^n=18446744073709551616*(18446744073709551616*D):=by rw[<-c,<-xdV,(W:(n-1).succ=n)]
 rw[c]at hc;have B:=hd;rw[en]at B;have C:∀j,t.getD (k+j) 0=P/18446744073709551616^j%18446744073709551616:=λj=>by rw[Kc ht,xbo,<-xaF,z]
 have gv:∀j,v.getD j 0=V/18446744073709551616^j%18446744073709551616:=λj=>by rw[Kc hv,m]
 have h:P/18446744073709551616^n=P/D/18446744073709551616/18446744073709551616:=by rw[en,xaF,xaF];congr 1;lia
 have i:P/18446744073709551616^(n-1)=P/D/18446744073709551616:=by rw[c,xaF,xaS D]
 have d:V/18446744073709551616^(n-1)=V/D/18446744073709551616:=by rw[c,xaF,xaS D]
 have hM:P/D/18446744073709551616/18446744073709551616<18446744073709551616:=by
  rw[<-h,xbb (xaV i0),xaS];exact xfi q<|xbI hd i0
 have hE:V/D/18446744073709551616<18446744073709551616:=by
  rw[<-d,xbb (xaV i0),c];exact B
 have hr:9223372036854775808<=V/D/18446744073709551616:=by
  rw[<-d,xcy (xaV i0),c];exact hc
 have m1:t.getD (k+n) 0=P/D/18446744073709551616/18446744073709551616:=by rw[C,h,xaq hM]
 have m2:t.getD (k+n-1) 0=P/D/18446744073709551616%18446744073709551616:=by rw[(W:k+n-1=k+(n-1)),C,i]
 have m3:t.getD (k+n-2) 0=P/D%18446744073709551616:=by rw[(W:k+n-2=k+(n-2)),C,<-r]
 have m4:v.getD (n-1) 0=V/D/18446744073709551616:=by rw[gv,d,xaq hE]
 have m5:v.getD (n-2) 0=V/D%18446744073709551616:=by rw[gv,<-r]
 have eg:((P/D/18446744073709551616/18446744073709551616*18446744073709551616+P/D/18446744073709551616%18446744073709551616)*18446744073709551616+P/D%18446744073709551616)/(V/D/18446744073709551616*18446744073709551616+V/D%18446744073709551616)=P/D/(V/D):=by
  generalize P/D=p;generalize V/D=w;rw[(W:(p/18446744073709551616/18446744073709551616*18446744073709551616+p/18446744073709551616%18446744073709551616)*18446744073709551616+p%18446744073709551616=p),(W:w/18446744073709551616*18446744073709551616+w%18446744073709551616=w)]
 have⟨x0,hF⟩:∃x0,x0=if V/D/18446744073709551616<=P/D/18446744073709551616/18446744073709551616 then 18446744073709551615 else P/D/(V/D):=⟨_,O⟩;have⟨n1,n2,n3⟩:=SQ hL hc B q hF;have hG:zm (xdH (k+n+1-k)<|xdT k t):=(ht.drop k).take _;have E:X (xdH (k+n+1-k)<|xdT k t)=n+1:=by rw[xav,xbX];lia
 have F:P<18446744073709551616^(n+1):=by
  rw[xba];exact xfi q<|xbI hd i0
 have hi:A (xdH (k+n+1-k)<|xdT k t)=P:=by rw[BB<|ht.drop k,Ml ht,z,(W:k+n+1-k=n+1),xaq F]
 have G:P/V<18446744073709551616:=by rw[xbb g,xaS];exact q
 have hH:V*(P/V)<=P:=Nat.mul_div_le P V;have hI:A (va (n+1)<|V*(P/V))=V*(P/V):=by rw[kv,xaq W]
 have hN:P-V*(P/V)=P%V:=by have:=xbu P V;lia
 have hQ:=xaU P g;have hR:X (yB<|P%V)<=n:=(zK _ _).2 W;refine⟨xdH k t++va (n+1) (P%V)++xdT (k+(n+1)) t,((ht.take _).append<|wq _ _).append<|ht.drop _,?_,?_,?_⟩
 ·rw[xaw,xaw,xav,zY,xbX];lia
 ·have hz:A (xdT (k+(n+1)) t)=0:=by rw[Ml ht,xbo,<-xaF,z,xbi F]
  have hO:P%V<18446744073709551616^(n+1):=xaL (Nat.mod_le _ _) F;rw[ug,hz,xcO,xbD,ug,BB ht,hK,kv,xaq hO,xav,(W:min k (X t)=k),<-k2,xaS];lia
 ·unfold VF;simp only;have c1:(k:J)+(X v:J)=((k+n:K):J):=W
  have c2:((k+n:K):J)-1=((k+n-1:K):J):=W
  have c3:((k+n:K):J)-2=((k+n-2:K):J):=W
  have c4:(X v:J)-1=((n-1:K):J):=W
  have c5:(X v:J)-2=((n-2:K):J):=W
  have c6:((k+n:K):J)+1=((k+n+1:K):J):=W
  rw[zX,c1,zb,z8,S,zb,c2,zb,z8,S,zb,c3,zb,z8,S,c4,zb,z8,S,c5,zb,z8,S];rw[m1,m2,m3,m4,m5,U (CF hr hE (xaU _ i0) (xaU _ i0) (xaU _ i0) W),eg,<-hF];rw[zb,c6,zb,yF,yF,w8 ⟨W,W⟩,S,w8 (by rw[E];simp;lia),S,xbA];rw[hl,U<|Fz hv hl m hG E hi g n1 n2 n3 W hf];simp only;have c7:(n:J)+1=((n+1:K):J):=W
  rw[zo (by simp;lia),S,zaM,yF,yW,U<|bu hv G,hl,m,U (Uh hG (wq _ _) W (by rw[zY];lia) (by rw[E,zY];lia)<|by rw[hi,hI];exact hH),hi,hI,hN];rw[c7,zb,yF,yW,S,zb,yF,w8 i7,S,zfE (zp _) W<|IR _,zT,S,zb];have H:iZ k (X t-k) t (va (n+1)<|P%V)=xdH k t++va (n+1) (P%V)++xdT (k+(n+1)) t:=by
   unfold iZ;rw[zY,(W:min (n+1) (X t-k)=n+1),xaQ (l:=va (n+1)<|P%V)<|by rw[zY];exact IR _]
  rw[H];have e2:e-k=(e-(k+1))+1:=W
  have e3:va (e-k) (a/18446744073709551616^k/V)=P/V::va (e-(k+1)) (a/18446744073709551616^(k+1)/V):=by rw[e2,GW,k1,(ou G).1,(ou G).2]
  rw[e3]
theorem S5(h:0<y):2^(bl y-1)<=y:=by
 refine xbz λa=> ?_;have h1:=UI a;grind
theorem zjk{n s:K}(a:0<y)(hn:n=X (yB y))(f:s=64-bl ((yB y).getD (n-1) 0)):s<=63/\9223372036854775808*18446744073709551616^(n-1)<=y*2^s/\y*2^s<18446744073709551616^n/\X (yB<|y*2^s)=n:=by
 have hc:=qe a;have c:=RI a;rw[<-hn]at c;have ht:(yB y).getD (n-1) 0≠0:=by rw[hn];exact zeD a
 have d:=(zp y).getD<|n-1;have⟨b1,_,_⟩:=NA (y:=(yB y).getD (n-1) 0) W d;have b2:1<=bl ((yB y).getD (n-1) 0):=by rw[cB];lia
 have e1:18446744073709551616^n=2^bl y*2^s:=by
  rw[<-FT,<-xch,<-xbo];grind
 have e:9223372036854775808*18446744073709551616^(n-1)=2^(bl y-1)*2^s:=by
  rw[<-FT,<-xch,<-xbo,(i0:(9223372036854775808:K)=2^63),<-xbo];grind
 have g1:9223372036854775808*18446744073709551616^(n-1)<=y*2^s:=by rw[e];exact xak _<|S5 a
 have b:y*2^s<18446744073709551616^n:=by rw[e1];exact xbI (CQ y)<|xaV i0
 refine⟨W,g1,b,xcP ((zK _ _).2 b)<|xbz λh=> ?_⟩;have:=(zK (n-1)<|y*2^s).1 W;have hp:0<18446744073709551616^(n-1):=xaV i0;lia
def oz{a b:N K}(r:zm a)(u:zm b)(hD:X a<=200000)(hE:X b<=200000)(hf:3000000<=fu):
 U2 fu a b=Z (if A b=0 then([],[],3)else(yB<|A a/A b,yB<|A a%A b,0)):=by
 unfold U2;have h1:=xf r;have h2:=xf u;rw[za (wc r W W),za<|wc u W W];generalize A a=x at*
 generalize A b=y at*
 by_cases h0:y=0
 ·subst h0;rw[iq O];rfl
 ·have hF:=qe (n:=y) W;rw[zB,za O,ir h0];simp only[xao,uS];rw[za<|ay (zp x)<|zp y,zT,zT];by_cases w:x<y
  ·rw[qG W,iq i0,za O];simp only[uP];rw[za<|W4<|zp x,zT,xbi w,xaq w];rfl
  ·have hv:¬jH (x:J) (y:J)<0:=by
    obtain h|h:=xca y x
    ·rw[vM W];decide
    ·rw[kP W];decide
   rw[ir hv,za O];simp only[xao,uS];have⟨n,hn⟩:∃n,n=X (yB y):=⟨_,O⟩;have hi:=(zp y).getD<|n-1;by_cases hB:n=1
   ·have M:(yB y).getD 0 0=y:=by
     rw[Vc,xez,xeq,xaq];have:=(zK 1 y).1 W;simpa using this
    have P:y<18446744073709551616:=by have:=(zK 1 y).1 W;simpa using this
    rw[zX,show(0:J)=((0:K):J)from O,z8,S,M,za (Et (zp x) P W W W),zT];simp only;have Q:=xaU x (W:0<y);rw[za (xo (cQ W) i7<|by simp;lia),lV]
   ·have⟨s,z⟩:∃s,s=64-bl ((yB y).getD (n-1) 0):=⟨_,O⟩;have⟨f,v1,B,v3⟩:=zjk W hn z;have⟨V,g⟩:∃V,V=y*2^s:=⟨_,O⟩;have⟨U,e⟩:∃U,U=x*2^s:=⟨_,O⟩;have⟨d,R⟩:∃d,d=X (yB x):=⟨_,O⟩;have hC:n<=d:=by rw[hn,R];exact JF W
    have C:x<18446744073709551616^d:=(zK d x).1 W;have hl:2^s<=9223372036854775808:=by
     rw[(i0:(9223372036854775808:K)=2^63)];exact xal i0 f
    have T:U<18446744073709551616^(d+1):=by
     rw[e,xba];exact xah (xbI C<|xaV i0)<|xaC _ W
    have hG:X (yB U)<=d+1:=(zK _ _).2 T;rw[<-g]at v1 B v3;have e1:(((X (yB y):K):J))-1=((n-1:K):J):=W
    rw[zB,e1,zb,z8,S,za<|j9 hi,<-z,za<|QZ<|zp y,zT,<-g];simp only;rw[za<|QZ<|zp x,zT,<-e];simp only;have Y:(((X (yB x):K):J))+1=((d+1:K):J):=W
    have e3:((d+1:K):J)-((X (yB U):K):J)=((d+1-X (yB U):K):J):=W
    rw[Y,zb,e3,zb,yF,yW,S];have⟨t8,hc⟩:∃t8,t8=yB U++xaa (d+1-X (yB U)) 0:=⟨_,O⟩;have i:zm t8:=by rw[hc];exact(zp U).append<|zm.replicate _
    have a0:X t8=d+1:=by rw[hc,xaw,xaM];lia
    have j:A t8=U:=by rw[hc,ug,Q7,xcO,xbD,zT]
    have⟨c,hH⟩:∃c,c=d+1-n:=⟨_,O⟩;have e4:(X t8:J)-((X (yB V):K):J)=(c:J):=W
    rw[<-hc,e4,zb,yF,yW,S,xaM,zb];have D:0<V:=by
     have:0<18446744073709551616^(n-1):=xaV i0;lia
    have hA:0<18446744073709551616^c:=xaV i0;have E:U<18446744073709551616^c*V:=by
     have k1:18446744073709551616^c*(9223372036854775808*18446744073709551616^(n-1))<=18446744073709551616^c*V:=xaC _ v1;have k2:18446744073709551616^c*(9223372036854775808*18446744073709551616^(n-1))=18446744073709551616^d*9223372036854775808:=by
      rw[xaS 9223372036854775808,<-xaT,<-xbo];congr 2;lia
     have k3:U<18446744073709551616^d*9223372036854775808:=by
      rw[e];exact xah (xbI C<|xaV i0)<|xaC _ hl
     lia
    have F:U/18446744073709551616^c<V:=by rw[xbb hA,xaS];exact E
    have l:∃t,zm t/\X t=c+n/\A t=U%V/\zg (VF fu (s:J)<|yB V) fu (yB V,(c:J)-1,t8,xaa c 0)=Z (t,va c<|U/V):=by
     refine⟨va (c+n)<|U%V,wq _ _,zY _ _,?_,?_⟩
     ·rw[kv,xaq];have h5:=xaU U D;exact xah (xfi h5 B)<|xal i0 W
     ·refine zA (λq:N K×J×N K×N K=>∃(m:K) (t:N K),m<=c/\zm t/\X t=c+n/\A t=U/18446744073709551616^m%V*18446744073709551616^m+U%18446744073709551616^m/\q=(yB V,(m:J)-1,t,xaa m 0++va (c-m) (U/18446744073709551616^m/V))) (λq=>(q.2.1+1).toNat) _ ?_ _ _ ⟨c,t8,IR _,i,W,?_,?_⟩ (by show((c:J)-1+1).toNat<fu;lia)
      ·rintro q L ⟨m,t,Q,ht,G,hd,rfl⟩ ih
       cases m with
       |zero=>
        unfold VF;simp only;rw[zB];rw[xez,xea,Nat.mod_one,xbD,xeq]at hd;have:=gA ht;rw[G,hd]at this;rw[this];simp
       |succ m=>
        have⟨t',g1,H,o,p⟩:=zck (fu:=fu) (k:=m) (s:=(s:J)) (L:=L) (zp V) v3 (zT V) W v1 ht G W W W hd;rw[(W:((m+1:K):J)-1=(m:J)),p];exact ih _ ⟨m,t',W,g1,H,o,O⟩ (by show((m:J)-1+1).toNat<(((m+1:K):J)-1+1).toNat;lia)
      ·rw[j,xaq F,xaS];exact(xbu U _).symm
      ·rw[xbi F,xcD];simp[va]
    have⟨t,g1,H,o,p⟩:=l;rw[za p];simp only;have he:U/V<18446744073709551616^c:=by rw[xbb D];exact E
    have hp:0<2^s:=xaV i0;rw[za (xo (wq _ _) (by rw[zY];lia)<|by rw[zY];lia),kv,xaq he,za (nZ g1 W W W),o];rw[e,g,xfL _ _ hp,xeh,Nat.mul_div_cancel _ hp]
end
section
variable{i d0 fu U y j r:wr}
theorem MV{x t:N K}{c:K}(ht:X t=i)(h:nw t+4294967296^i*c=2*nw (x.take i)+d0):
 nw (t++[(x.getD i 0*2+c)%4294967296])+4294967296^(i+1)*((x.getD i 0*2+c)/4294967296)=2*nw (x.take<|i+1)+d0:=by
 rw[BA,kK];have:=xbu (x.getD i 0*2+c) 4294967296;grind
def zke{x t1 t2:N K}(f:xj x)(hl:X x<=1000000)(hd:d0<=1)(u:2000000<fu):
 ∃t d,zg (Ue fu x) fu (t1,t2,[],d0,0)=Z (t1,t2,t,d)/\xj (t++[d])/\X t=X x/\nw (t++[d])=2*nw x+d0:=by
 have v:=Qv f;have⟨T,b⟩:∃T,T=kQ (X x+1) (2*nw x+d0):=⟨_,O⟩;have m:2*nw x+d0<4294967296^(X x+1):=by rw[xba];lia
 have n:X T=X x+1:=by rw[b,yQ]
 have g:nw T=2*nw x+d0:=by rw[b,Y8,xaq m]
 have h:xj T:=by rw[b];exact qO _ _
 have k:T=T.take (X x)++[T.getD (X x) 0]:=by
  have e:=(xbv (X x) T).symm;have a:T.drop (X x)=[T.getD (X x) 0]:=by
   rw[xcb W,xbW W,FS,xab W];rfl
  rw[a]at e;exact e
 refine⟨T.take (X x),T.getD (X x) 0,?_,by rw[<-k];exact h,by rw[xav];lia,by rw[<-k];exact g⟩;refine zA (λs:N K×N K×N K×K×J=>∃(t:N K) (c i:K),s=(t1,t2,t,c,(i:J))/\i<=X x/\X t=i/\xj t/\c<=1/\nw t+4294967296^i*c=2*nw (x.take i)+d0) (λs=>X x-s.2.2.2.2.toNat) _ ?_ _ _ ⟨[],d0,0,O,W,O,xj.nil,hd,by simp[nw]⟩ (by show X x-0<fu;lia);rintro s L ⟨t,c,i,rfl,hi,ht,l,hc,hv⟩ o;unfold Ue;simp only;by_cases h1:i<X x
 ·have b1:=f.getD i;have a:(x.getD i 0*2%18446744073709551616+c)%18446744073709551616=x.getD i 0*2+c:=W
  have p:x.getD i 0/2^(min (((31:K)):J).toNat 64)=(x.getD i 0*2+c)/4294967296:=by
   rw[(i0:min (((31:K)):J).toNat 64=31)];lia
  rw[zX,zo h1,S,S,S,a,S,Eo,w8 (by simp[ht];lia),S,zo h1,S,S,p,zb];exact o _ ⟨_,_,i+1,O,W,by simp[ht],l.append<|xj.cons (xaU _ i0) xj.nil,W,MV ht hv⟩ (by show X x-((i:J)+1).toNat<X x-(i:J).toNat;lia)
 ·rw[zB];obtain rfl:i=X x:=W
  rw[xbY]at hv;have q:xj (t++[c]):=l.append<|xj.cons W xj.nil;have:T=t++[c]:=by
   refine De h q (by simp[ht,n]) ?_;rw[g,BA,ht,hv]
  have e1:T.take (X x)=t:=by rw[this,<-ht];simp
  have a:T.getD (X x) 0=c:=by rw[this,<-ht];simp[FS]
  rw[e1,a]
theorem zlA(b:0<y):(y<=2*(U/2^(i+1)%y)+U/2^i%2->U/2^i/y=2*(U/2^(i+1)/y)+1/\U/2^i%y=2*(U/2^(i+1)%y)+U/2^i%2-y)/\(2*(U/2^(i+1)%y)+U/2^i%2<y->U/2^i/y=2*(U/2^(i+1)/y)/\U/2^i%y=2*(U/2^(i+1)%y)+U/2^i%2):=by
 have d:U/2^(i+1)=U/2^i/2:=by rw[xba,xaF]
 rw[d];generalize U/2^i=V;have h1:=xbu (V/2) y;have e:=xaU (V/2) b;generalize V/2/y=q at*
 generalize V/2%y=r at*
 have a:∀Q R,V=y*Q+R->R<y->V/y=Q/\V%y=R:=λQ R h c=>by
  rw[h];exact⟨by rw[Nat.mul_add_div b,xbi c,xbD],by rw[Nat.mul_add_mod,xaq c]⟩
 refine⟨λh=>a _ _ ?_ W,λh=>a _ _ ?_ W⟩
 ·grind
 ·grind
def zqg(x:K):x &&& 1=x%2:=Nat.and_two_pow_sub_one_eq_mod x 1
def zcj(a:r<32):U/4294967296^j%4294967296/2^r%2=U/2^(32*j+r)%2:=by
 rw[xbo,xch,(i0:2^32=4294967296),<-xaF];rw[show 4294967296=2^r*2^(32-r)by rw[<-xbo,(W:r+(32-r)=32)],Nat.mod_mul_right_div_self,show 2^(32-r)=2*2^(31-r)by rw[<-xdV,(W:(31-r).succ=32-r)],Nat.mod_mul_right_mod]
def zmN{Q:K}(d:r<32):(Q*2^(32*j+r+1)/4294967296^j%4294967296)|||1*2^r%18446744073709551616=Q*2^(32*j+r+1)/4294967296^j%4294967296+2^r/\Q*2^(32*j+r+1)/4294967296^j%4294967296+2^r<4294967296:=by
 have e1:Q*2^(32*j+r+1)/4294967296^j=Q*2^(r+1):=by rw[xcH,xbo,xch,(i0:(2:K)^32=4294967296),xdA,Nat.mul_div_cancel_left _<|xaV i0]
 have b:Q*2^(r+1)%4294967296=Q%2^(31-r)*2^(r+1):=by rw[show(4294967296:K)=2^(31-r)*2^(r+1)by rw[<-xbo,(W:31-r+(r+1)=32)],xeh]
 have h1:2^r<2^(r+1):=xfT i0 W;have e:2^r<=2147483648:=by
  rw[(i0:(2147483648:K)=2^31)];exact xal i0 W
 rw[e1,b,xcz,xaq (a:=2^r) W,Iz h1];refine⟨O,?_⟩;have c:(Q%2^(31-r)+1)*2^(r+1)<=2^(31-r)*2^(r+1):=xak _ (xaU _<|xaV i0);rw[<-xbo,(W:31-r+(r+1)=32),xbf,xcz]at c;lia
def zdW(k:0<y)(V:X (Vv U)<=80000)(ht:X (Vv y)<=80000)(Y:3000000<=fu):
 zg (Uc fu (Vv y)<|Vv U) fu ([],32*((X (Vv U):K):J)-1,xaa (X (Vv U)) 0)=Z (Vv<|U%y,kQ (X (Vv U))<|U/y):=by
 have⟨n,hn⟩:∃n,n=X (Vv U):=⟨_,O⟩;have c:U<2^(32*n):=by
  rw[xch,(i0:(2:K)^32=4294967296)];exact(vo _ _).1 W
 rw[<-hn];refine zA (λs:N K×J×N K=>∃(m:K),m<=32*n/\s=(Vv<|U/2^m%y,(m:J)-1,kQ n<|U/2^m/y*2^m)) (λs=>(s.2.1+1).toNat) _ ?_ _ _ ⟨32*n,IR _,?_⟩ (by show(32*(n:J)-1+1).toNat<fu;lia)
 ·rintro s L ⟨m,hm,rfl⟩ l;unfold Uc;simp only
  cases m with
  |zero=>rw[zB,xez,xeq,xea]
  |succ i=>
   have⟨j,z⟩:∃j,j=i/32:=⟨_,O⟩;have⟨r,A⟩:∃r,r=i%32:=⟨_,O⟩;have hd:r<32:=W
   have hi:i=32*j+r:=W
   have B:((i+1:K):J)-1=(i:J):=W
   have C:xdE (i:J) (32:J)=(j:J):=by rw[z];rfl
   have D:xcv (i:J) (32:J)=(r:J):=by rw[A];rfl
   have b:j<n:=W
   have a:min (r:J).toNat 64=r:=W
   have hv:(Vv U).getD j 0=U/4294967296^j%4294967296:=by rw[bn<|qD U,qM]
   have E:(Vv U).getD j 0/2^r%2=U/2^i%2:=by rw[hv,zcj hd,<-hi]
   have o:=xaU (U/2^(i+1)) k;have⟨R,e⟩:∃R,R=U/2^(i+1)%y:=⟨_,O⟩;rw[<-e]at o;have F:y<4294967296^X (Vv y):=(vo _ _).1<|IR _;have hB:X (Vv R)<=80000:=xap ((vo (X (Vv y)) R).2<|xfi o F) ht;have hl:X (Vv<|2*R+U/2^i%2)<=1000000:=by
    refine xap ((vo (X (Vv y)+1) _).2 ?_) (W:X (Vv y)+1<=1000000);rw[xba];lia
   have⟨t,d,g1,G,f,p⟩:=zke (fu:=fu) (d0:=U/2^i%2) (t1:=Vv y) (t2:=Vv U) (qD R) W W W;rw[qM]at p;have⟨q,u⟩:=zlA (U:=U) (i:=i) k;rw[<-e]at q u;have H:U/2^(i+1)/y*2^(i+1)<4294967296^n:=by
    rw[show(4294967296:K)^n=2^(32*n)by rw[xch,(i0:(2:K)^32=4294967296)]];refine xaL ?_ c;exact xap (xak _<|xcM _ _)<|xcQ _ _
   have v:2*(U/2^(i+1)/y)*2^i=U/2^(i+1)/y*2^(i+1):=by rw[xba,xaS<|2^i,<-xaT,xaS 2]
   rw[B,<-e,zX,w8 i0,C,zb,z8,S,w8 i0,D,S,yW,S,a,S,zqg,E];rw[za g1];simp only;rw[w8 (by simp[f];lia),S,za (JW G (by simp[f];lia)<|by simp[f];lia),p,za (Jq (fu:=fu) (qD _) (qD y) ?_ W W),qM,qM];by_cases hc:y<=2*R+U/2^i%2
   ·have⟨w1,g⟩:=q hc;have M:(0:J)<=jH ((2*R+U/2^i%2:K):J) (y:J):=by
     rcases xca y (2*R+U/2^i%2)with h|h
     ·rw[vM<|Int.ofNat_lt.2 h];decide
     ·rw[kP<|by rw[xcP h hc]];decide
    have⟨o1,o2⟩:=zmN (Q:=U/2^(i+1)/y) (j:=j) hd;rw[<-hi]at o1 o2;have w:(kQ n<|U/2^(i+1)/y*2^(i+1)).getD j 0=U/2^(i+1)/y*2^(i+1)/4294967296^j%4294967296:=HH _ _ _ b;have hp:(kQ n<|U/2^(i+1)/y*2^(i+1)).set j (U/2^(i+1)/y*2^(i+1)/4294967296^j%4294967296+2^r)=kQ n (U/2^i/y*2^i):=by
     refine De ((qO _ _).set j o2) (qO _ _) (by rw[xbj,yQ,yQ]) ?_;have h1:=HP (kQ n<|U/2^(i+1)/y*2^(i+1)) j (U/2^(i+1)/y*2^(i+1)/4294967296^j%4294967296+2^r) (by rw[yQ];exact b);rw[w,Y8,xaq H,xbn]at h1;have h2:4294967296^j*2^r=2^i:=by rw[hi,xbo,xch,(i0:(2:K)^32=4294967296)]
     have P:U/2^i/y*2^i=U/2^(i+1)/y*2^(i+1)+2^i:=by rw[w1,xbf,xcz,v]
     have T:U/2^i/y*2^i<4294967296^n:=by
      rw[show(4294967296:K)^n=2^(32*n)by rw[xch,(i0:(2:K)^32=4294967296)]];refine xaL ?_ c;exact xap (xak _<|xcM _ _)<|xcQ _ _
     rw[Y8,xaq T,P];lia
    rw[iq M,za O,iq O,za (bO (fu:=fu) (qD _) (qD y) hl W<|by rw[qM,qM];exact hc),qM,qM];rw[w8 i0,zb,w8 i0,zb,zo (by rw[yQ];exact b),S,w8 i0,S,yW,a,S,S,w,o1,zo (by rw[yQ];exact b),S,hp,zb,<-g];exact l _ ⟨i,W,O⟩ (by show((i:J)-1+1).toNat<(((i+1:K):J)-1+1).toNat;lia)
   ·have x:=xdr hc;have⟨w1,g⟩:=u x;rw[qG<|Int.ofNat_lt.2 x,ir i0,za O];simp only[xao,uS];rw[zb,<-g,<-v,<-w1];exact l _ ⟨i,W,O⟩ (by show((i:J)-1+1).toNat<(((i+1:K):J)-1+1).toNat;lia)
   ·exact hl
 ·rw[xbi c,xgf,Nat.zero_div,xcp,sU,fH,(W:(32:J)*(n:J)-1=((32*n:K):J)-1)]
def DR{a b:N K}(c:zm a)(d:zm b)(hd:X a<=40000)(h:X b<=40000)(e:3000000<=fu):
 Kd fu a b=Z (if A b=0 then([],[],3)else(yB<|A a/A b,yB<|A a%A b,0)):=by
 unfold Kd;have l1:=Vt c;have k:=Vt d;have f:=xY (fu:=fu) c;rw[za<|xY d];generalize A a=U at*
 generalize A b=y at*
 by_cases h0:y=0
 ·subst h0;rfl
 ·have l:=PW (n:=y) W;have hc:U<4294967296^X (Vv U):=(vo _ _).1<|IR _;have hi:X (Vv<|U%y)<=X (Vv y):=(vo _ _).2<|xfi (xaU _ W)<|(vo _ _).1<|IR _;rw[zB,ir h0,za f,yF,yW,S,zb,zb,za<|zdW W W W e];simp only;have g:U/y<4294967296^X (Vv U):=xaL (xcM _ _) hc;rw[za (jC (qO _ _) (by rw[yQ];lia)<|by rw[yQ];lia),Y8,xaq g,za (jC (qD _) W W),qM]
end
section
variable{k fu:wr}{y:wl}{a b m:Zr}
def eT(z:M):Prop:=zm z.2/\X z.2<=40000
theorem eT.ok{z:M}(h:eT z):gV z:=⟨h.1,xap h.2 i0⟩
def Bz.okS{x:J}(h:Bz k x)(c:k<=40000):eT (yz x):=⟨yx x,xap ((zK _ _).2 h) c⟩
def Bz.len{x:J}(h:Bz k x):(yz x).2.length<=k:=(zK _ _).2 h
theorem zbS{x q r:J}(c:y≠0)(h:y*q+r=x)(h0:0<=r:=by lia)(h1:r<(y.natAbs:J):=by lia):x/y=q/\x%y=r:=by grind [Int.ediv_emod_unique',Int.ediv_emod_unique]
def Ln(x y:J):M×M×J:=if y=0 then((I,[]),(I,[]),3)else(yz<|x/y,yz<|x%y,0)
theorem Om{q0 r0:K}(n:A b.2≠0)(j:q0=A a.2/A b.2)(f:r0=A a.2%A b.2):
 (¬(a.1=wL/\0<r0)->zv a/zv b=(if(!(a.1==b.1))=wL then-(q0:J)else(q0:J))/\zv a%zv b=(r0:J))/\
 (a.1=wL/\0<r0->zv a/zv b=(if(!(a.1==b.1))=wL then-((q0+1:K):J)else((q0+1:K):J))/\zv a%zv b=((A b.2-r0:K):J)):=by
 have hd:=xbu (A a.2)<|A b.2;have l:=xaU (A a.2) (W:0<A b.2);rw[<-j,<-f]at hd;rw[<-f]at l;have g:zv b≠0:=by have:=vK b;lia
 have o:=vK b;have hc:((A b.2:K):J)*(q0:J)+(r0:J)=((A a.2:K):J):=by rw[<-hd];simp
 refine⟨λh=> ?_,λh=> ?_⟩
 ·refine zbS g ?_;rcases xZ a with⟨h1,e⟩|⟨h1,e⟩<;>rcases xZ b with⟨c,d⟩|⟨c,d⟩<;>rw[h1,c,e,d]
  ·grind
  ·grind
  ·rw[iq i0,Int.neg_mul_neg];lia
  ·rw[ir i0];lia
 ·refine zbS g ?_;have⟨h1,hp⟩:=h;have e1:((A b.2-r0:K):J)=((A b.2:K):J)-(r0:J):=W
  have i:((A b.2:K):J)*(((q0+1:K)):J)=((A b.2:K):J)*(q0:J)+((A b.2:K):J):=by rw[xeO,xfE];simp
  rcases xZ a with⟨_,e⟩|⟨h,_⟩
  ·rcases xZ b with⟨c,d⟩|⟨c,d⟩<;>rw[h1,c,e,d,e1]
   ·rw[ir i0,Int.neg_mul,i];lia
   ·rw[iq i0,Int.mul_neg,i];lia
  ·rw[h1]at h;cases h
theorem Bp:zv b=0↔A b.2=0:=by
 have:=vK b;lia
theorem Ub(d:eT a)(c:eT b)(j:3000000<=fu):Wb fu a b=Z (Ln (zv a)<|zv b):=by
 unfold Wb Ln;have l:=d.2;have i:=c.2;rw[U<|oz d.1 c.1 W W j];by_cases h0:A b.2=0
 ·rw[iq h0,iq<|Bp.2 h0];rfl
 ·rw[ir h0,ir<|λh=>h0<|Bp.1 h];simp only[uP];have⟨q0,e⟩:∃q0,q0=A a.2/A b.2:=⟨_,O⟩;have⟨r0,f⟩:∃r0,r0=A a.2%A b.2:=⟨_,O⟩;have n:X (yB q0)<=40000:=by
   refine xap ((zK (X a.2) q0).2 ?_) l;rw[e];exact xaL (xcM _ _)<|vv d.1
  have hd:r0<A b.2:=by rw[f];exact xaU _ W
  have q:X (yB r0)<=40000:=xap ((zK (X b.2) r0).2<|xfi hd<|vv c.1) i;have o:X (yB<|A b.2-r0)<=40000:=xap ((zK (X b.2) _).2<|xaL (xfh _ _)<|vv c.1) i;have⟨k1,k2⟩:=Om h0 e f;rw[<-e,<-f];have p:X (yB<|q0+1)<=40001:=Zk (y:=1) n i0;by_cases hc:a.1=wL/\0<r0
  ·have⟨w1,g⟩:=k2 hc;have:=qe hc.2;rw[iq hc.1,zX,U (v:=(yB<|q0+1,yB<|A b.2-r0))]
   ·rw[w1,g];simp only;rw[S,U (yE (zp _) W W),U (yE (zp _) W W),zT,zT];rfl
   ·rw[U (Zz (zp _) (cQ i0) W i7<|by simp;lia),zT,lV,U (QL c.1 (zp _) W W W),zT,zB]
  ·have⟨w1,g⟩:=k1 hc;rw[U (v:=(yB q0,yB r0))]
   ·rw[w1,g];simp only;rw[S,U (yE (zp _) W W),U (yE (zp _) W W),zT,zT];rfl
   ·by_cases h1:a.1=wL
    ·have:r0=0:=xfy λhp=>hc ⟨h1,hp⟩;subst this;rw[iq h1,ir i0]
    ·rw[ir h1]
def cz(e:eT a)(c:eT b)(d:3000000<=fu):Vr fu a b=Z (Ln (zv a)<|zv b):=by
 unfold Vr Ln;have l:=e.2;have j:=c.2;rw[U<|DR e.1 c.1 W W d];by_cases h0:A b.2=0
 ·rw[iq h0,iq<|Bp.2 h0];rfl
 ·rw[ir h0,ir<|λh=>h0<|Bp.1 h];simp only[uP];have⟨q0,f⟩:∃q0,q0=A a.2/A b.2:=⟨_,O⟩;have⟨r0,g⟩:∃r0,r0=A a.2%A b.2:=⟨_,O⟩;have n:X (yB q0)<=40000:=by
   refine xap ((zK (X a.2) q0).2 ?_) l;rw[f];exact xaL (xcM _ _)<|vv e.1
  have hd:r0<A b.2:=by rw[g];exact xaU _ W
  have q:X (yB r0)<=40000:=xap ((zK (X b.2) r0).2<|xfi hd<|vv c.1) j;have o:X (yB<|A b.2-r0)<=40000:=xap ((zK (X b.2) _).2<|xaL (xfh _ _)<|vv c.1) j;have⟨k1,k2⟩:=Om h0 f g;rw[<-f,<-g];have p:X (yB<|q0+1)<=40001:=Zk (y:=1) n i0;by_cases hc:a.1=wL/\0<r0
  ·have⟨w1,i⟩:=k2 hc;have:=qe hc.2;rw[iq hc.1,zX,U (v:=(yB<|q0+1,yB<|A b.2-r0))]
   ·rw[w1,i];simp only;rw[S,U<|xc (zp _) (by show(yB _).length<=_;lia) d,U<|xc (zp _) (by show(yB _).length<=_;lia) d,BR,BR];rfl
   ·rw[U (fT (zp _) (cQ i0) W i7 W),zT,lV,U (JC c.1 (zp _) W W W),zT,zB]
  ·have⟨w1,i⟩:=k1 hc;rw[U (v:=(yB q0,yB r0))]
   ·rw[w1,i];simp only;rw[S,U<|xc (zp _) (by show(yB _).length<=_;lia) d,U<|xc (zp _) (by show(yB _).length<=_;lia) d,BR,BR];rfl
   ·by_cases h1:a.1=wL
    ·have:r0=0:=xfy λhp=>hc ⟨h1,hp⟩;subst this;rw[iq h1,ir i0]
    ·rw[ir h1]
def Gi(x m:J):M×J:=if m<=0 then((I,[]),1)else(yz<|x%m,0)
def near(x m:J):J:=if m<x%m+x%m then x%m-m else x%m
def zhO(x m:J):M×J:=if m<=0 then((I,[]),1)else(yz<|near x m,0)
theorem Bz.emod{x m:J}(c:Bz k m)(h0:0<m):Bz k (x%m):=by
 have h1:=xcR x (W:m≠0);have d:=xdQ x h0;exact c.le W
theorem Bz.near{k:K}{x m:J}(c:Bz k m)(h0:0<m):Bz k (near x m):=by
 have h1:=xcR x (W:m≠0);have d:=xdQ x h0;refine c.le ?_;unfold Go.Proofs.YtoegnnjcmlghhaaGreat.near;lia
theorem Lq{x:J}:jH x 0<=0↔x<=0:=by grind [qG,kP,vM]
theorem OJ{x:J}:0<jH x y↔y<x:=by grind [qG,kP,vM]
theorem xN{x:J}:jH x y=0↔x=y:=by grind [qG,kP,vM]
theorem Yc(c:eT a)(d:eT m)(e:3000000<=fu):qT fu a m=Z (Gi (zv a)<|zv m):=by grind [qT,Ln,Gi,U,xe,eT.ok,Lq,Ub]
def AH(g:eT a)(d:eT m)(f:3000000<=fu):Y7 fu a m=Z (zhO (zv a)<|zv m):=by
 unfold Y7 zhO;rw[U<|Yc g d f];unfold Gi;by_cases h:zv m<=0
 ·simp_all
 ·have c:Bz 40000 (zv a%zv m):=Bz.emod ((Bz.of d.1).mono d.2) W;rw[ir h,ir h];simp only[uP];have hl:=d.2;have i:=(c.add c).ok W;have j:=(c.add c).len;rw[U<|vY (c.okS W).ok (c.okS W).ok f,zn,U<|ZW i d.ok f,zn];unfold near;by_cases hc:zv m<zv a%zv m+zv a%zv m
  ·rw[iq<|OJ.2 hc,iq hc,U<|qi (c.okS W).ok d.ok f,zn]
  ·rw[ir<|λe=>hc<|OJ.1 e,ir hc]
end
section
variable{f g:wr->wl}{j m k fu:wr}{p:xS Zr}
def zi(n:K)(f:K->J):N M:=(xaN n).map λk=>yz<|f k
def cf(p:N M)(k:K):J:=zv<|p.getD k (I,[])
def dg(f:K->J):K->K
 |0=>0
 |n+1=>if f n=0 then dg f n else n+1
def wU(n:K)(f:K->J):N M:=zi (dg f n) f
def y6(k:K)(p:N M):Prop:=∀z∈p,zm z.2/\X z.2<=k
def Xh(f:K->J)(j:K)(v:J):K->J:=λk=>if k=j then v else f k
theorem Vd(p:N M)(k:K):zv (p.getD k (I,[]))=cf p k:=O
theorem yn(n:K)(f:K->J):X (zi n f)=n:=by unfold zi;simp
theorem ZY{n:K}(h:j<n):(zi n f).getD j (I,[])=yz (f j):=by simp_all [zi]
theorem yZ{n:K}(h:∀k,k<n->f k=g k):zi n f=zi n g:=by simp_all [zi]
theorem aH{n:K}{v:J}:(zi n f).set j (yz v)=zi n (Xh f j v):=by
 refine xcA λi=> ?_;unfold zi Xh;by_cases h:j=i
 ·grind
 ·grind
theorem zgm:yz 0=(I,[]):=O
theorem bg(n:K):xaa n (I,[])=zi n (λ_=>0):=by grind [zi,zgm,List.map_const',xev]
theorem Bf{n:K}:zi n f++[yz<|f n]=zi (n+1) f:=by grind [zi,xdk]
theorem OV{n:K}(h:j<n):cf (zi n f) j=f j:=by unfold cf;rw[ZY h,zn]
theorem ye(h:X p<=j):cf p j=0:=by
 unfold cf;rw[FS,xbB h];rfl
theorem Kf{n:K}(h:∀k,n<=k->f k=0)(j:K):cf (zi n f) j=f j:=by grind [OV,ye,yn]
theorem qH(f:K->J):∀n,dg f n<=n
 |0=>IR _
 |n+1=>by unfold dg;split;exact xap (qH f n)<|xbH _;exact IR _
theorem Qm(f:K->J):∀n k,dg f n<=k->k<n->f k=0
 |0,k,_,h=>wS h<|xbq _
 |n+1,k,h1,a=>by
  unfold dg at h1;split at h1
  ·rename_i h0;by_cases b:k=n
   ·simp_all
   ·exact Qm f n k h1 W
  ·lia
theorem Qb(f:K->J):∀n,dg f n≠0->f (dg f n-1)≠0
 |0,h=>wS O h
 |n+1,h=>by
  unfold dg at h⊢;split
  ·rename_i h0;rw[iq h0]at h;exact Qb f n h
  ·simp_all
theorem KD{n d:K}(h1:d<=n)(b:∀k,d<=k->k<n->f k=0)(h3:d=0\/f (d-1)≠0):dg f n=d:=by
 have a:=qH f n;rcases Nat.lt_trichotomy (dg f n) d with h|h|h
 ·obtain h3|h3:=h3
  ·lia
  ·exact wS (Qm f n (d-1) W W) h3
 ·exact h
 ·exact wS (b (dg f n-1) W W)<|Qb f n W
theorem Xt{n:K}(b:∀k,n<=k->f k=0)(c:∀k,m<=k->g k=0)(h:∀k,f k=g k):wU n f=wU m g:=by
 have e:dg f n=dg g m:=by
  refine KD ?_ ?_ ?_
  ·refine xbz λd=> ?_;have:=Qb g m W;grind
  ·intro k h1 i;rw[h];by_cases a:k<m
   ·exact Qm g m k h1 a
   ·simp_all
  ·by_cases h0:dg g m=0
   ·lia
   ·right;rw[h];exact Qb g m h0
 unfold wU;rw[e];exact yZ λk _=>h k
theorem xC(n:K)(f:K->J):X (wU n f)=dg f n:=yn _ _
def jW{n:K}(h:∀k,n<=k->f k=0)(j:K):cf (wU n f) j=f j:=by
 refine Kf (λk a=> ?_) j;by_cases hn:k<n
 ·exact Qm f n k a hn
 ·simp_all
def y6.get(h:y6 k p)(j:K):zm (p.getD j (I,[])).2/\(p.getD j (I,[])).2.length<=k:=by
 rw[FS];by_cases a:j<X p
 ·rw[xab a];exact h _<|xbQ a
 ·rw[xbB W];exact⟨zm.nil,xan _⟩
theorem y6.okZ(h:y6 k p)(a:k<=100000)(j:K):gV (p.getD j (I,[])):=⟨(h.get j).1,xap (h.get j).2 a⟩
def y6.okS(h:y6 k p)(a:k<=40000)(j:K):eT (p.getD j (I,[])):=⟨(h.get j).1,xap (h.get j).2 a⟩
theorem y6.bz(h:y6 k p)(j:K):Bz k (cf p j):=(Bz.of (h.get j).1).mono (h.get j).2
def y6.mono(h:y6 j p)(b:j<=k):y6 k p:=λz a=>⟨(h z a).1,xap (h z a).2 b⟩
theorem Bz.zero(k:K):Bz k 0:=xaV i0
def Xf{n:K}(h:∀j,Bz k<|f j):y6 k (zi n f):=λz a=>by
 obtain⟨j,_,rfl⟩:=xas.1 a;exact⟨yx _,(h j).len⟩
def BG{a:J->M->V M}(hl:X p<=1000000)(l:2000000<fu)(h:∀j:K,j<X p->a (j:J) (p.getD j (I,[]))=Z (yz<|g j)):
 zH fu p a=Z (zi (X p) g):=by
 unfold zH;rw[yF,yW,S,bg,U];refine zA (λs:J×N M=>∃i:K,i<=X p/\s=((i:J),zi (X p) (λk=>if k<i then g k else 0))) (λs=>X p-s.1.toNat) _ ?_ _ _ ⟨0,xan _,by rw[yZ (g:=λk=>if k<0 then g k else 0)<|λk _=>by rw[zB]];rfl⟩ (by show X p-0<fu;lia);rintro s L ⟨i,hi,rfl⟩ c;unfold ve;simp only;by_cases h1:i<X p
 ·rw[zX,U O];simp only[uP];rw[zo h1,S,U<|h i h1,zo (by rw[yn];exact h1),S,aH,zb];refine c _ ⟨i+1,W,?_⟩ (by show X p-((i:J)+1).toNat<X p-(i:J).toNat;lia);congr 1;refine yZ λk d=> ?_;unfold Xh;by_cases e:k=i
  ·rw[iq e,zX,e]
  ·rw[ir e];show(if k<i then g k else 0)=_;by_cases b:k<i
   ·rw[iq b,zX]
   ·rw[ir b,zB]
 ·rw[zB,U O];simp only[xao,uS];congr 1;exact yZ λk d=>by rw[zX]
def pj(h:f m=0):dg f (m+1)=dg f m:=by conv=>lhs;unfold dg;rw[iq h]
def cF(h:f m≠0):dg f (m+1)=m+1:=by conv=>lhs;unfold dg;rw[ir h]
theorem Gr(h:j<m):(p.take m).getD j (I,[])=p.getD j (I,[]):=by grind
theorem zJ(h:y6 k p)(c:k<=100000)(hl:X p<=1000000)(d:3000000<=fu):zM fu p=Z (wU (X p)<|cf p):=by
 unfold zM;have hd:=qH (cf p) (X p);rw[U (v:=p.take<|dg (cf p) (X p))]
 ·have a:X (p.take<|dg (cf p) (X p))=dg (cf p) (X p):=by rw[xav];lia
  rw[U<|BG (g:=cf p) W W ?_,a]
  ·rfl
  ·intro j i;rw[a]at i;unfold Ji;rw[Gr i,U<|kU (h.okZ c j) d];rfl
 ·refine zA (λt:N M=>∃m,m<=X p/\t=p.take m/\dg (cf p) m=dg (cf p) (X p)) (λt=>X t) _ ?_ _ _ ⟨X p,IR _,xbY.symm,O⟩ W;rintro t L ⟨m,n,rfl,b⟩ l;have a:X (p.take m)=m:=by rw[xav];lia
  unfold cM
  cases m with
  |zero=>
   rw[zB,<-b];rfl
  |succ m=>
   rw[zX,a,(W:((m+1:K):J)-1=(m:J)),zb,z8,S,Gr W,U<|xe (h.okZ c m) d,Vd];by_cases h0:cf p m=0
   ·rw[iq<|xN.2 h0,zb,yF,yW,S,List.take_take,(W:min m (m+1)=m)];exact l _ ⟨m,W,O,by rw[<-pj h0,b]⟩<|by rw[a,xav];lia
   ·rw[ir<|λe=>h0<|xN.1 e,<-b,cF h0]
theorem vO(h:y6 k p)(d:k<=100000)(hl:X p<=1000000)(c:3000000<=fu):vA fu p=Z (wU (X p)<|cf p):=by
 unfold vA;have hd:=qH (cf p) (X p);rw[U (v:=((dg (cf p) (X p):K):J))]
 ·rw[U (v:=wU (X p)<|cf p)];unfold wU;refine zA (λs:N M×J=>∃i:K,i<=dg (cf p) (X p)/\s=(zi i<|cf p,(i:J))) (λs=>X p-s.2.toNat) _ ?_ _ _ ⟨0,xan _,O⟩ (by show X p-0<fu;lia);rintro s L ⟨i,hi,rfl⟩ a;unfold eD;simp only;by_cases h1:i<dg (cf p) (X p)
  ·rw[zX,z8,S,U<|xc (h.get i).1 (by have:=(h.get i).2;lia) c,w8 (by rw[yn];simp;lia),S,zb];exact a _ ⟨i+1,W,by rw[<-Bf];rfl⟩ (by show X p-((i:J)+1).toNat<X p-(i:J).toNat;lia)
  ·grind
 ·refine zA (λi:J=>∃m:K,i=(m:J)/\m<=X p/\dg (cf p) m=dg (cf p) (X p)) (λi=>i.toNat) _ ?_ _ _ ⟨X p,O,IR _,O⟩ W;rintro i L ⟨m,rfl,l,b⟩ a;unfold cD
  cases m with
  |zero=>rw[zB,<-b];rfl
  |succ m=>
   rw[zX,(W:((m+1:K):J)-1=(m:J)),zb,z8,S,U<|Qi (h.okZ d m) c,Vd];by_cases h0:cf p m=0
   ·rw[iq<|xN.2 h0,zb];exact a _ ⟨m,O,W,by rw[<-pj h0,b]⟩ W
   ·rw[ir<|λe=>h0<|xN.1 e,<-b,cF h0]
end
section
variable{a b p:xS Zr}{k fu j l:wr}{h g:wr->Zr}
theorem W7(h:max (X a) (X b)<=k:=by lia):cf a k+cf b k=0:=by grind [ye]
theorem Tr(c:y6 k a)(d:y6 k b)(e:k<=100000)(f:3000000<=fu)(hc:X b<=1000000)(j:K)(i:j<X b):
 uk fu (j:J) (b.getD j (I,[])) a=Z (if j<X a then yz (cf a j+cf b j)else b.getD j (I,[])):=by grind [uk,zo,S,U,vY,y6.okZ,Vd]
def Aa(a b:N M):N M:=(xaN (X b)).map λj=>if j<X a then yz (cf a j+cf b j)else b.getD j (I,[])
theorem zhq{n:K}(c:j<n):((xaN n).map h).getD j (I,[])=h j:=by grind
theorem map_set{n i:K}:((xaN n).map h).set i (g i)=(xaN n).map (λk=>if k=i then g k else h k):=by
 refine xcA λm=> ?_;by_cases e:i=m
 ·grind
 ·grind
def zdZ{c:J->M->V M}(hl:X p<=1000000)(n:2000000<fu)(h:∀j:K,j<X p->c (j:J) (p.getD j (I,[]))=Z (g j)):
 zH fu p c=Z ((xaN (X p)).map g):=by
 unfold zH;have e0:xaa (X p) ((I,[]):M)=(xaN (X p)).map (λk=>if k<0 then g k else(I,[])):=by
  rw[bg];rfl
 rw[yF,yW,S,e0,U];refine zA (λs:J×N M=>∃i:K,i<=X p/\s=((i:J),(xaN (X p)).map (λk=>if k<i then g k else(I,[])))) (λs=>X p-s.1.toNat) _ ?_ _ _ ⟨0,xan _,O⟩ (by show X p-0<fu;lia);rintro s L ⟨i,hi,rfl⟩ m;unfold ve;simp only;by_cases h1:i<X p
 ·rw[zX,U O];simp only[uP];rw[zo h1,S,U<|h i h1,zo (by simp;exact h1),S,map_set,zb];refine m _ ⟨i+1,W,?_⟩ (by show X p-((i:J)+1).toNat<X p-(i:J).toNat;lia);congr 1;refine xbZ λk d=> ?_;by_cases e:k=i
  ·rw[iq e,zX,e]
  ·rw[ir e];by_cases f:k<i
   ·rw[iq f,zX]
   ·rw[ir f,zB]
 ·rw[zB,U O];simp only[xao,uS];congr 1;refine xbZ λk d=> ?_;have:=xbg.1 d;rw[zX]
theorem zfQ(i:y6 k a)(d:y6 k b)(o:k+1<=100000)(hd:X b<=1000000)(m:3000000<=fu)(hl:X a<=X b):
 Y (zH fu b<|λe f=>uk fu e f a) (λt1=>Y (zM fu t1) λt2=>Z t2)=Z (wU (max (X a) (X b))<|λj=>cf a j+cf b j):=by
 have q:X (Aa a b)=X b:=by unfold Aa;simp
 have r:∀j,j<X b->(Aa a b).getD j (I,[])=if j<X a then yz (cf a j+cf b j)else b.getD j (I,[]):=λj c=>by unfold Aa;rw[zhq c]
 have hc:∀j,cf (Aa a b) j=cf a j+cf b j:=λj=>by
  by_cases c:j<X b
  ·conv=>lhs;unfold cf
   rw[r j c];by_cases h:j<X a
   ·rw[iq h,zn]
   ·rw[ir h,ye (p:=a) W,xcS];rfl
  ·rw[ye W,ye W,ye W];rfl
 have s:y6 (k+1) (Aa a b):=λz n=>by
  unfold Aa at n;obtain⟨j,c,rfl⟩:=xas.1 n;split
  ·exact⟨yx _,((i.bz j).add<|d.bz j).len⟩
  ·exact(d.mono<|xbH k).get j
 rw[U<|zdZ (g:=λj=>if j<X a then yz (cf a j+cf b j)else b.getD j (I,[])) hd W λj c=>Tr i d W m hd j c];show Y (zM fu<|Aa a b) _=_;rw[U<|zJ s o W m,q];congr 1;refine Xt (λj c=>ye W) (λj c=>W7 c) hc
theorem dQ(c:y6 k a)(d:y6 k b)(e:k+1<=100000)(hc:X a<=1000000)(hd:X b<=1000000)(f:3000000<=fu):
 qj fu a b=Z (wU (max (X a) (X b))<|λj=>cf a j+cf b j):=by grind [qj,zfQ]
theorem gY:Ju fu p (j:J)=Z (p.getD j (I,[])):=by grind [Ju,zo,S]
def cX(c:y6 k a)(d:y6 k b)(m:k+1<=100000)(hc:X a<=1000000)(hd:X b<=1000000)(e:3000000<=fu):
 Vq fu a b=Z (wU (max (X a) (X b))<|λj=>cf a j+cf b j):=by
 unfold Vq;have⟨n,hn⟩:∃n,n=max (X a) (X b):=⟨_,O⟩;have r:n<=1000000:=W
 have o:y6 (k+1) (zi n<|λj=>cf a j+cf b j):=Xf λj=>(c.bz j).add<|d.bz j;rw[U (v:=zi n<|λj=>cf a j+cf b j)]
 ·rw[U<|vO o m (by rw[yn];lia) e,yn,<-hn];congr 1;exact Xt (λj f=>ye<|by rw[yn];lia) (λj f=>W7)<|λj=>Kf (λj f=>W7) j
 ·refine zA (λs:N M×J=>∃i:K,i<=n/\s=(zi i<|λj=>cf a j+cf b j,(i:J))) (λs=>n-s.2.toNat) _ ?_ _ _ ⟨0,xan _,O⟩ (by show n-0<fu;lia);rintro s L ⟨i,hi,rfl⟩ q;unfold iL;simp only;rw[S];by_cases h1:i<n
  ·rw[zX,U gY,U gY,U<|dP (c.okZ W i) (d.okZ W i) e,Vd,Vd,w8 (by rw[yn];simp;lia),S,zb];exact q _ ⟨i+1,W,by rw[<-Bf];rfl⟩ (by show n-((i:J)+1).toNat<n-(i:J).toNat;lia)
  ·rw[zB];obtain rfl:i=n:=W
   rfl
def XZ{c:J}(h:X a<=k):cf a k*c=0:=by rw[ye h,xbd]
def gV.of{z:M}(h:zm z.2/\X z.2<=k)(c:k<=100000):gV z:=⟨h.1,xap h.2 c⟩
def jO{c:M}(e:y6 k a)(hc:zm c.2/\X c.2<=l)(i:k+l<=100000)(hd:X a<=1000000)(f:3000000<=fu):
 vZ fu a c=Z (wU (X a)<|λj=>cf a j*zv c):=by
 unfold vZ;have m:y6 (k+l) (zi (X a)<|λj=>cf a j*zv c):=Xf λj=>(e.bz j).mul<|(Bz.of hc.1).mono hc.2;rw[U<|BG hd W ?_]
 ·rw[U<|zJ m i (by rw[yn];lia) f,yn];congr 1;exact Xt (λj d=>ye<|by rw[yn];lia) (λj d=>XZ d)<|λj=>Kf (λj d=>XZ d) j
 ·intro j d;unfold VW;rw[U<|zV (e.okZ W j) (gV.of hc W) f,Vd]
theorem ry{c:M}(e:y6 k a)(hc:zm c.2/\X c.2<=l)(m:k+l<=100000)(hd:X a<=1000000)(f:3000000<=fu):
 WQ fu a c=Z (wU (X a)<|λj=>cf a j*zv c):=by
 unfold WQ;have n:y6 (k+l) (zi (X a)<|λj=>cf a j*zv c):=Xf λj=>(e.bz j).mul<|(Bz.of hc.1).mono hc.2;rw[U (v:=zi (X a)<|λj=>cf a j*zv c)]
 ·rw[U<|vO n m (by rw[yn];lia) f,yn];congr 1;exact Xt (λj d=>ye<|by rw[yn];lia) (λj d=>XZ d)<|λj=>Kf (λj d=>XZ d) j
 ·refine zA (λs:N M×J=>∃i:K,i<=X a/\s=(zi i<|λj=>cf a j*zv c,(i:J))) (λs=>X a-s.2.toNat) _ ?_ _ _ ⟨0,xan _,O⟩ (by show X a-0<fu;lia);rintro s L ⟨i,hi,rfl⟩ o;unfold b9;simp only;by_cases h1:i<X a
  ·rw[zX,zo h1,S,U<|b8 (e.okZ W i) (gV.of hc W) f,Vd,w8 (by rw[yn];simp;lia),S,zb];exact o _ ⟨i+1,W,by rw[<-Bf];rfl⟩ (by show X a-((i:J)+1).toNat<X a-(i:J).toNat;lia)
  ·grind
def aR(a b:N M):N M:=wU (max (X a) (X b))<|λj=>cf a j-cf b j
def xh{n:K}{f:K->J}(h:∀j,Bz k<|f j):y6 k (wU n f):=Xf h
theorem RN{m:K}(d:m=dg (λj=>cf b j* -1) (X b)):wU (max (X a) (X (wU (X b)<|λj=>cf b j* -1))) (λj=>cf a j+cf (wU (X b)<|λj=>cf b j* -1) j)=aR a b:=by
 have e:∀j,cf (wU (X b)<|λj=>cf b j* -1) j=cf b j* -1:=jW λj c=>XZ c;refine Xt (λj c=>W7 c) (λj c=> ?_)<|λj=> ?_
 ·rw[ye W,ye W];rfl
 ·grind
theorem Bz.one:∀{k:K},1<=k->Bz k (-1):=by grind [Bz]
def Za(e:y6 k a)(d:y6 k b)(i:k+2<=100000)(hc:X a<=1000000)(f:X b<=1000000)(c:3000000<=fu):
 kj fu a b=Z (aR a b):=by
 unfold kj;have hd:=qH (λj=>cf b j* -1) (X b);rw[U<|yi i0 c,U<|jO d ⟨yx _,(Bz.one<|IR _).len⟩ W f c,zn,U<|dQ (e.mono W) (xh λj=>(d.bz j).mul<|Bz.one<|IR _) W hc (by rw[xC];lia) c,RN O]
def Ep(e:y6 k a)(c:y6 k b)(i:k+2<=100000)(hc:X a<=1000000)(f:X b<=1000000)(d:3000000<=fu):
 Kh fu a b=Z (aR a b):=by
 unfold Kh;have hd:=qH (λj=>cf b j* -1) (X b);rw[U (iw i0),U<|ry c ⟨yx _,(Bz.one<|IR _).len⟩ W f d,zn,U<|cX (e.mono W) (xh λj=>(c.bz j).mul<|Bz.one<|IR _) W hc (by rw[xC];lia) d,RN O]
end
section
variable{kb ka fu:wr}{b a:xS Zr}
def Re(b:N M)(i k:K):J:=if i<=k then cf b (k-i)else 0
def YP(a b:N M):K->K->J
 |0,_=>0
 |n+1,k=>YP a b n k+cf a n*Re b n k
def Yb(a b:N M)(i j k:K):J:=YP a b i k+if i<=k/\k<i+j then cf a i*cf b (k-i)else 0
def y9(a b:N M):N M:=wU (X a+X b)<|YP a b (X a)
theorem zd6(c:y6 kb b)(i k:K):Bz kb (Re b i k):=by grind [Re,Bz.zero,y6.bz]
def n6{ka kb:K}{a b:N M}(c:y6 ka a)(d:y6 kb b):∀n k,Bz (ka+kb+n) (YP a b n k)
 |0,k=>Bz.zero _
 |n+1,k=>by
  have h:=((c.bz n).mul<|zd6 d n k).mono (W:ka+kb<=ka+kb+n);exact Bz.add (n6 c d n k) h
def Dz(c:y6 ka a)(d:y6 kb b)(i j k:K):Bz (ka+kb+i+1) (Yb a b i j k):=by
 refine Bz.add (n6 c d i k) ?_;split
 ·exact((c.bz i).mul<|d.bz _).mono W
 ·exact Bz.zero _
def N6{a b:N M}{k:K}:∀{n},n+X b<=k+1->YP a b n k=0
 |0,_=>rfl
 |n+1,h=>by
  unfold YP Re;rw[N6 W,zX,ye (p:=b) W,xaA];rfl
def Ux{k:K}(h:X a+X b<=k:=by lia):YP a b (X a) k=0:=N6 W
def ph(a b:N M)(i k:K):Yb a b i 0 k=YP a b i k:=by
 unfold Yb;lia
theorem om(a b:N M)(i k:K):Yb a b i (X b) k=YP a b (i+1) k:=by
 rw[show YP a b (i+1) k=YP a b i k+cf a i*Re b i k from O];unfold Yb Re;by_cases h:i<=k
 ·rw[iq h];by_cases c:k<i+X b
  ·lia
  ·rw[ir<|λe=>c e.2,ye (p:=b) W,xaA]
 ·grind
def pY(a b:N M)(i j k:K):Xh (Yb a b i j) (i+j) (Yb a b i j (i+j)+cf a i*cf b j) k=Yb a b i (j+1) k:=by
 unfold Xh;by_cases h:k=i+j
 ·subst h;unfold Yb;simp_all
 ·skip;unfold Yb;by_cases c:i<=k/\k<i+j
  ·lia
  ·lia
def wa(c:y6 ka a)(d:y6 kb b)(o:ka+kb+X a+1<=100000)(hc:X b<=100000)(g:3000000<=fu):wx fu a b=Z (y9 a b):=by
 unfold wx;rw[zb,(W:(X a:J)+(X b:J)=((X a+X b:K):J)),yF,yW,S,bg];have⟨n,hn⟩:∃n,n=X a+X b:=⟨_,O⟩;rw[<-hn,U (v:=zi n<|YP a b (X a))]
 ·rw[U<|zJ (Xf<|n6 c d (X a)) W (by rw[yn];lia) g,yn];congr 1;unfold y9;exact Xt (λj f=>ye<|by rw[yn];lia) (λj f=>Ux f)<|λj=>Kf (λj f=>Ux) j
 ·refine zA (λs:J×N M=>∃i:K,i<=X a/\s=((i:J),zi n<|YP a b i)) (λs=>X a-s.1.toNat) _ ?_ _ _ ⟨0,xan _,O⟩ (by show X a-0<fu;lia);rintro s L ⟨i,hi,rfl⟩ l;unfold iB;simp only;by_cases h1:i<X a
  ·rw[zX,U O];simp only[uP];rw[zo h1,S,U (v:=zi n<|YP a b<|i+1),zb]
   ·exact l _ ⟨i+1,W,O⟩ (by show X a-((i:J)+1).toNat<X a-(i:J).toNat;lia)
   ·refine zA (λs:J×N M×M=>∃j:K,j<=X b/\s=((j:J),zi n<|Yb a b i j,a.getD i (I,[]))) (λs=>X b-s.1.toNat) _ ?_ _ _ ⟨0,xan _,by rw[yZ λk _=>(ph a b i k).symm];rfl⟩ (by show X b-0<fu;lia);rintro s p ⟨j,f,rfl⟩ h;unfold iJ;simp only;by_cases m:j<X b
    ·rw[zX,U O];simp only[uP];have e:(i:J)+(j:J)=((i+j:K):J):=W
     have hp:=Dz c d i j<|i+j;rw[zo m,S,e,zb,zb,zo (by rw[yn];lia),S,ZY W,U<|zV (c.okZ W i) (d.okZ W j) g,Vd,Vd,U<|vY (hp.ok W) (((c.bz i).mul<|d.bz j).ok W) g,zn,zn,zo (by rw[yn];lia),S,aH,zb];exact h _ ⟨j+1,W,by rw[yZ λk _=>pY a b i j k];rfl⟩ (by show X b-((j:J)+1).toNat<X b-(j:J).toNat;lia)
    ·rw[zB,U O];simp only[xao,uS];obtain rfl:j=X b:=W
     rw[yZ λk _=>om a b i k]
  ·rw[zB,U O];simp only[xao,uS];obtain rfl:i=X a:=W
   rfl
def B4(c:y6 ka a)(d:y6 kb b)(o:ka+kb+X a+1<=100000)(hc:X b<=100000)(g:3000000<=fu):Km fu a b=Z (y9 a b):=by
 unfold Km;rw[zb,(W:(X a:J)+(X b:J)=((X a+X b:K):J)),yF,yW,S,bg];have⟨n,hn⟩:∃n,n=X a+X b:=⟨_,O⟩;rw[<-hn,U (v:=zi n<|YP a b (X a))]
 ·rw[U<|vO (Xf<|n6 c d (X a)) W (by rw[yn];lia) g,yn];congr 1;unfold y9;exact Xt (λj f=>ye<|by rw[yn];lia) (λj f=>Ux f)<|λj=>Kf (λj f=>Ux) j
 ·refine zA (λs:J×N M=>∃i:K,i<=X a/\s=((i:J),zi n<|YP a b i)) (λs=>X a-s.1.toNat) _ ?_ _ _ ⟨0,xan _,O⟩ (by show X a-0<fu;lia);rintro s L ⟨i,hi,rfl⟩ l;unfold iQ;simp only;by_cases h1:i<X a
  ·rw[zX,U (v:=(a,b,zi n<|YP a b<|i+1))]
   ·simp only;rw[zb];exact l _ ⟨i+1,W,O⟩ (by show X a-((i:J)+1).toNat<X a-(i:J).toNat;lia)
   ·refine zA (λs:N M×N M×J×N M=>∃j:K,j<=X b/\s=(a,b,(j:J),zi n<|Yb a b i j)) (λs=>X b-s.2.2.1.toNat) _ ?_ _ _ ⟨0,xan _,by rw[yZ λk _=>(ph a b i k).symm];rfl⟩ (by show X b-0<fu;lia);rintro s p ⟨j,f,rfl⟩ h;unfold ie;simp only;by_cases m:j<X b
    ·rw[zX];have e:(i:J)+(j:J)=((i+j:K):J):=W
     have hp:=Dz c d i j<|i+j;rw[e,zb,zb,zo (by rw[yn];lia),S,ZY W,zo h1,S,zo m,S,U<|b8 (c.okZ W i) (d.okZ W j) g,Vd,Vd,U<|dP (hp.ok W) (((c.bz i).mul<|d.bz j).ok W) g,zn,zn,zo (by rw[yn];lia),S,aH,zb];exact h _ ⟨j+1,W,by rw[yZ λk _=>pY a b i j k];rfl⟩ (by show X b-((j:J)+1).toNat<X b-(j:J).toNat;lia)
    ·rw[zB];obtain rfl:j=X b:=W
     rw[yZ λk _=>om a b i k]
  ·rw[zB];obtain rfl:i=X a:=W
   rfl
def Xj(c:y6 ka a)(d:y6 kb b):y6 (ka+kb+X a) (y9 a b):=xh<|n6 c d (X a)
theorem Ly(a b:N M)(k:K):cf (y9 a b) k=YP a b (X a) k:=jW (λj c=>Ux c) k
def ua(a b:N M):X (y9 a b)<=X a+X b:=by unfold y9;rw[xC];exact qH _ _
end
section
variable{f g:wr->wl}{fu k:wr}{a:xS Zr}{m:Zr}{a2:Zr->Zr->ww (Zr×wl)}
theorem BS{f g:K->J}:∀{n},(∀k,k<n->f k=g k)->dg f n=dg g n
 |0,_=>rfl
 |n+1,h=>by
  unfold dg;rw[h n W,BS λk b=>h k W]
theorem XY{n:K}(h:∀k,k<n->f k=g k):wU n f=wU n g:=by grind [wU,BS,qH,yZ]
def Cw{n:K}:wU n (cf<|zi n f)=wU n f:=XY λk b=>OV b
def Pa{l:K}{c:J}(n:eT m)(h0:0<zv m)(r:X a<=1000000)(hl:l<=100000)(o:∀j,Bz l<|g j)(b:3000000<=fu)(h:∀j,j<X a->a2 (a.getD j (I,[])) m=Z (yz<|g j,c)):
 qA fu a m a2=Z (wU (X a) g,0):=by
 unfold qA;rw[U<|xe n.ok b,ir (λe=>by have:=Lq.1 e;lia),yF,yW,S,bg,U (v:=zi (X a) g)]
 ·rw[U<|zJ (Xf o) hl (by rw[yn];lia) b,yn,Cw]
 ·refine zA (λs:J×N M=>∃i:K,i<=X a/\s=((i:J),zi (X a) (λk=>if k<i then g k else 0))) (λs=>X a-s.1.toNat) _ ?_ _ _ ⟨0,xan _,by rw[yZ (g:=λk=>if k<0 then g k else 0)<|λk _=>by rw[zB]];rfl⟩ (by show X a-0<fu;lia);rintro s L ⟨i,hi,rfl⟩ p;unfold UF;simp only;by_cases h1:i<X a
  ·rw[zX,U O];simp only[uP];rw[zo h1,S,U<|h i h1];simp only;rw[zo (by rw[yn];exact h1),S,aH,zb];refine p _ ⟨i+1,W,?_⟩ (by show X a-((i:J)+1).toNat<X a-(i:J).toNat;lia);congr 1;refine yZ λk q=> ?_;unfold Xh;by_cases e:k=i
   ·rw[iq e,zX,e]
   ·rw[ir e];show(if k<i then g k else 0)=_;by_cases d:k<i
    ·rw[iq d,zX]
    ·rw[ir d,zB]
  ·rw[zB,U O];simp only[xao,uS];congr 1;exact yZ λk q=>by rw[zX]
theorem Hf(b:eT m)(h0:zv m<=0)(c:3000000<=fu):qA fu a m a2=Z ([],1):=by grind [qA,U,xe,eT.ok,Lq]
def vH(a:N M)(m:J):N M:=wU (X a)<|λj=>cf a j%m
def pW(a:N M)(m:J):N M:=wU (X a)<|λj=>near (cf a j) m
def zcN(a:N M)(m:J):N M×J:=if m<=0 then([],1)else(vH a m,0)
def Tu(a:N M)(m:J):N M×J:=if m<=0 then([],1)else(pW a m,0)
def eT.bz{z:M}(h:eT z):Bz 40000 (zv z):=(Bz.of h.1).mono h.2
theorem bN(e:y6 k a)(h:k<=40000)(b:eT m)(hc:X a<=1000000)(d:3000000<=fu):Xq fu a m=Z (zcN a<|zv m):=by
 unfold Xq zcN;by_cases h0:zv m<=0
 ·rw[U<|Hf b h0 d,iq h0]
 ·have⟨K,i⟩:∃K,K=40000:=⟨_,O⟩;have l:Bz K (zv m):=by rw[i];exact b.bz
  rw[ir h0,U<|Pa (c:=0) b W hc (W:K<=100000) (λj=>l.emod W) d λj n=> ?_]
  ·rfl
  ·show qT fu _ _=_;rw[Yc (e.okS h j) b d];unfold Gi;rw[ir h0];rfl
def s9(e:y6 k a)(h:k<=40000)(b:eT m)(hc:X a<=1000000)(d:3000000<=fu):WU fu a m=Z (Tu a<|zv m):=by
 unfold WU Tu;by_cases h0:zv m<=0
 ·rw[U<|Hf b h0 d,iq h0]
 ·have⟨K,i⟩:∃K,K=40000:=⟨_,O⟩;have l:Bz K (zv m):=by rw[i];exact b.bz
  rw[ir h0,U<|Pa (c:=0) b W hc (W:K<=100000) (λj=>l.near W) d λj n=> ?_]
  ·rfl
  ·show Y7 fu _ _=_;rw[AH (e.okS h j) b d];unfold zhO;rw[ir h0];rfl
def Aq{c d:K}{b:N M}(e:y6 c a)(h:y6 d b)(l:c+d+X a+1<=40000)(hc:X b<=40000)(j:eT m)(i:3000000<=fu):QQ fu a b m=Z (zcN (y9 a b)<|zv m):=by
 unfold QQ;have:=ua a b;rw[U<|wa e h W W i,U<|bN (Xj e h) W j W i]
end
section
def O9(n:K)(f:K->J):wU (X (wU n f)) (cf<|wU n f)=wU n f:=by
 have e:∀k,k<dg f n->cf (wU n f) k=f k:=λk a=>OV a;have h:dg (cf<|wU n f) (X (wU n f))=dg f n:=by
  rw[xC];refine KD (IR _) (λk h1 b=>by lia) ?_;by_cases h0:dg f n=0
  ·lia
  ·right;rw[e _ W];exact Qb f n h0
 show zi (dg (cf<|wU n f) (X (wU n f))) (cf<|wU n f)=wU n f;rw[h];exact yZ e
theorem zfV{p:N M}(h:p=wU (X p) (cf p)):p=zi (X p) (cf p):=by grind [wU,xC]
def Xp{p:N M}(h:p=wU (X p) (cf p))(h0:X p≠0):cf p (X p-1)≠0:=by grind [xC,Qb]
def Dw{p:N M}(h:p=wU (X p) (cf p)){j:K}(a:j<X p:=by lia):p.getD j (I,[])=yz (cf p j):=by grind [zfV,ZY]
def QX(n:K)(f:K->J):wU n f=wU (X (wU n f)) (cf<|wU n f):=(O9 n f).symm
def Ib{p:N M}(h:p=wU (X p) (cf p)){l:K}(a:∀k,l<=k->cf p k=0):X p<=l:=by
 refine xbz λb=> ?_;exact Xp h W<|a _ W
def dvF(r d:N M)(m:J)(qn:K):K->K->J
 |0=>cf r
 |s+1=>λk=>dvF r d m qn s k-(dvF r d m qn s (qn-(s+1)+(X d-1))%m)*Re d (qn-(s+1)) k
def EA(r d:N M)(m:J)(qn i:K):K->J:=dvF r d m qn<|qn-i
def dvC(r d:N M)(m:J)(qn i:K):J:=EA r d m qn (i+1) (i+(X d-1))%m
section
variable{r d:xS Zr}{m:wl}{qn:wr}
def BD:EA r d m qn qn=cf r:=by unfold EA;rw[xcD];rfl
theorem Dc{i:K}(h:i<qn)(k:K):EA r d m qn i k=EA r d m qn (i+1) k-dvC r d m qn i*Re d i k:=by
 unfold dvC EA;have⟨s,a⟩:∃s,s=qn-(i+1):=⟨_,O⟩;rw[(W:qn-i=s+1)];show dvF r d m qn s k-(dvF r d m qn s (qn-(s+1)+(X d-1))%m)*Re d (qn-(s+1)) k=_;grind
def LR{K:wr}(a:y6 K r)(hd:y6 K d)(b:Bz K m)(h0:0<m):∀s k,Bz (2*K+s) (dvF r d m qn s k)
 |0,k=>(a.bz k).mono W
 |s+1,k=>by
  have h:=((Bz.emod (x:=dvF r d m qn s<|qn-(s+1)+(X d-1)) b h0).mul<|zd6 hd (qn-(s+1)) k).mono (W:K+K<=2*K+s);exact Bz.sub (LR a hd b h0 s k) h
def SM{K:wr}(a:Bz K m)(h0:0<m)(i:wr):Bz K (dvC r d m qn i):=Bz.emod a h0
end
def Y2{fu k:K}{a:N M}{m:M}(b:y6 k a)(c:k<=40000)(d:eT m)(h0:0<zv m)(hc:X a<=1000000:=by lia)(e:3000000<=fu:=by lia):xp fu a m=Z (vH a<|zv m):=by grind [xp,zcN,U,bN]
def au{K:wr}{a:N M}{m:J}(b:Bz K m)(h0:0<m):y6 K (vH a m):=xh λj=>Bz.emod b h0
theorem YQ(a:N M)(m:J):X (vH a m)<=X a:=by unfold vH;rw[xC];exact qH _ _
def uz(a:N M)(m:J)(k:K):cf (vH a m) k=cf a k%m:=jW (λj b=>by rw[ye b,xau]) k
def U1(a:N M)(m:J):vH a m=wU (X (vH a m)) (cf<|vH a m):=QX _ _
def dvQ(r d:N M)(m:J)(qn:K):K->J:=λk=>if k<qn then dvC r d m qn k else 0
def ET(r d:N M)(m:J):N M:=wU (X r+1-X d)<|λk=>dvQ r d m (X r+1-X d) k%m
def WA(r d:N M)(m:J):N M:=wU (X r)<|λk=>EA r d m (X r+1-X d) 0 k%m
def Au(r d:N M)(m:J)(qn i j:K):K->J:=λk=>EA r d m qn (i+1) k-if i<=k/\k<i+j then dvC r d m qn i*cf d (k-i)else 0
def zb5{r d:N M}{m:J}{qn i k:K}:Au r d m qn i 0 k=EA r d m qn (i+1) k:=by
 unfold Au;lia
def zb7{r d:N M}{m:J}{qn i:K}(h:i<qn)(k:K):Au r d m qn i (X d) k=EA r d m qn i k:=by
 rw[Dc h];unfold Au Re;by_cases h:i<=k
 ·rw[iq h];by_cases a:k<i+X d
  ·lia
  ·rw[ir<|λe=>a e.2,ye W,xaA]
 ·grind
def zdb(r d:N M)(m:J)(qn i j k:K):Xh (Au r d m qn i j) (i+j) (Au r d m qn i j (i+j)-dvC r d m qn i*cf d j) k=Au r d m qn i (j+1) k:=by
 unfold Xh;by_cases h:k=i+j
 ·subst h;unfold Au;simp_all
 ·skip;unfold Au;by_cases a:i<=k/\k<i+j
  ·lia
  ·lia
def zjf{K:wr}{r d:N M}{m:J}{qn i j:wr}(b:y6 K r)(hd:y6 K d)(a:Bz K m)(h0:0<m)(h:i<qn)(k:wr):Bz (2*K+qn+1) (Au r d m qn i j k):=by
 refine Bz.sub ((LR b hd a h0 _ k).mono W) ?_;split
 ·exact((SM a h0 i).mul<|hd.bz _).mono W
 ·exact Bz.zero _
def zcw{fu K n i qn:wr}{r d:N M}{m:M}{q:wr->J}(c:y6 K r)(hd:y6 K d)(a:Bz K (zv m))(h0:0<zv m)(hn:X r=n)(o:qn=n+1-X d)(p:0<X d)(hi:i<qn)(t:2*K+n+5<=40000)(g:q i=dvC r d (zv m) qn i)(b:3000000<=fu):
 zg (Yj fu d (i:J)) fu (d,m,0,zi n<|EA r d (zv m) qn<|i+1,zi qn q)=Z (d,m,zi n<|EA r d (zv m) qn i,zi qn q):=by
 refine zA (λs:N M×M×J×N M×N M=>∃j:wr,j<=X d/\s=(d,m,(j:J),zi n<|Au r d (zv m) qn i j,zi qn q)) (λs=>X d-s.2.2.1.toNat) _ ?_ _ _ ⟨0,xan _,by rw[yZ (f:=Au r d (zv m) qn i 0) λk _=>zb5];rfl⟩ (by show X d-0<fu;lia);rintro s L ⟨j,u,rfl⟩ h;unfold Yj;simp only;by_cases l:j<X d
 ·rw[zX,U O];simp only[uP];have e:(i:J)+(j:J)=((i+j:wr):J):=W
  have hp:=zjf (j:=j) c hd a h0 hi<|i+j;have hc:=SM (r:=r) (d:=d) (qn:=qn) a h0 i;rw[zo l,S,e,zb,zb,zo (by rw[yn];lia),S,ZY W,zo (by rw[yn];lia),S,ZY hi,g,U<|zV (hc.ok W) (hd.okZ W j) b,Vd,zn,U<|qi (hp.ok W) ((hc.mul<|hd.bz j).ok W) b,zn,zn,zo (by rw[yn];lia),S,aH,zb];exact h _ ⟨j+1,W,by rw[yZ λk _=>zdb r d (zv m) qn i j k];rfl⟩ (by show X d-((j:J)+1).toNat<X d-(j:J).toNat;lia)
 ·rw[zB,U O];simp only[xao,uS];obtain rfl:j=X d:=W
  rw[yZ λk _=>zb7 hi k]
def Il{fu K n qn:wr}{r d:N M}{m:M}(a:y6 K r)(j:r=zi n (cf r))(hd:y6 K d)(b:Bz K (zv m))(hc:zm m.2)(v:X m.2<=K)(h0:0<zv m)(hn:X r=n)(l:qn=n+1-X d)(o:0<X d)(p:2*K+n+5<=40000)(w:X d<=1000000)(c:3000000<=fu):
 zg (Yk fu d m) fu ((qn:J)-1,r,xaa qn (I,[]))=Z (zi n<|EA r d (zv m) qn 0,zi qn<|dvQ r d (zv m) qn):=by
 refine zA (λs:J×N M×N M=>∃i:wr,i<=qn/\s=((i:J)-1,zi n<|EA r d (zv m) qn i,zi qn (λk=>if i<=k then dvC r d (zv m) qn k else 0))) (λs=>(s.1+1).toNat) _ ?_ _ _ ⟨qn,IR _,?_⟩ (by show((qn:J)-1+1).toNat<fu;lia)
 ·rintro s L ⟨i,hi,rfl⟩ t;unfold Yk;simp only
  cases i with
  |zero=>
   have e0:(zi qn λk=>if 0<=k then dvC r d (zv m) qn k else 0)=zi qn (dvQ r d (zv m) qn):=yZ λk e=>by
    rw[iq<|xan _];unfold dvQ;lia
   rw[zB,e0]
  |succ i=>
   have e1:((i+1:wr):J)-1=(i:J):=W
   have u:(i:J)+(X d:J)-1=((i+(X d-1):wr):J):=W
   have hp:Bz (2*K+qn) (EA r d (zv m) qn (i+1)<|i+(X d-1)):=(LR a hd b h0 _ _).mono W;rw[e1,zX,zb,u,zb,zo (by rw[yn];lia),S,ZY W,U<|Yc (hp.okS W) ⟨hc,W⟩ c,zn];unfold Gi;rw[zB];simp only;rw[zo (by rw[yn];lia),S,aH,U<|zcw (q:=Xh (λk=>if i+1<=k then dvC r d (zv m) qn k else 0) i<|EA r d (zv m) qn (i+1) (i+(X d-1))%zv m) a hd b h0 hn l o W p ?_ c]
   ·simp only;rw[zb];refine t _ ⟨i,W,?_⟩ (by show((i:J)-1+1).toNat<(((i+1:wr):J)-1+1).toNat;lia);congr 2;refine yZ λk e=> ?_;unfold Xh;by_cases h:k=i
    ·rw[iq h,zX,h];rfl
    ·rw[ir h];show(if i+1<=k then _ else _)=_;by_cases f:i+1<=k
     ·rw[iq f,zX]
     ·rw[ir f,zB]
   ·unfold Xh;rw[iq O];rfl
 ·rw[BD,<-j,bg,yZ (g:=λk=>if qn<=k then dvC r d (zv m) qn k else 0) λk e=>by rw[zB]]
def QA{fu k K:wr}{a d:N M}{m:M}(i:y6 k a)(b:k<=40000)(hd:y6 K d)(e:zm m.2)(hi:X m.2<=K)(h0:0<zv m)(l:0<X d)(s:2*K+X a+5<=40000)(hn:X d<=1000000)(o:3000000<=fu):
 jK fu a d m=Z (ET (vH a<|zv m) d<|zv m,WA (vH a<|zv m) d<|zv m):=by
 unfold jK;have c:Bz K (zv m):=(Bz.of e).mono hi;have f:eT m:=⟨e,W⟩;have g:=au (a:=a) c h0;have hl:=YQ a<|zv m;have hc:=zfV<|U1 a<|zv m;rw[U<|Y2 i b f h0];generalize vH a (zv m)=r at*
 have⟨qn,h⟩:∃qn,qn=X r+1-X d:=⟨_,O⟩;have e1:max ((X r:J)-(X d:J)+1) 0=(qn:J):=W
 rw[zb,zb,S,e1,yF,yW,S,xaM,zb,U<|Il g hc hd c e hi h0 O h l W hn o];simp only;have p:∀j,Bz K (dvQ r d (zv m) qn j):=λj=>by
  unfold dvQ;split
  ·exact SM c h0 j
  ·exact Bz.zero _
 have q:∀j,Bz (2*K+qn) (EA r d (zv m) qn 0 j):=λj=>(LR g hd c h0 _ _).mono W;rw[U (Y2 (Xf p) W f h0<|by rw[yn];lia),U<|Y2 (Xf q) W f h0<|by rw[yn];lia];unfold ET WA vH;rw[<-h,yn,yn,XY λk b=>by rw[OV b],XY (n:=X r) λk b=>by rw[OV b]]
end
def mono(i:K)(c:J):K->J:=λk=>if k=i then c else 0
def zbG(i:K)(c:J)(k:K):cf (zi (i+1)<|mono i c) k=mono i c k:=by grind [mono,Kf]
def HA{d:N M}{i:K}{c:J}(k:K):∀n,n<=i->YP (zi (i+1)<|mono i c) d n k=0
 |0,_=>rfl
 |n+1,h=>by
  unfold YP;rw[HA k n W,zbG];unfold mono;grind
def zcs(d:N M)(i:K)(c:J)(k:K):cf (y9 (zi (i+1)<|mono i c) d) k=c*Re d i k:=by simp_all [mono,YP,Ly,yn,HA,zbG]
def zaD(a b:N M)(k:K):cf (aR a b) k=cf a k-cf b k:=jW (λj c=>by rw[ye W,ye W];rfl) k
def UJ(a b:N M):X (aR a b)<=max (X a) (X b):=by unfold aR;rw[xC];exact qH _ _
def Bq{k:K}{a b:N M}(c:y6 k a)(d:y6 k b):y6 (k+1) (aR a b):=xh λj=>(c.bz j).sub<|d.bz j
def Bz.one':∀{k:K},1<=k->Bz k 1:=by grind [Bz]
def zfG{a b:N M}(hl:X a=X b)(h:∀j,j<X a->a.getD j (I,[])=b.getD j (I,[])):a=b:=by grind [xeI]
def HD{d:N M}(h:X d≠0:=by lia):d.drop (X d-1)=[d.getD (X d-1) (I,[])]:=by grind [xcb]
def DH{l:N K}(h:(Ty.l .u).ok l):zm l:=λx a=>h.2 x a
def zjt{p:N M}(h:(Ty.l (.p .b (.l .u))).ok p){k:K}(c:∀z∈p,X z.2<=k):y6 k p:=λz a=>⟨DH (h.2 z a).2,c z a⟩
def zce{l:N M}{i:K}(h:i<X l):l.getD i (I,[])∈l:=by grind
def zfI{l:N M}{q:M->Prop}(h:∀j,j<X l->q (l.getD j (I,[]))):∀z∈l,q z:=by grind [xcE]
section
def GY{a b:N M}(k:K):∀c,YP a b (X a+c) k=YP a b (X a) k
 |0=>rfl
 |c+1=>by
  show YP a b (X a+c) k+cf a (X a+c)*Re b (X a+c) k=_;rw[GY k c,ye W,xbd,xcd]
def Pq{a b:N M}{n:K}(h:X a<=n)(k:K):YP a b n k=YP a b (X a) k:=by
 have:=GY (a:=a) (b:=b) k<|n-X a;simp_all
def DW{a b:N M}{m:J}(h:∀k,cf a k%m=cf b k%m):vH a m=vH b m:=by grind [vH,Xt,ye,xau]
section
variable{r d:xS Zr}{m:wl}
theorem zat{qn:K}{q:N M}(a:∀j,j<qn->cf q j=dvC r d m qn j)(k:K):∀n,n<=qn->EA r d m qn n k=EA r d m qn 0 k+YP q d n k
 |0,_=>by show _=_+0;lia
 |n+1,h=>by
  have b:=zat a k n W;rw[Dc W]at b;show _=_+(YP q d n k+cf q n*Re d n k);grind
def za0(j:K):cf (ET r d m) j=dvQ r d m (X r+1-X d) j%m:=jW (λk a=>by unfold dvQ;rw[zB,xau]) j
def Ey{qn:K}(hn:X r<=qn+(X d-1))(a:0<X d)(hc:cf d (X d-1)=1):∀c i k,i+c=qn->i+(X d-1)<=k->EA r d m qn i k%m=0
 |0,i,k,hi,b=>by
  obtain rfl:i=qn:=W
  rw[BD,ye W,xau]
 |c+1,i,k,hi,b=>by
  rw[Dc W];by_cases h:k=i+(X d-1)
  ·unfold Re dvC;simp_all
  ·have e:=Ey hn a hc c (i+1) k W W;unfold Re;rw[zX,ye W,xaA,xdi];exact e
def me(h:X r<=X r+1-X d+(X d-1))(a:0<X d)(hc:cf d (X d-1)=1)(k:K):cf (WA r d m) k=EA r d m (X r+1-X d) 0 k%m:=
 jW (λj b=>by
  by_cases c:X d<=X r
  ·exact Ey h a hc _ 0 j (xaK _) W
  ·rw[(W:X r+1-X d=0),BD,ye b,xau]) k
def EP(a:0<X d)(hc:cf d (X d-1)=1):X (WA r d m)<X d:=by
 have h:X (WA r d m)<=X d-1:=Ib (QX _ _) λk b=>by
  rw[show wU (X r) (λk=>EA r d m (X r+1-X d) 0 k%m)=WA r d m from O,me W a hc];exact Ey W a hc _ 0 k (xaK _) W
 lia
end
end
section
variable{m:wl}
def yh:K->(K->J)->J
 |0,_=>0
 |n+1,f=>yh n f+f n
def yr{f g:K->J}:∀{n},(∀k,k<n->f k=g k)->yh n f=yh n g
 |0,_=>rfl
 |n+1,h=>by
  show yh n f+f n=yh n g+g n;rw[yr λk a=>h k W,h n W]
def YU(f g:K->J):∀n,yh n (λk=>f k+g k)=yh n f+yh n g
 |0=>rfl
 |n+1=>by
  show yh n _+(f n+g n)=yh n f+f n+(yh n g+g n);rw[YU f g n];lia
theorem Zb(c:J)(f:K->J):∀n,yh n (λk=>c*f k)=c*yh n f
 |0=>by show 0=c*0;lia
 |n+1=>by
  show yh n _+c*f n=c*(yh n f+f n);rw[Zb c f n,xfE]
theorem zc0(c:J)(f:K->J)(n:K):yh n (λk=>f k*c)=yh n f*c:=by grind [Zb,xbE]
def yL:∀{n}{f:K->J},(∀k,k<n->f k=0)->yh n f=0
 |0,_,_=>rfl
 |n+1,f,h=>by
  show yh n f+f n=0;rw[yL λk a=>h k W,h n W];rfl
def Zi(f:K->J):∀n,yh (n+1) f=f 0+yh n (λk=>f<|k+1)
 |0=>by show 0+f 0=f 0+0;lia
 |n+1=>by
  show yh (n+1) f+f (n+1)=f 0+(yh n _+f (n+1));rw[Zi f n];lia
def O6(f:K->J):∀n,yh (n+1) f=yh (n+1) (λk=>f<|n-k)
 |0=>rfl
 |n+1=>by
  rw[Zi (λk=>f<|n+1-k)<|n+1];show yh (n+1) f+f (n+1)=f (n+1-0)+_;rw[O6 f n,Nat.sub_zero,yr (f:=λk=>f<|n+1-(k+1)) λk _=>by rw[(W:n+1-(k+1)=n-k)]];lia
def Mx{f:K->J}{n:K}(h:∀k,n<=k->f k=0):∀c,yh (n+c) f=yh n f
 |0=>rfl
 |c+1=>by
  show yh (n+c) f+f (n+c)=_;rw[Mx h c,h _ W];lia
theorem Ow(G:K->K->J):∀n,yh n (λi=>yh (i+1)<|λj=>G j<|i-j)=yh n (λj=>yh (n-j)<|λl=>G j l)
 |0=>rfl
 |n+1=>by
  show yh n _+yh (n+1) (λj=>G j<|n-j)=yh n _+yh (n+1-n) (λl=>G n l);rw[Ow G n,yr (f:=λj=>yh (n+1-j)<|λl=>G j l) (g:=λj=>yh (n-j) (λl=>G j l)+G j (n-j)) λj a=>by rw[(W:n+1-j=(n-j)+1)];rfl,YU,(W:n+1-n=1)];show _+(yh n (λj=>G j<|n-j)+G n (n-n))=_+(0+G n 0);grind
abbrev Pz:=K->J
instance:_root_.Add Pz:=⟨λf g k=>f k+g k⟩
instance:_root_.Sub Pz:=⟨λf g k=>f k-g k⟩
instance:_root_.Neg Pz:=⟨λf k=> -f k⟩
instance:_root_.Mul Pz:=⟨λf g k=>yh (k+1)<|λi=>f i*g (k-i)⟩
def pc(c:J):Pz:=λk=>if k=0 then c else 0
theorem zU(f g:Pz)(k:K):(f+g) k=f k+g k:=O
theorem yX(f g:Pz)(k:K):(f-g) k=f k-g k:=O
theorem zbw(f:Pz)(k:K):(-f) k= -f k:=O
theorem wI(f g:Pz)(k:K):(f*g) k=yh (k+1) (λi=>f i*g (k-i)):=O
theorem zk(f g:Pz):f*g=g*f:=by
 funext k;rw[wI,O6];exact yr λi hi=>by rw[(W:k-(k-i)=i),xbE]
theorem wC(f g h:Pz):f*(g+h)=f*g+f*h:=by
 funext k;rw[zU,wI,wI,wI,<-YU];exact yr λi _=>by rw[zU,xfE]
theorem yR(f g h:Pz):(f+g)*h=f*h+g*h:=by grind [zk,wC]
theorem zdk(f g:Pz):f*(-g)= -(f*g):=by grind [zbw,yh,wI,Zb]
theorem N2(f g:Pz):f-g=f+ -g:=by
 rfl
theorem qp(f g h:Pz):f*(g-h)=f*g-f*h:=by grind [N2,wC,zdk]
theorem jU(f g h:Pz):(f-g)*h=f*h-g*h:=by grind [zk,qp]
theorem zd(f g h:Pz):f*g*h=f*(g*h):=by
 funext k;have e1:(f*g*h) k=yh (k+1) (λi=>yh (i+1)<|λj=>(λj l=>f j*g l*h (k-(j+l))) j<|i-j):=by
  rw[wI];refine yr λi hi=> ?_;rw[wI,<-zc0];exact yr λj a=>by grind
 rw[e1,Ow<|λj l=>f j*g l*h (k-(j+l)),wI];refine yr λj a=> ?_;rw[wI,<-Zb,(W:k+1-j=k-j+1)];exact yr λl hl=>by
  show f j*g l*h (k-(j+l))=f j*(g l*h (k-j-l));rw[(W:k-(j+l)=k-j-l),xdc]
theorem zD(f g h:Pz):f*(g*h)=g*(f*h):=by grind [zd,zk]
theorem zN(c:J)(f:Pz)(k:K):(pc c*f) k=c*f k:=by simp_all [pc,wI,Zi,yL]
def zC(f:Pz):pc 1*f=f:=by funext k;rw[zN,xdg]
def yu(f:Pz):pc 0*f=pc 0:=by
 funext k;rw[zN,xbd];unfold pc;split<;>rfl
def zQ(k:K):pc 0 k=0:=by unfold pc;split<;>rfl
def kf(a b:J):pc a*pc b=pc (a*b):=by
 funext k;rw[zN];unfold pc;split
 ·rfl
 ·lia
def Cg(m:J)(f g:Pz):Prop:=∀k,f k%m=g k%m
def Cg.rfl{f:Pz}:Cg m f f:=λ_=>Eq.refl _
def Cg.of{f g:Pz}(h:f=g):Cg m f g:=λ_=>by rw[h]
def Cg.symm{m:J}{f g:Pz}(h:Cg m f g):Cg m g f:=λk=>(h k).symm
def Cg.trans{m:J}{f g h:Pz}(h1:Cg m f g)(a:Cg m g h):Cg m f h:=λk=>(h1 k).trans<|a k
def Cg.add{f f' g a:Pz}(h1:Cg m f f')(b:Cg m g a):Cg m (f+g) (f'+a):=λk=>by
 rw[zU,zU,xei,h1,b,<-xei]
def Cg.sub{f f' g a:Pz}(h1:Cg m f f')(b:Cg m g a):Cg m (f-g) (f'-a):=λk=>by
 rw[yX,yX,Int.sub_emod,h1,b,<-Int.sub_emod]
def gl{m:J}{f g:K->J}:∀{n},(∀k,k<n->f k%m=g k%m)->yh n f%m=yh n g%m
 |0,_=>Eq.refl _
 |n+1,h=>by
  show(yh n f+f n)%m=(yh n g+g n)%m;rw[xei,gl λk a=>h k W,h n W,<-xei]
def Cg.mul{f f' g a:Pz}(h1:Cg m f f')(b:Cg m g a):Cg m (f*g) (f'*a):=λk=>by
 exact gl λi _=>by rw[xci,h1,b,<-xci]
def Cg.down{n:J}{f g:Pz}(h:Cg m f g)(hd:n∣m):Cg n f g:=λk=>by
 have:=h k;rw[<-xcF (f k) hd,this,xcF _ hd]
def Cg.dvd{f:Pz}(h:Cg m f (pc 0))(k:K):m∣f k:=xaH<|by rw[h,zQ,xau]
def Cg.of_dvd{f:Pz}(h:∀k,m∣f k):Cg m f (pc 0):=λk=>by rw[zQ,xau,xaz<|h k]
def dc{m:J}{f:K->J}:∀{n},(∀k,k<n->m∣f k)->m∣yh n f
 |0,_=>xdM _
 |n+1,h=>Int.dvd_add (dc λk a=>h k W)<|h n W
def Cg.mul_zero{n:J}{f g:Pz}(a:Cg m f (pc 0))(b:Cg n g (pc 0)):Cg (m*n) (f*g) (pc 0):=Cg.of_dvd λk=>by
 exact dc λi _=>xga (a.dvd i)<|b.dvd _
def Cg.mul_zero_l{f:Pz}(g:Pz)(a:Cg m f (pc 0)):Cg m (g*f) (pc 0):=by
 have:=(Cg.rfl (f:=g)).mul a;rw[zk g<|pc 0,yu]at this;lia
def Cg.iff_sub{f g:Pz}:Cg m f g↔Cg m (f-g) (pc 0):=by
 constructor
 ·intro h;refine Cg.of_dvd λk=> ?_;exact xaH<|xaO.1<|h k
 ·intro h k;have:=xaz<|h.dvd k;exact xaO.2 this
end
section
variable{m:wl}{f g h s t:Pz}
theorem yf(f:Pz):f*pc 1=f:=by rw[zk,zC]
def zix(f g h s t e q:Pz):f-(g+(t*e+q*g))*(h+(s*e-q*h))=(f-g*h-e)+(e*(pc 1-(s*g+t*h))-(t*s)*(e*e)+(t*h-g*s)*(q*e)+(g*h)*(q*q)):=by
 simp only[wC,qp,yf,zD,zk];funext k;simp only[zU,yX];lia
def zfH(g h s t b c:Pz):(s-(s*b-c*h))*g+(t-(t*b+c*g))*h-pc 1=(s*g+t*h-pc 1-b)-(s*g+t*h-pc 1-b)*b-b*b:=by
 simp only[wC,qp,yf,zD,zk];funext k;simp only[zU,yX];lia
def Cg.zero_add(a:Cg m f (pc 0))(b:Cg m g (pc 0)):Cg m (f+g) (pc 0):=Cg.of_dvd λk=>by skip;exact Int.dvd_add (a.dvd k)<|b.dvd k
def Cg.zero_sub(a:Cg m f (pc 0))(b:Cg m g (pc 0)):Cg m (f-g) (pc 0):=Cg.of_dvd λk=>by skip;exact xdB (a.dvd k)<|b.dvd k
def Cg.mul_zero_r(g:Pz)(a:Cg m f (pc 0)):Cg m (f*g) (pc 0):=by rw[zk];exact a.mul_zero_l g
def zd4{n:J}(b:m∣n*n)(hn:n∣m){e q r d i:Pz}(h1:Cg n f (g*h))(p:Cg n (s*g+t*h) (pc 1))(j:Cg m e (f-g*h))(hd:Cg m (s*e) (q*h+r))(c:Cg n q (pc 0))(v:Cg n r (pc 0))(l:Cg m d (g+(t*e+q*g)))(o:Cg m i (h+r)):
 Cg m f (d*i)/\Cg n d g/\Cg n i h:=by
 have a:Cg n e (pc 0):=(j.down hn).trans<|Cg.iff_sub.1 h1;have hc:Cg m r (s*e-q*h):=by
  refine Cg.iff_sub.2<|Cg.of_dvd λk=> ?_;have:=(Cg.iff_sub.1 hd).dvd k;simp only[zU,yX]at this⊢;have e1:r k-((s*e) k-(q*h) k)= -((s*e) k-((q*h) k+r k)):=W
  simp_all
 refine⟨?_,?_,?_⟩
 ·refine Cg.trans ?_<|Cg.symm<|l.mul<|o.trans<|Cg.rfl.add hc;refine Cg.iff_sub.2 ?_;rw[zix];have u:Cg m (f-g*h-e) (pc 0):=Cg.iff_sub.1 j.symm;have z2:Cg n (pc 1-(s*g+t*h)) (pc 0):=Cg.iff_sub.1 p.symm;exact u.zero_add ((((a.mul_zero z2).down b).zero_sub<|((a.mul_zero a).down b).mul_zero_l _).zero_add (((c.mul_zero a).down b).mul_zero_l _)|>.zero_add (((c.mul_zero c).down b).mul_zero_l _))
 ·refine(l.down hn).trans<|Cg.iff_sub.2 ?_;have e1:g+(t*e+q*g)-g=t*e+q*g:=by
   funext k;simp only[zU,yX];lia
  rw[e1];exact(a.mul_zero_l t).zero_add<|c.mul_zero_r g
 ·refine(o.down hn).trans<|Cg.iff_sub.2 ?_;have e1:h+r-h=r:=by
   funext k;simp only[zU,yX];lia
  simp_all
def zdQ{n:J}(o:m∣n*n)(hn:n∣m){b c d a e:Pz}(p:Cg n (s*g+t*h) (pc 1))(i:Cg m b (s*g+t*h-pc 1))(hd:Cg m (s*b) (c*h+d))(q:Cg m a (s-d))(ht:Cg m e (t-(t*b+c*g))):
 Cg m (a*g+e*h) (pc 1):=by
 have j:=(i.down hn).trans<|Cg.iff_sub.1 p;have hc:Cg m d (s*b-c*h):=by
  refine Cg.iff_sub.2<|Cg.of_dvd λk=> ?_;have:=(Cg.iff_sub.1 hd).dvd k;simp only[zU,yX]at this⊢;have e1:d k-((s*b) k-(c*h) k)= -((s*b) k-((c*h) k+d k)):=W
  simp_all
 refine((q.trans<|Cg.rfl.sub hc).mul Cg.rfl|>.add (ht.mul Cg.rfl)).trans<|Cg.iff_sub.2 ?_;rw[zfH];have l:=Cg.iff_sub.1 i.symm;exact(l.zero_sub<|l.mul_zero_r b).zero_sub<|(j.mul_zero j).down o
end
section
variable{a p:wl}{fu j m:wr}{f g:Pz}{l:xS wl}
theorem zfe(hp:0<p):(if xcv a p<0 then xcv a p+p else xcv a p)=a%p:=by
 have h1:=xcR a (W:p≠0);have b:=xdQ a hp;by_cases h:0<=a\/p∣a
 ·grind
 ·grind
theorem gj(b:0<=a:=by lia):xcv a p=a%p:=by grind
def xi(hp:0<p:=by lia):0<=a%p/\a%p<p:=⟨xcR a W,xdQ a hp⟩
theorem YK(h1:1<=p)(b:p<=65521)(c:KH a):uY fu a p=Z (a%p):=by
 unfold uY;have d:=xi (a:=a) (p:=p);have ht:=zfe (a:=a) (p:=p) W;rw[zB,yW,S];by_cases h:xcv a p<0
 ·rw[iq h]at ht;rw[iq h,zb,ht]
 ·grind
def zl(n:K)(f:Pz):N J:=(xaN n).map f
def ci(l:N J):Pz:=λk=>l.getD k 0
def nl(n:K)(f:Pz):N J:=zl (dg f n) f
def QK(l:N J)(k:K):l.getD k 0=ci l k:=O
theorem zZ(n:K)(f:Pz):X (zl n f)=n:=by unfold zl;simp
def ks{n:K}(h:j<n:=by lia):(zl n f).getD j 0=f j:=by simp_all [zl]
theorem yU{n:K}(h:∀k,k<n->f k=g k):zl n f=zl n g:=by simp_all [zl]
theorem ZK{n:K}{v:J}:(zl n f).set j v=zl n (Xh f j v):=by
 refine xcA λi=> ?_;unfold zl Xh;by_cases h:j=i
 ·grind
 ·grind
theorem dk(n:K):xaa n 0=zl n (λ_=>0):=by grind [zl,List.map_const',xev]
theorem zj2{n:K}:zl n f++[f n]=zl (n+1) f:=by grind [zl,xdk]
def zbp{n:K}(h:m<=n:=by lia):(zl n f).take m=zl m f:=by
 unfold zl;rw[<-xeU,List.take_range,xcq h]
theorem uV{n:K}(h:j<n):ci (zl n f) j=f j:=ks h
theorem yp(h:X l<=j):ci l j=0:=by simp_all [ci]
theorem Xg{n:K}(h:∀k,n<=k->f k=0)(j:K):ci (zl n f) j=f j:=by grind [uV,yp,zZ]
theorem P3(l:N J):zl (X l) (ci l)=l:=by grind [zl,ci,zZ,xeI]
def zho(n:K)(f:Pz):X (nl n f)=dg f n:=zZ _ _
def FP(n:K)(f:Pz):X (nl n f)<=n:=by rw[zho];exact qH _ _
def Cz{n:K}(h:∀k,n<=k->f k=0)(j:K):ci (nl n f) j=f j:=by
 refine Xg (λk b=> ?_) j;by_cases hn:k<n
 ·exact Qm f n k b hn
 ·simp_all
theorem zlw{n:K}(c:∀k,n<=k->f k=0)(d:∀k,m<=k->g k=0)(h:∀k,f k=g k):dg f n=dg g m:=by
 refine KD ?_ ?_ ?_
 ·refine xbz λe=> ?_;have:=Qb g m W;grind
 ·intro k h1 i;rw[h];by_cases b:k<m
  ·exact Qm g m k h1 b
  ·simp_all
 ·by_cases h0:dg g m=0
  ·lia
  ·right;rw[h];exact Qb g m h0
theorem zmO{n:K}(b:∀k,n<=k->f k=0)(c:∀k,m<=k->g k=0)(h:∀k,f k=g k):nl n f=nl m g:=by grind [nl,zlw,yU]
theorem Ot{n:K}(h:∀k,k<n->f k=g k):nl n f=nl n g:=by grind [nl,BS,qH,yU]
def Nl(l:N J):Prop:=X l=0\/ci l (X l-1)≠0
def tD(n:K)(f:Pz):Nl (nl n f):=by
 by_cases h:X (nl n f)=0
 ·exact .inl h
 ·right;rw[zho]at h⊢;unfold nl;rw[uV W];exact Qb f n h
def Nl.eq(h:Nl l):l=nl (X l) (ci l):=by
 have e:=KD (IR _) (λk h1 b=>by lia)<|h.imp id id;unfold nl;rw[e,P3]
def Nl.ext{a b:N J}(d:Nl a)(e:Nl b)(h:∀k,ci a k=ci b k):a=b:=by
 rw[d.eq,e.eq];exact zmO (λk c=>yp c) (λk c=>yp c) h
theorem Nl.le(h:Nl l){n:K}(b:∀k,n<=k->ci l k=0):X l<=n:=by
 obtain h|h:=h
 ·lia
 ·grind
def Rl(l:N J):Prop:=∀k,KH<|ci l k
structure Fp(p:J)(l:N J):Prop where
 nn:∀k,0<=ci l k
 lt:∀k,ci l k<p
 nl:Nl l
def pm(p:J)(l:N J):N J:=nl (X l)<|λk=>ci l k%p
def Hi(p:J)(l:N J)(k:K):ci (pm p l) k=ci l k%p:=Cz (λk b=>by rw[yp b,xau]) k
def zbg(p:J)(l:N J):X (pm p l)<=X l:=FP _ _
def CZ(hp:0<p)(l:N J):Fp p (pm p l):=⟨λk=>by rw[Hi];exact(xi hp).1,λk=>by rw[Hi];exact(xi hp).2,tD _ _⟩
def Pf(p:J)(l:N J):Cg p (ci<|pm p l) (ci l):=λk=>by rw[Hi,xaW]
def Fp.mod(h:Fp p l)(k:K):ci l k%p=ci l k:=xaJ (h.nn k)<|h.lt k
def Fp.pm{p:J}{l:N J}(h:Fp p l):pm p l=l:=by
 refine Nl.ext (tD _ _) h.nl λk=> ?_;exact(Hi p l k).trans<|h.mod k
theorem Fp.ext{p:J}{a b:N J}(c:Fp p a)(d:Fp p b)(h:Cg p (ci a) (ci b)):a=b:=Nl.ext c.nl d.nl λk=>by rw[<-c.mod,h,d.mod]
def Fp.rl(h:Fp p l)(hp:p<=65521):Rl l:=λk=>by
 have h1:=h.nn k;have b:=h.lt k;lia
def zL(h1:1<=p)(n:p<=65521)(o:Rl l)(hl:X l<=1000000)(r:3000000<=fu):ya fu l p=Z (pm p l):=by
 unfold ya;have hd:=qH (λk=>ci l k%p) (X l);rw[yF,yW,S,dk,U (v:=zl (X l)<|λk=>ci l k%p)]
 ·rw[U (v:=pm p l)];refine zA (λt:N J=>∃m,m<=X l/\t=zl m (λk=>ci l k%p)/\dg (λk=>ci l k%p) m=dg (λk=>ci l k%p) (X l)) (λt=>X t) _ ?_ _ _ ⟨X l,IR _,O,O⟩ (by rw[zZ];lia);rintro t L ⟨m,u,rfl,b⟩ c;unfold bW;rw[zZ]
  cases m with
  |zero=>
   rw[zB];unfold pm nl;rw[<-b];rfl
  |succ m=>
   rw[zX,(W:((m+1:K):J)-1=(m:J)),zb,z8,S,ks];by_cases h0:ci l m%p=0
   ·rw[iq h0,zb,yF,yW,S,zbp];exact c _ ⟨m,W,O,by rw[<-pj (f:=λk=>ci l k%p) h0,b]⟩<|by rw[zZ,zZ];lia
   ·rw[ir h0];unfold pm nl;rw[<-b,cF (f:=λk=>ci l k%p) h0]
 ·refine zA (λs:J×N J=>∃i:K,i<=X l/\s=((i:J),zl (X l) (λk=>if k<i then ci l k%p else 0))) (λs=>X l-s.1.toNat) _ ?_ _ _ ⟨0,xan _,by rw[yU (g:=λk=>if k<0 then ci l k%p else 0)<|λk _=>by rw[zB]];rfl⟩ (by show X l-0<fu;lia);rintro s L ⟨i,hi,rfl⟩ c;unfold b5;simp only;by_cases h:i<X l
  ·rw[zX,zo h,S,QK,U<|YK h1 n<|o i,zo (by rw[zZ];exact h),S,ZK,zb];refine c _ ⟨i+1,W,?_⟩ (by show X l-((i:J)+1).toNat<X l-(i:J).toNat;lia);congr 1;refine yU λk q=> ?_;unfold Xh;by_cases e:k=i
   ·rw[iq e,zX,e]
   ·rw[ir e];show(if k<i then ci l k%p else 0)=_;by_cases d:k<i
    ·rw[iq d,zX]
    ·rw[ir d,zB]
  ·rw[zB];congr 1;exact yU λk q=>by rw[zX]
end
section
variable{f g:Pz}{p:wl}{fu:wr}{a b:xS wl}
def sh(g:Pz)(i k:K):J:=if i<=k then g (k-i)else 0
def R3(f g:Pz)(n k:K):J:=yh n<|λi=>f i*sh g i k
theorem H4{n:K}(d:∀k,n<=k->f k=0)(k:K):R3 f g n k=(f*g) k:=by
 have e1:=Mx (f:=λi=>f i*sh g i k) (λi hi=>by rw[d i hi,xbd])<|k+1;have c:=Mx (f:=λi=>f i*sh g i k) (n:=k+1) (λi hi=>by unfold sh;rw[zB,xaA]) n;rw[xdW]at c;unfold R3;rw[<-e1,c];exact yr λi hi=>by unfold sh;rw[zX]
theorem Ry(a b:N M)(k:K):∀n,YP a b n k=R3 (cf a) (cf b) n k
 |0=>rfl
 |n+1=>by
  show YP a b n k+cf a n*Re b n k=R3 (cf a) (cf b) n k+cf a n*sh (cf b) n k;rw[Ry a b k n];rfl
theorem kT(a b:N M):cf (y9 a b)=(cf a:Pz)*cf b:=by grind [Ly,Ry,H4,ye]
def AU(f g:Pz)(i j k:K):J:=R3 f g i k+if i<=k/\k<i+j then f i*g (k-i)else 0
def zca(f g:Pz)(i k:K):AU f g i 0 k=R3 f g i k:=by
 unfold AU;lia
theorem zcT{n:K}(c:∀k,n<=k->g k=0)(i k:K):AU f g i n k=R3 f g (i+1) k:=by
 show _=R3 f g i k+f i*sh g i k;unfold AU sh;by_cases h:i<=k
 ·grind
 ·grind
def zcE(f g:Pz)(p:J)(i j k:K):Xh (λk=>AU f g i j k%p) (i+j) ((AU f g i j (i+j)%p+f i*g j)%p) k=AU f g i (j+1) k%p:=by
 unfold Xh;by_cases h:k=i+j
 ·subst h;unfold AU;simp_all
 ·rw[ir h];show AU f g i j k%p=_;unfold AU;congr 2;by_cases c:i<=k/\k<i+j
  ·lia
  ·lia
def xF(p:J)(a b:N J):N J:=nl (X a+X b)<|λk=>(ci a*ci b) k%p
theorem ue{n m:K}(c:∀k,n<=k->f k=0)(d:∀k,m<=k->g k=0){k:K}(h:n+m<=k+1:=by lia):(f*g) k=0:=by
 refine yL λi hi=> ?_;by_cases h1:i<n
 ·grind
 ·simp_all
def ah(p:J)(a b:N J)(k:K):ci (xF p a b) k=(ci a*ci b) k%p:=Cz (λk d=>by rw[ue (λj c=>yp c)<|λj c=>yp c,xau]) k
theorem Zx(p:J)(a b:N J):Cg p (ci<|xF p a b) (ci a*ci b):=λk=>by rw[ah,xaW]
theorem qY(hp:0<p)(a b:N J):Fp p (xF p a b):=⟨λk=>by rw[ah];exact(xi hp).1,λk=>by rw[ah];exact(xi hp).2,tD _ _⟩
def jw(p:J)(a b:N J):X (xF p a b)<=X a+X b:=FP _ _
def dF{x y:J}(e:p<=65521)(d:0<=x)(h:x<p)(c:0<=y)(hc:y<p):0<=x*y/\x*y<=4293001441:=by
 refine⟨xcC d c,?_⟩;have h1:x*y<=65521*y:=xbF W c;lia
def vj(h1:1<=p)(l:p<=65521)(m:Fp p a)(o:Fp p b)(hc:X a<=100000)(hd:X b<=100000)(q:3000000<=fu):w7 fu a b p=Z (xF p a b):=by
 unfold w7;have⟨n,hn⟩:∃n,n=X a+X b:=⟨_,O⟩;rw[zb,(W:(X a:J)+(X b:J)=(n:J)),yF,yW,S,dk,U (v:=zl n<|λk=>R3 (ci a) (ci b) (X a) k%p)]
 ·have r:∀k,n<=k->R3 (ci a) (ci b) (X a) k%p=0:=λk d=>by rw[H4<|λj c=>yp c,ue (λj c=>yp c)<|λj c=>yp c,xau]
  have t:Rl (zl n<|λk=>R3 (ci a) (ci b) (X a) k%p):=λk=>by
   rw[Xg r];have:=xi (a:=R3 (ci a) (ci b) (X a) k) (p:=p);exact⟨W,W⟩
  rw[U<|zL h1 l t (by rw[zZ];lia) q];congr 1;unfold pm xF;rw[zZ,<-hn];exact Ot λk d=>by rw[uV d,xaW,H4<|λj c=>yp c]
 ·refine zA (λs:J×N J=>∃i:K,i<=X a/\s=((i:J),zl n<|λk=>R3 (ci a) (ci b) i k%p)) (λs=>X a-s.1.toNat) _ ?_ _ _ ⟨0,xan _,by rw[yU (g:=λk=>R3 (ci a) (ci b) 0 k%p) λk _=>by show(0:J)=0%p;rw[xau]];rfl⟩ (by show X a-0<fu;lia);rintro s L ⟨i,hi,rfl⟩ u;unfold J7;simp only;by_cases w:i<X a
  ·rw[zX,U O];simp only[uP];rw[zo w,S,U (v:=zl n<|λk=>R3 (ci a) (ci b) (i+1) k%p),zb]
   ·exact u _ ⟨i+1,W,O⟩ (by show X a-((i:J)+1).toNat<X a-(i:J).toNat;lia)
   ·refine zA (λs:J×N J=>∃j:K,j<=X b/\s=((j:J),zl n<|λk=>AU (ci a) (ci b) i j k%p)) (λs=>X b-s.1.toNat) _ ?_ _ _ ⟨0,xan _,by rw[yU λk _=>by rw[<-zca]];rfl⟩ (by show X b-0<fu;lia);rintro s y ⟨j,c,rfl⟩ h;unfold Ki;simp only;by_cases x:j<X b
    ·rw[zX,U O];simp only[uP];have e:(i:J)+(j:J)=((i+j:K):J):=W
     have r1:=xi (a:=AU (ci a) (ci b) i j<|i+j) (p:=p);have⟨r2,z⟩:=dF l (m.nn i) (m.lt i) (o.nn j)<|o.lt j;rw[zo x,S,e,zb,zb,zo (by rw[zZ];lia),S,ks,QK,QK,zb,zb,yW,S,gj,zo (by rw[zZ];lia),S,ZK,zb];exact h _ ⟨j+1,W,by rw[yU λk _=>zcE (ci a) (ci b) p i j k];rfl⟩ (by show X b-((j:J)+1).toNat<X b-(j:J).toNat;lia)
    ·rw[zB,U O];simp only[xao,uS];obtain rfl:j=X b:=W
     rw[yU λk _=>by rw[zcT<|λk d=>yp d]]
  ·rw[zB,U O];simp only[xao,uS];obtain rfl:i=X a:=W
   rfl
def XG(p:J)(a b:N J)(c:J):N J:=nl (max (X a) (X b))<|λk=>(ci a k+c*ci b k)%p
def H3(p:J)(a b:N J)(c:J)(k:K):ci (XG p a b c) k=(ci a k+c*ci b k)%p:=Cz (λk d=>by rw[yp W,yp W,xaA];exact xau _) k
def IU(p:J)(a b:N J)(c:J):Cg p (ci<|XG p a b c) (ci a+pc c*ci b):=λk=>by rw[H3,xaW,zU,zN]
def aO(hp:0<p)(a b:N J)(c:J):Fp p (XG p a b c):=⟨λk=>by rw[H3];exact(xi hp).1,λk=>by rw[H3];exact(xi hp).2,tD _ _⟩
def Bj(p:J)(a b:N J)(c:J):X (XG p a b c)<=max (X a) (X b):=FP _ _
theorem zlR{n:K}(h:X a<=n):Pk (xaa n 0) a=zl n (ci a):=by
 unfold Pk;rw[xaM,xcq h,xbY,List.drop_replicate];refine xeI (by rw[xaw,xaM,zZ];lia) λj h1 c=> ?_;have d:=uV (f:=ci a) (by rw[zZ]at c;exact c);have e:(zl n<|ci a).getD j 0=a.getD j 0:=d;grind
def JH{c:J}(h1:1<=p)(o:p<=65521)(h:Fp p a)(j:Fp p b)(hc:0<=c)(hd:c<p)(z:X a<=100000)(A:X b<=100000)(q:3000000<=fu):YJ fu a b c p=Z (XG p a b c):=by
 unfold YJ;have⟨n,hn⟩:∃n,n=max (X a) (X b):=⟨_,O⟩;have r:∀k,n<=k->ci a k+c*ci b k=0:=λk m=>by rw[yp W,yp W,xaA];rfl
 have t:∀k,0<=ci a k+c*ci b k/\ci a k+c*ci b k<=4293066962:=λk=>by
  have⟨r2,u⟩:=dF o hc hd (j.nn k)<|j.lt k;have:=h.nn k;have:=h.lt k;lia
 rw[S,(W:max (X a:J) (X b:J)=(n:J)),yF,yW,S,S,zlR W,U (v:=zl n<|λk=>ci a k+c*ci b k)]
 ·have w:Rl (zl n<|λk=>ci a k+c*ci b k):=λk=>by
   rw[Xg r];have:=t k;exact⟨W,W⟩
  rw[U<|zL h1 o w (by rw[zZ];lia) q];congr 1;unfold pm XG;rw[zZ,<-hn];exact Ot λk m=>by rw[uV m]
 ·refine zA (λs:J×N J=>∃i:K,i<=X b/\s=((i:J),zl n (λk=>ci a k+if k<i then c*ci b k else 0))) (λs=>X b-s.1.toNat) _ ?_ _ _ ⟨0,xan _,by rw[yU (f:=ci a) (g:=λk=>ci a k+if k<0 then c*ci b k else 0) λk _=>by rw[zB,xcd]];rfl⟩ (by show X b-0<fu;lia);rintro s L ⟨i,hi,rfl⟩ x;unfold iG;simp only;by_cases y:i<X b
  ·rw[zX,U O];simp only[uP];have⟨r2,u⟩:=dF o hc hd (j.nn i)<|j.lt i;have:=h.nn i;have:=h.lt i;rw[zo y,S,zo (by rw[zZ];lia),S,ks,ir<|xfW i,xcd,QK,zb,zb,zo (by rw[zZ];lia),S,ZK,zb];refine x _ ⟨i+1,W,?_⟩ (by show X b-((i:J)+1).toNat<X b-(i:J).toNat;lia);congr 1;refine yU λk m=> ?_;unfold Xh;by_cases e:k=i
   ·rw[iq e,zX,e]
   ·rw[ir e];show ci a k+(if k<i then c*ci b k else 0)=_;by_cases d:k<i
    ·rw[iq d,zX]
    ·rw[ir d,zB]
  ·rw[zB,U O];simp only[xao,uS];congr 1;refine yU λk m=> ?_;by_cases d:k<i
   ·rw[iq d]
   ·rw[ir d,yp (l:=b) W,xaA]
end
section
variable{p a fu:wr}
theorem gB(hp:2<=p)(h:ke p)(h0:0<a:=by lia)(h1:a<p:=by lia):xdt p a=1:=by
 have⟨g,b⟩:∃g,g=xdt p a:=⟨_,O⟩;have d1:g∣p:=by rw[b];exact xfR _ _
 have d2:g∣a:=by rw[b];exact xdC _ _
 have j:g<=a:=Nat.le_of_dvd h0 d2;have i:0<g:=Nat.pos_of_dvd_of_pos d1 W;rw[<-b];refine xcP (xbz λk=> ?_) i;by_cases c:g*g<=p
 ·exact h g W c<|Nat.mod_eq_zero_of_dvd d1
 ·have⟨d,hd⟩:=d1;have l:d<g:=by
   refine xdr λf=>c ?_;rw[hd];exact xaC _ f
  have hc:2<=d:=by
   refine xbz λf=> ?_;have:d=0\/d=1:=W
   obtain e|e:=this
   ·grind
   ·grind
  refine h d hc ?_ ?_
  ·rw[hd];exact xak _ W
  ·rw[hd];exact Nat.mul_mod_left _ _
theorem uK{p:J}(hp:qk p=wL)(b:400<fu:=by lia):vk fu p=Z 0:=by grind [vk,U,WH]
structure IvI(p a:K)(r0 r1:K)(t0 t1:J):Prop where
 lt:r1<r0
 two:2<=r0
 le:r0<=p
 c0:(p:J)∣(r0:J)-t0*a
 c1:(p:J)∣(r1:J)-t1*a
 g:xdt r0 r1=1
 s:∃u0 u1:K,((t0=u0/\t1= -u1)\/(t0= -u0/\t1=u1))/\r0*u1+r1*u0=p
theorem IvI.step{r0 r1:K}{t0 t1:J}(h:IvI p a r0 r1 t0 t1)(k:2<=r1):IvI p a r1 (r0%r1) t1 (t0-((r0/r1:K):J)*t1)/\(((r0/r1:K):J)*t1).natAbs<=p/\(t0-((r0/r1:K):J)*t1).natAbs<=p:=by
 have hd:=xbu r0 r1;have l:=xaU r0 (W:0<r1);have⟨c,b,m,r⟩:=h.s;generalize t:r0/r1=q at*
 generalize n:r0%r1=r2 at*
 have u:=h.le;have hi:=h.lt;have e1:r1*(c+q*b)+r2*b=p:=by grind
 have v:c+q*b<=p:=by
  have d:1*(c+q*b)<=r1*(c+q*b):=xak _ W;lia
 have hc:((q*b:K):J)=(q:J)*(b:J):=i7
 have f:((t1=b/\t0-(q:J)*t1= -((c+q*b:K):J))\/(t1= -b/\t0-(q:J)*t1=((c+q*b:K):J)))/\((q:J)*t1).natAbs<=p:=by
  rcases m with⟨i,j⟩|⟨i,j⟩
  ·grind
  ·rw[i,j,<-hc];exact⟨.inl ⟨O,W⟩,W⟩
 refine⟨⟨l,k,W,h.c1,?_,?_,b,c+q*b,f.1,e1⟩,f.2,by rcases f.1 with⟨_,e⟩|⟨_,e⟩<;>lia⟩
 ·have d:=xdB h.c0<|xbw h.c1<|xcU (q:J) _;have o:(r0:J)-t0*a-(q:J)*((r1:J)-t1*a)=(r2:J)-(t0-(q:J)*t1)*a:=by
   rw[Int.mul_sub,Int.sub_mul,xdc];have:(r0:J)=(r1:J)*(q:J)+(r2:J):=by rw[<-hd];simp
   rw[this,xbE (r1:J)];lia
  rw[o]at d;exact d
 ·have d:=h.g;rw[<-n,xdN,<-Nat.gcd_rec,xdN];exact d
def zf1(hp:p<=65521)(j:70000<fu){t:J}:∀{r0 r1:K}{t0 t1:J},IvI p a r0 r1 t0 t1->∀n,r1<n->∃x:J,zg (mj fu) n ((r0:J),(r1:J),t0,t1)=Z (.inl x)/\(p:J)∣1-x*a/\x.natAbs<=p:=by
 intro r0 r1
 induction r1 using xdG generalizing r0 with
 |_ r1 c=>
  intro t0 t1 h n hn;obtain⟨n,rfl⟩:∃k,n=k+1:=⟨n-1,W⟩;rw[kH];unfold mj;simp only;have hc:=h.lt;have l:=h.two;have hd:=h.le;by_cases h0:r1=0
  ·have:=h.g;simp_all
  ·rw[zB];by_cases h1:r1=1
   ·rw[zX];refine⟨t1,O,?_,?_⟩
    ·have:=h.c1;rw[h1]at this;exact this
    ·have⟨m,b,d,o⟩:=h.s;have q:1*b<=r0*b:=xak _ W;rcases d with⟨_,e⟩|⟨_,e⟩<;>lia
   ·have⟨f,r,u⟩:=h.step W;have e1:xdE (r0:J) (r1:J)=((r0/r1:K):J):=O;have v:=xbu r0 r1;have i:((r0/r1:K):J)*(r1:J)=((r1*(r0/r1):K):J):=by rw[xbE];simp
    have hi:((r0/r1:K):J)<=(r0:J):=Int.ofNat_le.2<|xcM _ _;have w:(0:J)<=((r0/r1:K):J):=xdm _;rw[zB,yW,e1,zb,i,zb,(W:(r0:J)-((r1*(r0/r1):K):J)=((r0%r1:K):J)),zb,zb,zb];exact c (r0%r1) (xaU _ W) f n (by have:=xaU r0 (W:0<r1);lia)
def KE{p a:J}(hp:qk p=wL)(h0:0<a)(h1:a<p)(f:3000000<=fu):∃x,VG fu a p=Z (x,0)/\0<=x/\x<p/\(x*a)%p=1:=by
 have⟨g,i⟩:=zw hp;have c:ke p.toNat:=by
  refine xai λh=> ?_;rw[FR<|λe=>h e.2.2]at hp;simp_all
 obtain⟨P,rfl⟩:=xaE (W:0<=p);obtain⟨A,rfl⟩:=xaE (W:0<=a);have d:IvI P A P A 0 1:=⟨W,W,IR _,by rw[xbd,xdi];exact xej _,by rw[xdg,xek];exact xdM _,gB W c,0,1,.inr ⟨O,O⟩,W⟩;have⟨x,k1,k2,j⟩:=zf1 (fu:=fu) (t:=0) (W:P<=65521) W d fu W;have b:=xi (a:=x) (p:=(P:J));refine⟨x%P,?_,b.1,b.2,?_⟩
 ·unfold VG;rw[U<|uK hp,iq O,U<|YK W W ⟨W,W⟩,xaJ (a:=(A:J)) W W,U k1];simp only;rw[U<|YK W W ⟨W,W⟩]
 ·rw[xci,xaW,<-xci];have:=xaO.2<|xaz k2;rw[<-this];exact xaJ i0 W
end
section
variable{p:wl}{fu i qn:wr}{a b:xS wl}{R Q:Pz}
def yc{α β:Type}{f:(β->V α)->β->V α}(j:β->Prop)(m:β->K)(Q:α->Prop)
 (step:∀s L,j s->(∀c,j c->m c<m s->∃r,L c=Z r/\Q r)->∃r,f L s=Z r/\Q r):∀(n:K) (s:β),j s->m s<n->∃r,zg f n s=Z r/\Q r
 |0,s,_,h=>wS h<|xbq _
 |n+1,s,d,h=>step s _ d λc e g=>yc j m Q step n c e W
theorem wA{f:K->J}{i:K}(h:∀k,k≠i->f k=0):∀n,yh n f=if i<n then f i else 0
 |0=>by skip;rfl
 |n+1=>by
  show yh n f+f n=_;rw[wA h n];by_cases h1:i<n
  ·grind
  ·grind
theorem VL(i:K)(c:J)(g:Pz)(k:K):((mono i c:Pz)*g) k=c*sh g i k:=by
 rw[wI,wA λj d=>by show mono i c j*_=0;unfold mono;rw[ir d,xbd]];unfold sh;by_cases h:i<=k
 ·rw[zX];unfold mono;simp_all
 ·grind
theorem jQ(x:J):ci [x]=pc x:=by
 funext k
 cases k with
 |zero=>rfl
 |succ k=>exact yp i7
def VR{x:J}(h0:0<x:=by lia)(h1:x<p:=by lia):Fp p [x]:=⟨λk=>by rw[jQ];unfold pc;split<;>lia,λk=>by rw[jQ];unfold pc;split<;>lia,.inr (by show x≠0;lia)⟩
def SX(h:0<p:=by lia):Fp p []:=⟨λk=>by rw[yp<|xan _];lia,λk=>by skip;exact h,.inl O⟩
def zj6{x c:J}(h:0<=x)(d:(x*c)%p=1):0<x:=by
 obtain h|h:=Int.lt_or_eq_of_le h
 ·exact h
 ·rw[<-h,xbd]at d;cases d
def J5{c:J}(hp:qk p=wL)(h:Fp p a)(h0:0<c)(h1:c<p)(hc:X a<=90000)(d:3000000<=fu):∃x,0<x/\x<p/\(x*c)%p=1/\VG fu c p=Z (x,0)/\qx fu a c p=Z (xF p a [x]):=by
 have⟨l,j⟩:=zw hp;have⟨x,e1,k,e,f⟩:=KE hp h0 h1 d;have g:=zj6 k f;refine⟨x,g,e,f,e1,?_⟩;unfold qx;rw[U e1];simp only;rw[U<|vj W j h (VR g e) W i7 d]
def lB(R g:Pz)(p c:J)(i j:K):Pz:=λk=>if i<=k/\k<i+j then(R k+(p-c)*g (k-i))%p else R k
theorem zc8(R g:Pz)(p c:J)(i j k:K):Xh (lB R g p c i j) (i+j) ((R (i+j)+(p-c)*g j)%p) k=lB R g p c i (j+1) k:=by grind [lB,Xh]
theorem zdu{g:Pz}{c:J}{n:K}(d:∀k,R k%p=R k)(e:∀k,n<=k->g k=0)(k:K):lB R g p c i n k%p=(R k-c*sh g i k)%p:=by
 unfold lB sh;by_cases h:i<=k/\k<i+n
 ·rw[iq h,iq h.1,xaW,Int.sub_mul];refine xaO.2<|xaz ⟨g<|k-i,?_⟩;lia
 ·grind
def zda{n:K}{c x:J}(h1:1<=p)(q:p<=65521)(d:Fp p b)(h:∀k,0<=R k/\R k<p)(hc:0<=c)(r:c<p)(hd:i+X b<=n)(hn:n<=100000)(t:3000000<=fu):
 zg (Y0 fu b (i:J) c) fu (b,p,x,0,zl n R,zl qn Q)=Z (b,p,x,zl n<|lB R (ci b) p c i (X b),zl qn Q):=by
 refine zA (λs:N J×J×J×J×N J×N J=>∃j:K,j<=X b/\s=(b,p,x,(j:J),zl n<|lB R (ci b) p c i j,zl qn Q)) (λs=>X b-s.2.2.2.1.toNat) _ ?_ _ _ ⟨0,xan _,by rw[yU (f:=R) (g:=lB R (ci b) p c i 0) λk _=>by unfold lB;rw[zB]];rfl⟩ (by show X b-0<fu;lia);rintro s L ⟨j,u,rfl⟩ l;unfold Y0;simp only;by_cases m:j<X b
 ·rw[zX,U O];simp only[uP];have e:(i:J)+(j:J)=((i+j:K):J):=W
  have o:lB R (ci b) p c i j (i+j)=R (i+j):=by unfold lB;rw[zB]
  have⟨r1,r2⟩:=h<|i+j;have v:0<=(p-c)*ci b j:=xcC W<|d.nn j;have w:(p-c)*ci b j<=65521*ci b j:=xbF W<|d.nn j;have y:=d.lt j;rw[zo m,S,e,zb,zb,zo (by rw[zZ];lia),S,ks,QK,o,zb,zb,zb,yW,S,gj,zo (by rw[zZ];lia),S,ZK,zb];exact l _ ⟨j+1,W,by rw[yU λk _=>zc8 R (ci b) p c i j k];rfl⟩ (by show X b-((j:J)+1).toNat<X b-(j:J).toNat;lia)
 ·rw[zB,U O];simp only[xao,uS];obtain rfl:j=X b:=W
  rfl
structure FdI(p:J)(a b:N J)(qn i:K)(R Q:Pz):Prop where
 hi:i<=qn
 rr:∀k,0<=R k/\R k<p
 qr:∀k,0<=Q k/\Q k<p
 rz:∀k,i+(b.length-1)<=k->R k=0
 ql:∀k,k<i->Q k=0
 qz:∀k,qn<=k->Q k=0
 cg:Cg p (ci a) (Q*ci b+R)
def FdI.step{x:J}(h1:1<=p)(h:FdI p a b qn (i+1) R Q)(s:0<X b)(j:(x*ci b (X b-1))%p=1):
 FdI p a b qn i (lB R (ci b) p (R (i+(X b-1))*x%p) i (X b)) (Xh Q i<|R (i+(X b-1))*x%p):=by
 have⟨c,hc⟩:∃c,c=R (i+(X b-1))*x%p:=⟨_,O⟩;have hi:=h.hi;have e:=xi (a:=R (i+(X b-1))*x) (p:=p);rw[<-hc]at e⊢;have m:∀k,R k%p=R k:=λk=>xaJ (h.rr k).1 (h.rr k).2;have f:=zdu (g:=ci b) (c:=c) (i:=i) (n:=X b) m<|λk d=>yp d;have hd:∀k,0<=lB R (ci b) p c i (X b) k/\lB R (ci b) p c i (X b) k<p:=λk=>by
  unfold lB;split
  ·exact xi
  ·exact h.rr k
 have o:∀k,Xh Q i c k=(Q+(mono i c:Pz)) k:=λk=>by
  rw[zU];unfold Xh mono;by_cases d:k=i
  ·rw[iq d,iq d,h.ql k W,xcS]
  ·lia
 refine⟨W,hd,λk=> ?_,λk d=> ?_,λk d=> ?_,λk d=> ?_,?_⟩
 ·unfold Xh;split
  ·exact e
  ·exact h.qr k
 ·have q:=xaJ (hd k).1 (hd k).2;rw[<-q,f];by_cases r:k=i+(X b-1)
  ·unfold sh;rw[zX,(W:k-i=X b-1),hc,r,Int.sub_emod,xci,xaW,<-xci,xdc,xci _<|x*_,j,xcY,xaW,<-Int.sub_emod,xek,xau]
  ·unfold sh;rw[h.rz k W,zX,yp (l:=b) W,xaA,xdi,xau]
 ·unfold Xh;rw[zB];exact h.ql k W
 ·unfold Xh;rw[zB];exact h.qz k d
 ·refine h.cg.trans λk=> ?_;rw[show Xh Q i c=Q+(mono i c:Pz)from jp o,yR,zU,zU,zU,VL,xei<|_+_,f,<-xei];congr 1;lia
def xJ(hp:qk p=wL)(g:Fp p a)(c:Fp p b)(m:0<X b)(B:X a<=90000)(ht:X b<=90000)(d:3000000<=fu):
 ∃q r,xL fu a b p=Z (q,r)/\Fp p q/\Fp p r/\Cg p (ci a) (ci q*ci b+ci r)/\X r<X b/\X q<=X a:=by
 have⟨C,e⟩:=zw hp;unfold xL;rw[w8 (by simp;lia),S,xbA,zb];by_cases hl:X a<X b
 ·rw[zX];refine⟨[],a,O,SX,g,Cg.of ?_,hl,xan _⟩;funext k;rw[zU,show ci []=pc 0 from jp λj=>by rw[yp<|xan _,zQ],yu,zQ,xcS]
 ·have⟨qn,D⟩:∃qn,qn=X a-X b+1:=⟨_,O⟩;have E:ci b (X b-1)≠0:=by
   obtain h|h:=c.nl
   ·lia
   ·exact h
  have t1:=c.nn<|X b-1;have t2:=c.lt<|X b-1;have⟨x,e1,o,t,u⟩:=KE (fu:=fu) hp (W:0<ci b (X b-1)) t2 d;have c1:(X b:J)-1=((X b-1:K):J):=W
  have c2:(X a:J)-(X b:J)+1=(qn:J):=W
  rw[zB,c1,zb,z8,S,QK,U e1];simp only;rw[zb,c2,yF,yW,S]
  have hc:=yc (f:=Xy fu b p x) (λs:J×N J×N J=>∃(i:K) (R Q:Pz),s=((i:J)-1,zl (X a) R,zl qn Q)/\FdI p a b qn i R Q) (λs=>(s.1+1).toNat)
   (λr=>∃R Q:Pz,r=(zl (X a) R,zl qn Q)/\FdI p a b qn 0 R Q) (by
    rintro s L ⟨i,R,Q,rfl,h⟩ v;unfold Xy;simp only
    cases i with
    |zero=>
     rw[zB];exact⟨_,O,R,Q,O,h⟩
    |succ i=>
     have hi:=h.hi;have⟨r1,r2⟩:=h.rr<|i+(X b-1);have⟨w,F⟩:=dF e r1 r2 o t;have hd:=xi (a:=R (i+(X b-1))*x) (p:=p);rw[(W:((i+1:K):J)-1=(i:J)),zX,zb,(W:(i:J)+(X b:J)-1=((i+(X b-1):K):J)),zb,zo (by rw[zZ];lia),S,ks,zb,yW,S,gj w,zo (by rw[zZ];lia),S,ZK,U<|zda W e c h.rr hd.1 hd.2 W W d];simp only;rw[zb];exact v _ ⟨i,_,_,O,h.step W m u⟩ (by show((i:J)-1+1).toNat<(((i+1:K):J)-1+1).toNat;lia))
   fu ((X a:J)-(X b:J),a,xaa qn 0) ⟨qn,ci a,λ_=>0,by rw[P3,dk,(W:(X a:J)-(X b:J)=(qn:J)-1)],IR _,λk=>⟨g.nn k,g.lt k⟩,λk=>⟨xgb _,W⟩,λk y=>yp W,λk _=>O,λk _=>O,Cg.of (by
    funext k;rw[zU,show((λ_=>0:Pz))=pc 0 from jp λj=>(zQ j).symm,yu,zQ,xcS])⟩ (by show((X a:J)-(X b:J)+1).toNat<fu;lia)
  obtain⟨_,z,R,Q,rfl,h⟩:=hc;rw[U z];simp only;have A:Rl (zl (X a) R):=λk=>by
   rw[Xg λj l=>h.rz j W];have:=h.rr k;exact⟨W,W⟩
  have hn:Rl (zl qn Q):=λk=>by
   rw[Xg h.qz];have:=h.qr k;exact⟨W,W⟩
  rw[U<|zL W e hn (by rw[zZ];lia) d,U<|zL W e A (by rw[zZ];lia) d];refine⟨_,_,O,CZ W _,CZ W _,?_,?_,?_⟩
  ·refine h.cg.trans<|Cg.add (Cg.mul (Cg.symm<|(Pf p _).trans<|Cg.of<|funext (Xg h.qz)) Cg.rfl)<|Cg.symm<|(Pf p _).trans<|Cg.of<|funext (Xg λj l=>h.rz j W)
  ·have:=(CZ (p:=p) W<|zl (X a) R).nl.le (n:=X b-1) λk y=>by rw[Hi,Xg (λj l=>h.rz j W),h.rz k W,xau]
   lia
  ·have:=zbg p<|zl qn Q;rw[zZ]at this;lia
end
section
variable{p:wl}{fu N:wr}{r0 s0 t0 r1 s1 t1 g h:xS wl}{f:Pz}
def zm2(f:Pz):Cg p (pc (p-1)*f) (-f):=λk=>by
 rw[zN,zbw,Int.sub_mul];simp_all
def UK(a b:xS J):Cg p (ci<|XG p a b<|p-1) (ci a-ci b):=by
 refine(IU p a b<|p-1).trans ?_;exact Cg.rfl.add<|zm2 _
def Ao{S:K}(hp:qk p=wL)(b:Fp p r0)(l:Fp p s0)(m:Fp p t0)(hc:Fp p r1)(hl:Fp p s1)(o:Fp p t1)(h0:0<X r1)(l1:X r0<=N)(C:X r1<=N)(D:X s0<=S)(E:X t0<=S)(F:X s1<=S)(G:X t1<=S)(H:N<=9000)(M:S<=90000)(a:3000000<=fu):
 ∃q,Fp p q/\X q<=N/\Cg p (ci r0) (ci q*ci r1+ci (XG p r0 (xF p q r1)<|p-1))/\X (XG p r0 (xF p q r1)<|p-1)<X r1/\
  Xv fu [r0,s0,t0] [r1,s1,t1] p=Z [XG p r0 (xF p q r1)<|p-1,XG p s0 (xF p q s1)<|p-1,XG p t0 (xF p q t1)<|p-1]:=by
 have⟨P,c⟩:=zw hp;have⟨q,r,e1,d,s,hd,t,hv⟩:=xJ (fu:=fu) hp b hc h0 W W a;have e:XG p r0 (xF p q r1) (p-1)=r:=by
  refine Fp.ext (aO W _ _ _) s<|(UK r0<|xF p q r1).trans ?_;refine(hd.sub<|Zx p q r1).trans<|Cg.of ?_;funext k;simp only[zU,yX];lia
 refine⟨q,d,W,by rw[e];exact hd,by rw[e];exact t,?_⟩;unfold Xv;have f1:=jw p q r1;have f2:=jw p q s1;have f3:=jw p q t1;rw[show(0:J)=((0:K):J)from O,zo i0,zo i0,ze];show Y (xL fu r0 r1 p) _=_;rw[U e1];simp only;rw[U (v:=([XG p r0 (xF p q r1)<|p-1,XG p s0 (xF p q s1)<|p-1,XG p t0 (xF p q t1)<|p-1],xaa 3 []))];have⟨n,hn⟩:∃n,fu=n+4:=⟨fu-4,W⟩
 have step:∀(L:xS J×J×xS (xS J)×xS (xS J)->V (xS (xS J)×xS (xS J))) (i:K) (x y z u:xS J) (ts:xS (xS J)),i<3->X ts=3->ts.getD i []=x->[r1,s1,t1].getD i []=y->Fp p x->Fp p y->X x<=90000->X y<=90000->
  Zl fu [r1,s1,t1] p L (q,(i:J),ts,xaa 3 [])=L (q,((i+1:K):J),ts.set i<|XG p x (xF p q y)<|p-1,xaa 3 []):=λL i x y z u ts hi Q w A ht B R T=>by
  unfold Zl;simp only;have f4:=jw p q y;rw[zX,U O];simp only[uP];rw[zo hi,zo hi,ze,w,A,U<|vj W c d B W W a,zb,U<|JH W c ht (qY W _ _) W W W W a,zo hi,ze,zb];rfl
 have j:zg (Zl fu [r1,s1,t1] p) (n+4) (q,((0:K):J),[r0,s0,t0],xaa 3 [])=Z ([XG p r0 (xF p q r1)<|p-1,XG p s0 (xF p q s1)<|p-1,XG p t0 (xF p q t1)<|p-1],xaa 3 []):=by
  rw[kH,step _ 0 r0 r1 [] [] _ i0 O O O b hc W W,kH,step _ 1 s0 s1 [] [] _ i0 O O O l hl W W,kH,step _ 2 t0 t1 [] [] _ i0 O O O m o W W,kH];unfold Zl;simp only;rw[ir i0,U O];rfl
 rw[<-hn]at j;exact j
def Fs(f:Pz):Prop:=∃n,∀k,n<=k->f k=0
def Fs.add{g:Pz}(a:Fs f)(b:Fs g):Fs (f+g):=by
 have⟨n,hn⟩:=a;have⟨m,c⟩:=b;exact⟨n+m,λk d=>by rw[zU,hn k W,c k W];rfl⟩
def Fs.mul{g:Pz}(a:Fs f)(b:Fs g):Fs (f*g):=by
 have⟨n,hn⟩:=a;have⟨m,c⟩:=b;exact⟨n+m,λk d=>ue hn c⟩
def Fs.pc(c:J):Fs (pc c):=⟨1,λk a=>by unfold Go.Proofs.YtoegnnjcmlghhaaGreat.pc;rw[zB]⟩
theorem Fs.ci(l:xS J):Fs (ci l):=⟨X l,λk a=>yp a⟩
def Fs.cf(l:xS M):Fs (cf l):=⟨X l,λk a=>ye a⟩
structure BzR(p:J)(g h d s t:xS J)(S:K):Prop where
 df:Fp p d
 sf:Fp p s
 tf:Fp p t
 cg:Cg p (ci d) (ci s*ci g+ci t*ci h)
 dv:∃A C:Pz,Fs A/\Fs C/\Cg p (ci g) (A*ci d)/\Cg p (ci h) (C*ci d)
 dl:d.length<=S
 sl:s.length<=S
 tl:t.length<=S
structure BzI(p:J)(g h r0 s0 t0 r1 s1 t1:xS J)(N:K):Prop where
 f0:Fp p r0
 g0:Fp p s0
 h0:Fp p t0
 f1:Fp p r1
 g1:Fp p s1
 h1:Fp p t1
 c0:Cg p (ci r0) (ci s0*ci g+ci t0*ci h)
 c1:Cg p (ci r1) (ci s1*ci g+ci t1*ci h)
 dv:∃A B C D:Pz,Fs A/\Fs B/\Fs C/\Fs D/\Cg p (ci g) (A*ci r0+B*ci r1)/\Cg p (ci h) (C*ci r0+D*ci r1)
 l0:r0.length<=N
 l1:r1.length<=N
 b0:s0.length<=1+N*(N+1-r1.length)
 b1:t0.length<=1+N*(N+1-r1.length)
 b2:s1.length<=1+N*(N+1-r1.length)
 b3:t1.length<=1+N*(N+1-r1.length)
def BzI.step(a:BzI p g h r0 s0 t0 r1 s1 t1 N)(hp:qk p=wL)(i:N<=290)(j:0<X r1)(l:3000000<=fu):
 ∃r2 c t2,Xv fu [r0,s0,t0] [r1,s1,t1] p=Z [r2,c,t2]/\X r2<X r1/\BzI p g h r1 s1 t1 r2 c t2 N:=by
 have⟨u,v⟩:=zw hp;have m:1+N*(N+1-X r1)<=90000:=by
  have:N*(N+1-X r1)<=290*290:=xck i W;lia
 have hd:=a.l0;have d:=a.l1;have n:=a.b0;have hi:=a.b1;have o:=a.b2;have r:=a.b3;have⟨q,w,x,hc,hl,s⟩:=Ao (fu:=fu) (S:=1+N*(N+1-X r1)) hp a.f0 a.g0 a.h0 a.f1 a.g1 a.h1 j hd d n hi o r W m l;refine⟨_,_,_,s,hl,a.f1,a.g1,a.h1,aO W _ _ _,aO W _ _ _,aO W _ _ _,a.c1,?_,?_,d,W,?_,?_,?_,?_⟩
 ·refine(UK _ _).trans<|(a.c0.sub<|(Zx p q r1).trans<|Cg.rfl.mul a.c1).trans ?_;refine Cg.trans (Cg.of ?_)<|Cg.symm (((UK s0<|xF p q s1).trans<|Cg.rfl.sub<|Zx p q s1).mul (Cg.rfl (f:=ci g))|>.add (((UK t0<|xF p q t1).trans<|Cg.rfl.sub<|Zx p q t1).mul<|Cg.rfl (f:=ci h)));simp only[wC,yR,qp,jU,zd];funext k;simp only[zU,yX];lia
 ·have⟨A,B,C,D,e,z2,z3,z4,d1,d2⟩:=a.dv;refine⟨A*ci q+B,A,C*ci q+D,C,(e.mul<|Fs.ci q).add z2,e,(z3.mul<|Fs.ci q).add z4,z3,?_,?_⟩
  ·refine d1.trans<|((Cg.rfl (f:=A)).mul hc|>.add Cg.rfl).trans<|Cg.of ?_;simp only[wC,yR,zd];funext k;simp only[zU];lia
  ·refine d2.trans<|((Cg.rfl (f:=C)).mul hc|>.add Cg.rfl).trans<|Cg.of ?_;simp only[wC,yR,zd];funext k;simp only[zU];lia
 ·have:N*(N+1-X r1)<=N*(N+1-X (XG p r0 (xF p q r1)<|p-1)):=xaC _ W;lia
 ·have:N*(N+1-X r1)<=N*(N+1-X (XG p r0 (xF p q r1)<|p-1)):=xaC _ W;lia
 ·have h1:=Bj p s0 (xF p q s1)<|p-1;have t:=jw p q s1;have b:N*(N+1-X r1+1)<=N*(N+1-X (XG p r0 (xF p q r1)<|p-1)):=xaC _ W;rw[xbn,xea]at b;lia
 ·have h1:=Bj p t0 (xF p q t1)<|p-1;have t:=jw p q t1;have b:N*(N+1-X r1+1)<=N*(N+1-X (XG p r0 (xF p q r1)<|p-1)):=xaC _ W;rw[xbn,xea]at b;lia
def zgV(hp:qk p=wL)(e:N<=290)(i:3000000<=fu)(a:BzI p g h r0 s0 t0 r1 s1 t1 N):
 ∃d s t,zg (Zw fu p) fu ([r0,s0,t0],[r1,s1,t1])=Z [d,s,t]/\BzR p g h d s t (1+N*(N+1)):=by
 obtain⟨r,e1,d,s,t,rfl,j⟩:=yc (f:=Zw fu p) (λx:xS (xS J)×xS (xS J)=>∃r0 s0 t0 r1 s1 t1,x=([r0,s0,t0],[r1,s1,t1])/\BzI p g h r0 s0 t0 r1 s1 t1 N) (λx=>X (x.2.getD 0 [])) (λr=>∃d s t,r=[d,s,t]/\BzR p g h d s t (1+N*(N+1))) (by
  rintro x L ⟨r0,s0,t0,r1,s1,t1,rfl,a⟩ n;unfold Zw;simp only;rw[show(0:J)=((0:K):J)from O,zo i0];show∃r,(if((0:K):J)<(X r1:J)then _ else _)=Z r/\_;by_cases h0:0<X r1
  ·have⟨r2,o,t2,l,q,hc⟩:=a.step (fu:=fu) hp e h0 i;rw[zX,U l];simp_all
  ·rw[zB];have b:ci r1=pc 0:=jp λk=>by rw[yp W,zQ]
   have c:1+N*(N+1-X r1)<=1+N*(N+1):=by
    have:N*(N+1-X r1)<=N*(N+1):=xaC _ W;lia
   have hd:=a.l0;have u:N*1<=N*(N+1):=xaC _ W;refine⟨_,O,r0,s0,t0,O,a.f0,a.g0,a.h0,a.c0,?_,W,xap a.b0 c,xap a.b1 c⟩;have⟨A,B,C,D,m,z2,z3,z4,d1,d2⟩:=a.dv;rw[b,zk B,yu]at d1;rw[b,zk D,yu]at d2;refine⟨A,C,m,z3,d1.trans<|Cg.of ?_,d2.trans<|Cg.of ?_⟩<;>funext k<;>rw[zU,zQ,xcd]) fu ([r0,s0,t0],[r1,s1,t1]) ⟨_,_,_,_,_,_,O,a⟩ (by have:=a.l1;show X r1<fu;lia)
 exact⟨d,s,t,e1,j⟩
theorem uB(hp:qk p=wL)(o:Fp p g)(q:Fp p h)(hu:X g<=290)(hv:X h<=290)(j:3000000<=fu):
 ∃d s t,Zm fu g h p=Z (d,s,t,0)/\BzR p g h d s t (2+max (X g) (X h)*(max (X g) (X h)+1))/\(X d=0\/ci d (X d-1)=1):=by
 have⟨p1,l⟩:=zw hp;unfold Zm;rw[U<|uK hp,iq O,U<|zL W l (o.rl l) W j,U<|zL W l (q.rl l) W j,o.pm,q.pm];have z0:ci ([]:xS J)=pc 0:=jp λk=>by rw[yp<|xan _,zQ]
 have c:∀f:Pz,f+pc 0=f:=λf=>jp λk=>by rw[zU,zQ,xcd]
 have e:∀f:Pz,pc 0+f=f:=λf=>jp λk=>by rw[zU,zQ,xcS]
 have D:BzI p g h g [1] [] h [] [1] (max (X g) (X h)):=by
  refine⟨o,VR,SX,q,SX,VR,Cg.of ?_,Cg.of ?_,⟨pc 1,pc 0,pc 0,pc 1,Fs.pc 1,Fs.pc 0,Fs.pc 0,Fs.pc 1,Cg.of ?_,Cg.of ?_⟩,xeb _ _,xdS _ _,xbM _ _,xan _,xan _,xbM _ _⟩
  ·rw[jQ,z0,zC,yu,c]
  ·rw[jQ,z0,zC,yu,e]
  ·rw[zC,yu,c]
  ·rw[zC,yu,e]
 have⟨d,s,t,e1,b⟩:=zgV (fu:=fu) hp W j D;have hS:max (X g) (X h)*(max (X g) (X h)+1)<=290*291:=xck W W;generalize max (X g) (X h)*(max (X g) (X h)+1)=S at*
 rw[U e1,show(0:J)=((0:K):J)from O,zo i0];show∃r u v,Y (if((0:K):J)<(X d:J)then Z wL else Z I) _=_/\_;by_cases h0:0<X d
 ·have hw:=b.dl;have ht:ci d (X d-1)≠0:=by
   obtain h|h:=b.df.nl
   ·lia
   ·exact h
  have t1:=b.df.nn<|X d-1;have t2:=b.df.lt<|X d-1;have⟨x,E,G,w,H,x5⟩:=J5 (fu:=fu) hp b.df (W:0<ci d (X d-1)) t2 W j;have sc:∀{a:xS J},Fp p a->X a<=90000->qx fu a (ci d<|X d-1) p=Z (xF p a [x]):=λ{a} M hl=>by
   unfold qx;rw[U H];simp only;rw[U<|vj W l M (VR E G) W i7 j]
  rw[zX,U O,iq O,zo i0];show∃r u v,zf ((X d:J)-1) _=_/\_;rw[(W:(X d:J)-1=((X d-1:K):J)),zb];show∃r u v,zI ((X d-1:K):J) (X d) _=_/\_;rw[z8,ze];show∃r u v,Y (zg (vn fu p<|ci d<|X d-1) fu (((0:K):J),[d,s,t])) _=_/\_;have P:zg (vn fu p<|ci d<|X d-1) fu (((0:K):J),[d,s,t])=Z [xF p d [x],xF p s [x],xF p t [x]]:=by
   have⟨n,hn⟩:∃n,fu=n+4:=⟨fu-4,W⟩
   have step:∀(L:J×xS (xS J)->V (xS<|xS J)) (i:K) (y:xS J) (ts:xS (xS J)),i<3->ts.getD i []=y->Fp p y->X y<=90000->
    vn fu p (ci d<|X d-1) L ((i:J),ts)=L (((i+1:K):J),ts.set i<|xF p y [x]):=λL i y ts hi Q R T=>by
    unfold vn;simp only;rw[zX,zo hi,Q,U<|sc R T,zo hi,ze,zb];rfl
   have z:zg (vn fu p<|ci d<|X d-1) (n+4) (((0:K):J),[d,s,t])=Z [xF p d [x],xF p s [x],xF p t [x]]:=by
    rw[kH,step _ 0 d _ i0 O b.df (xap b.dl W),kH,step _ 1 s _ i0 O b.sf (xap b.sl W),kH,step _ 2 t _ i0 O b.tf (xap b.tl W),kH];unfold vn;simp only;rw[ir i0];rfl
   rw[<-hn]at z;exact z
  rw[U P];have hc:∀a:xS J,Cg p (ci<|xF p a [x]) (ci a*pc x):=λa=>by
   have:=Zx p a [x];rw[jQ]at this;exact this
  have hj:Cg p (pc x*pc (ci d<|X d-1)) (pc 1):=λk=>by
   rw[kf];unfold pc;split
   ·rw[w];exact(xaJ i0 W).symm
   ·rfl
  have f1:=jw p d [x];have f2:=jw p s [x];have f3:=jw p t [x];have hz:=b.sl;have hA:=b.tl;simp only[xax,xbP]at f1 f2 f3;have hd:∀k,ci (xF p d [x]) k=(x*ci d k)%p:=λk=>by rw[ah,jQ,zk,zN]
  have hm:X (xF p d [x])=X d:=by
   refine xcP ((qY W _ _).nl.le λk hk=> ?_)<|xbz λhB=> ?_
   ·rw[hd,yp hk,xaA,xau]
   ·have B:=hd<|X d-1;rw[w,yp W]at B;cases B
  refine⟨xF p d [x],xF p s [x],xF p t [x],O,⟨qY W _ _,qY W _ _,qY W _ _,?_,?_,W,W,W⟩,.inr ?_⟩
  ·refine(hc d).trans<|(b.cg.mul Cg.rfl).trans<|Cg.trans (Cg.of ?_)<|Cg.symm<|((hc s).mul Cg.rfl).add<|(hc t).mul Cg.rfl;simp only[wC,yR,zd,zk,zD]
  ·have⟨A,C,z1,z3,d1,d2⟩:=b.dv;have m:∀F:Pz,Cg p (F*ci d) (F*pc (ci d<|X d-1)*ci (xF p d [x])):=λF=>by
    refine Cg.symm<|(Cg.rfl.mul<|hc d).trans<|Cg.trans (Cg.of ?_)<|((Cg.rfl (f:=F*ci d)).mul hj).trans<|Cg.of<|yf _;simp only[zd,zk,zD]
   exact⟨_,_,z1.mul<|Fs.pc _,z3.mul<|Fs.pc _,d1.trans<|m A,d2.trans<|m C⟩
  ·rw[hm,hd,w]
 ·rw[zB,U O,ir i0];exact⟨d,s,t,O,⟨b.df,b.sf,b.tf,b.cg,b.dv,xap b.dl W,xap b.sl W,xap b.tl W⟩,.inl W⟩
end
section
variable{fu:wr}{a l b:xS wl}{p:wl}
def zcW{n:K}(h:n<9223372036854775808):sgn n=(n:J):=by
 unfold sgn;lia
def Aj{x:J}(h0:0<=x)(h:x<9223372036854775808)(f:3000000<=fu):QT fu (yz x)=Z (x,wL):=by
 have c:Bz 1 x:=by unfold Bz;lia
 unfold QT;rw[U<|kU (c.ok i0) f,zn];have g:(yz x).1=I:=by unfold yz;simp;lia
 by_cases d:x=0
 ·subst d;rfl
 ·have hc:=Bw.2 d;have hd:=c.len;obtain⟨n,rfl⟩:=xaE h0;have e:(yz (n:J)).2.getD 0 0=n:=by
   show(yB<|(n:J).natAbs).getD 0 0=n;rw[xaD,Vc,xez,xeq,xaq W]
  rw[zB,U O,ir i0,zB,U O,ir i0,g,ir i0,U O,ir i0,ir i0,show(0:J)=((0:K):J)from O,z8,S,e,zB,z8,S,e,S,zcW W]
def Dj{a:M}(d:eT a)(h1:1<=p)(g:p<=65521)(c:3000000<=fu):KI fu a p=Z (zv a%p,0):=by
 unfold KI;have e:Bz 1 p:=by unfold Bz;lia
 have f:=xi (a:=zv a) (p:=p);rw[U<|yi ⟨W,W⟩ c,U<|Yc d (e.okS i0) c,zn];unfold Gi;rw[zB];simp only[uP];rw[U<|Aj f.1 W c]
def qZ(p:J)(a:N M):N J:=nl (X a)<|λk=>cf a k%p
def KJ(p:J)(a:N M)(k:K):ci (qZ p a) k=cf a k%p:=Cz (λk c=>by rw[ye c,xau]) k
def gh(p:J)(a:N M):Cg p (ci<|qZ p a) (cf a):=λk=>by rw[KJ,xaW]
def QI(hp:0<p)(a:N M):Fp p (qZ p a):=⟨λk=>by rw[KJ];exact(xi hp).1,λk=>by rw[KJ];exact(xi hp).2,tD _ _⟩
def zim(p:J)(a:N M):X (qZ p a)<=X a:=FP _ _
def Zh{k:K}{a:N M}(o:y6 k a)(c:k<=40000)(h1:1<=p)(q:p<=65521)(hl:X a<=1000000:=by lia)(r:3000000<=fu:=by lia):u7 fu a p=Z (qZ p a,0):=by
 unfold u7;have hd:=qH (λk=>cf a k%p) (X a);rw[zB,U (v:=zl (X a)<|λk=>cf a k%p)]
 ·rw[U (v:=qZ p a)];refine zA (λt:N J=>∃m,m<=X a/\t=zl m (λk=>cf a k%p)/\dg (λk=>cf a k%p) m=dg (λk=>cf a k%p) (X a)) (λt=>X t) _ ?_ _ _ ⟨X a,IR _,O,O⟩ (by rw[zZ];lia);rintro t L ⟨m,u,rfl,d⟩ j;unfold iH;rw[zZ]
  cases m with
  |zero=>
   rw[zB];unfold qZ nl;rw[<-d];rfl
  |succ m=>
   rw[zX,(W:((m+1:K):J)-1=(m:J)),zb,z8,S,ks];by_cases h0:cf a m%p=0
   ·rw[iq h0,zb,yF,yW,S,zbp];exact j _ ⟨m,W,O,by rw[<-pj (f:=λk=>cf a k%p) h0,d]⟩<|by rw[zZ,zZ];lia
   ·rw[ir h0];unfold qZ nl;rw[<-d,cF (f:=λk=>cf a k%p) h0]
 ·unfold jq;rw[yF,yW,S,dk,U];refine zA (λs:J×N J=>∃i:K,i<=X a/\s=((i:J),zl (X a) (λk=>if k<i then cf a k%p else 0))) (λs=>X a-s.1.toNat) _ ?_ _ _ ⟨0,xan _,by rw[yU (g:=λk=>if k<0 then cf a k%p else 0)<|λk _=>by rw[zB]];rfl⟩ (by show X a-0<fu;lia);rintro s L ⟨i,hi,rfl⟩ j;unfold uJ;simp only;by_cases h:i<X a
  ·rw[zX,U O];simp only[uP];have e1:WX fu (i:J) (a.getD i (I,[])) p=Z (cf a i%p):=by
    unfold WX;rw[U<|Dj (o.okS c i) h1 q r];rfl
   rw[zo h,S,U e1,zo (by rw[zZ];exact h),S,ZK,zb];refine j _ ⟨i+1,W,?_⟩ (by show X a-((i:J)+1).toNat<X a-(i:J).toNat;lia);congr 1;refine yU λk c=> ?_;unfold Xh;by_cases e:k=i
   ·rw[iq e,zX,e]
   ·rw[ir e];show(if k<i then cf a k%p else 0)=_;by_cases n:k<i
    ·rw[iq n,zX]
    ·rw[ir n,zB]
  ·rw[zB,U O];simp only[xao,uS];congr 1;exact yU λk c=>by rw[zX]
def kY(l:N J):N M:=wU (X l)<|ci l
def jL(l:N J):cf (kY l)=ci l:=jp λk=>jW (λk c=>yp c) k
def NQ(l:N J):X (kY l)<=X l:=by unfold kY;rw[xC];exact qH _ _
def Rl.bz(h:Rl l)(k:K):Bz 1 (ci l k):=by
 have⟨h1,c⟩:=h k;unfold Bz;lia
def Oq(h:Rl l):y6 1 (kY l):=xh h.bz
theorem kZ(h:Rl l)(hl:X l<=1000000)(c:3000000<=fu):jb fu l=Z (kY l):=by
 unfold jb;rw[U (v:=zi (X l)<|ci l)]
 ·rw[U<|zJ (Xf h.bz) i0 (by rw[yn];lia) c,yn,Cw];rfl
 ·unfold jl;rw[yF,yW,S,bg,U];refine zA (λs:J×N M=>∃i:K,i<=X l/\s=((i:J),zi (X l) (λk=>if k<i then ci l k else 0))) (λs=>X l-s.1.toNat) _ ?_ _ _ ⟨0,xan _,by rw[yZ (g:=λk=>if k<0 then ci l k else 0)<|λk _=>by rw[zB]];rfl⟩ (by show X l-0<fu;lia);rintro s L ⟨i,hi,rfl⟩ f;unfold uM;simp only;by_cases h1:i<X l
  ·have e1:Y5 fu (i:J) (l.getD i 0)=Z (yz<|ci l i):=by
    unfold Y5;rw[QK,U<|yi (h i) c]
   rw[zX,zo h1,S,U e1,zo (by rw[yn];exact h1),S,aH,zb];refine f _ ⟨i+1,W,?_⟩ (by show X l-((i:J)+1).toNat<X l-(i:J).toNat;lia);congr 1;refine yZ λk j=> ?_;unfold Xh;by_cases e:k=i
   ·rw[iq e,zX,e]
   ·rw[ir e];show(if k<i then ci l k else 0)=_;by_cases d:k<i
    ·rw[iq d,zX]
    ·rw[ir d,zB]
  ·rw[zB];congr 1;exact yZ λk j=>by rw[zX]
theorem Fv(h:Rl l)(hl:X l<=1000000)(c:3000000<=fu):JM fu l=Z (kY l):=by grind [JM,U,kZ]
def Zf(hp:qk p=wL)(d:Fp p a)(e:Fp p b)(hc:X a<=90000:=by lia)(hd:X b<=90000:=by lia)(f:3000000<=fu:=by lia):kh fu a b p=Z (xF p a b,0):=by
 have⟨g,c⟩:=zw hp;unfold kh;rw[U<|uK hp,iq O,U<|zL W c (d.rl c) W f,U<|zL W c (e.rl c) W f,d.pm,e.pm,U<|vj W c d e W W f]
def eF(hp:qk p=wL)(d:Fp p a)(e:Fp p b)(hc:X a<=90000)(hd:X b<=90000)(f:3000000<=fu):W9 fu a b p=Z (XG p a b<|p-1,0):=by
 have⟨g,c⟩:=zw hp;unfold W9;rw[U<|uK hp,iq O,U<|zL W c (d.rl c) W f,U<|zL W c (e.rl c) W f,d.pm,e.pm,zb,U<|JH W c d e W W W W f]
def J4(hp:qk p=wL)(c:Fp p a)(d:Fp p b)(hd:X a<=90000)(f:X b<=90000)(g:3000000<=fu):Xa fu a b p=Z (decide<|a=b):=by
 have⟨i,j⟩:=zw hp;unfold Xa;rw[U<|eF hp c d hd f g];simp only;have e:=aO (p:=p) W a b<|p-1;have hc:=UK (p:=p) a b;by_cases h:a=b
 ·have hl:X (XG p a b<|p-1)<=0:=e.nl.le λk _=>by
   have:=hc k;rw[e.mod,yX]at this;simp_all
  simp_all
 ·rw[Wl h,if_neg];intro h0;refine h<|c.ext d<|Cg.iff_sub.2<|hc.symm.trans λk=> ?_;rw[yp W,zQ]
end
section
variable{p:wl}{l:xS wl}{fu M i:wr}
def RQ(p:J)(l:N J):Prop:=(∀j,j<X l->0<=ci l j/\ci l j<p)/\1<X l/\ci l (X l-1)=1
def RQ.fp(hp:0<p)(h:RQ p l):Fp p l:=by
 refine⟨λk=> ?_,λk=> ?_,.inr<|by rw[h.2.2];decide⟩
 ·by_cases a:k<X l
  ·exact(h.1 k a).1
  ·rw[yp W];lia
 ·by_cases a:k<X l
  ·exact(h.1 k a).2
  ·rw[yp W];exact hp
theorem KG(hl:X l<=1000000)(n:3000000<=fu):∃b,Xb fu l p=Z b/\(b=wL↔RQ p l):=by
 unfold Xb;have⟨r,e1,g⟩:=yc (f:=Wq fu l p) (λi:J=>∃j:K,i=(j:J)/\j<=X l/\∀t,t<j->0<=ci l t/\ci l t<p) (λi=>X l-i.toNat) (λr=>(r=.inl ()/\∀t,t<X l->0<=ci l t/\ci l t<p)\/(r=.inr ()/\¬∀t,t<X l->0<=ci l t/\ci l t<p)) (by
  rintro i L ⟨j,rfl,o,c⟩ k;unfold Wq;by_cases h1:j<X l
  ·rw[zX,zo h1,S,QK];by_cases a:ci l j<0
   ·grind
   ·rw[ir a];by_cases d:p<=ci l j
    ·rw[iq d];exact⟨_,O,.inr ⟨O,λe=>by have:=(e j h1).2;lia⟩⟩
    ·rw[ir d,zb];refine k _ ⟨j+1,O,W,λt ht=> ?_⟩ W;by_cases m:t=j
     ·rw[m];lia
     ·exact c t W
  ·rw[zB];exact⟨_,O,.inl ⟨O,λt ht=>c t W⟩⟩) fu 0 ⟨0,O,xan _,λt h=>wS h (xbq _)⟩ (by show X l-0<fu;lia)
 rw[U e1];rcases g with⟨rfl,h⟩|⟨rfl,h⟩
 ·simp only;by_cases h1:1<X l
  ·rw[zX,(W:(X l:J)-1=((X l-1:K):J)),zb,z8,S,QK];by_cases a:ci l (X l-1)=1
   ·rw[iq a];exact⟨_,O,λ_=>⟨h,h1,a⟩,λ_=>O⟩
   ·rw[ir a];exact⟨_,O,λe=>wS e i0,λe=>wS e.2.2 a⟩
  ·rw[zB];exact⟨_,O,λe=>wS e i0,λe=>wS e.2.1 h1⟩
 ·exact⟨_,O,λe=>wS e i0,λe=>wS e.1 h⟩
def Qu(p:J)(fs:N (N J)):N J:=fs.foldl (xF p) [1]
def prZ:N Pz->Pz
 |[]=>pc 1
 |f::r=>f*prZ r
theorem vi:∀(a b:N Pz),prZ (a++b)=prZ a*prZ b
 |[],b=>(zC _).symm
 |f::r,b=>by show f*prZ (r++b)=f*prZ r*prZ b;rw[vi r b,zd]
def zaL(p:J):∀(fs:N (N J)) (t:N J),Cg p (ci<|fs.foldl (xF p) t) (ci t*prZ (fs.map ci))
 |[],t=>by show Cg p (ci t) (ci t*pc 1);rw[yf];exact Cg.rfl
 |f::r,t=>by refine(zaL p r<|xF p t f).trans<|((Zx p t f).mul Cg.rfl).trans<|Cg.of<|zd _ _ _
def oV(p:J)(fs:N (N J)):Cg p (ci<|Qu p fs) (prZ<|fs.map ci):=by
 have:=zaL p fs [1];rw[jQ,zC]at this;exact this
def zaB{p:J}(hp:0<p):∀(fs:N (N J)) {t:N J},Fp p t->Fp p (fs.foldl (xF p) t)
 |[],_,h=>h
 |f::r,t,h=>zaB hp r<|qY hp t f
def eC(hp:2<=p)(fs:N (N J)):Fp p (Qu p fs):=zaB W fs<|VR
theorem zbd{p:J}{M:K}:∀{fs:N (N J)}{t:N J},(∀f∈fs,X f<=M)->X (fs.foldl (xF p) t)<=X t+X fs*M
 |[],_,_=>by simp
 |f::r,t,h=>by
  have h1:=zbd (p:=p) (t:=xF p t f) λg a=>h g<|UV _ a;have b:=jw p t f;show(r.foldl (xF p)<|xF p t f).length<=X t+(X r+1)*M;grind
def dw{fs:N (N J)}(h:∀f∈fs,X f<=M):X (Qu p fs)<=1+X fs*M:=zbd h
theorem FZ{l:N (N J)}(h:i<X l):l.getD i []∈l:=by grind
theorem zdn{l:N (N J)}(h:i<X l):l.take (i+1)=l.take i++[l.getD i []]:=by grind [xeu]
def jy{fs:N (N J)}(hp:qk p=wL)(d:∀f∈fs,Fp p f)(a:∀f∈fs,X f<=M)(g:1+X fs*M<=90000)(h:M<=90000)(hc:X fs<=90000:=by lia)(b:3000000<=fu:=by lia):qo fu fs p=Z (Qu p fs):=by
 have⟨j,k⟩:=zw hp;unfold qo;rw[U (v:=Qu p fs)];refine zA (λs:N J×J=>∃i:K,i<=X fs/\s=(Qu p<|fs.take i,(i:J))) (λs=>X fs-s.2.toNat) _ ?_ _ _ ⟨0,xan _,O⟩ (by show X fs-0<fu;lia);rintro s L ⟨i,hi,rfl⟩ e;unfold JK;simp only;by_cases h1:i<X fs
 ·have c:=FZ h1;have hl:=dw (p:=p) (fs:=fs.take i) (M:=M) λf b=>a f<|xdo b;have hd:X (fs.take i)*M<=X fs*M:=xak _<|List.length_take_le' ..;have m:=a _ c;rw[zX,zo h1,S,U<|Zf hp (eC W _)<|d _ c];simp only;rw[zb];refine e _ ⟨i+1,W,?_⟩ (by show X fs-((i:J)+1).toNat<X fs-(i:J).toNat;lia);congr 1;unfold Qu;rw[zdn h1,List.foldl_append];rfl
 ·rw[zB,xaQ W]
def jZ(p:J)(f g:Pz):Prop:=∃s t:Pz,Fs s/\Fs t/\Cg p (s*f+t*g) (pc 1)
theorem jZ.symm{f g:Pz}(h:jZ p f g):jZ p g f:=by
 have⟨s,t,a,z2,h⟩:=h;refine⟨t,s,z2,a,(Cg.of ?_).trans h⟩;funext k;rw[zU,zU,Int.add_comm]
def jZ.mul{p:J}{f g h:Pz}(c:Fs g)(d:Fs h)(e:Fs f)(h1:jZ p f h)(a:jZ p g h):jZ p (f*g) h:=by
 have⟨s,t,b,z2,h1⟩:=h1;have⟨u,v,z3,z4,a⟩:=a;refine⟨s*u,s*f*v+t*(u*g+v*h),b.mul z3,((b.mul e).mul z4).add<|z2.mul<|(z3.mul c).add<|z4.mul d,Cg.trans (Cg.of ?_)<|(h1.mul a).trans<|Cg.of<|zC _⟩;simp only[wC,zD,zk];funext k;simp only[zU];lia
def jZ.one(p:J)(h:Pz):jZ p (pc 1) h:=⟨pc 1,pc 0,Fs.pc 1,Fs.pc 0,Cg.of (by
 rw[zC,yu];funext k;rw[zU,zQ,xcd])⟩
theorem Fs.prZ:∀{fs:N Pz},(∀f∈fs,Fs f)->Fs (prZ fs)
 |[],_=>Fs.pc 1
 |f::r,a=>(a f<|H1).mul<|Fs.prZ λg b=>a g<|UV _ b
theorem jZ.prZ{p:J}{h:Pz}(c:Fs h):∀{fs:N Pz},(∀f∈fs,Fs f)->(∀f∈fs,jZ p f h)->jZ p (prZ fs) h
 |[],_,_=>jZ.one p h
 |f::r,b,d=>jZ.mul (Fs.prZ λg a=>b g<|UV _ a) c (b f<|H1) (d f<|H1)<|jZ.prZ c (λg a=>b g<|UV _ a) λg a=>d g<|UV _ a
def H5{g h d s t:N J}{S:K}(a:BzR p g h d s t S)(hl:X d=1)(h1:ci d (X d-1)=1):jZ p (ci g) (ci h):=by
 have e:ci d=pc 1:=by
  funext k;unfold pc;by_cases b:k=0
  ·simp_all
  ·rw[ir b,yp W]
 have:=a.cg;rw[e]at this;exact⟨ci s,ci t,Fs.ci s,Fs.ci t,this.symm⟩
structure dh(p:J)(a:N Zr)(fs:N (N J)):Prop where
 a0:a.length≠0
 al:(qZ p a).length=a.length
 fl:fs.length<=a.length
 pl:∀i,i<fs.length->(fs.getD i []).length<=a.length/\RQ p (fs.getD i [])
 cp:∀i j,i<fs.length->j<i->jZ p (ci<|fs.getD i []) (ci<|fs.getD j [])
 pr:xF p (Qu p fs) [ci (qZ p a)<|a.length-1]=qZ p a
def Nq{f:N J}{fs:N (N J)}(hp:qk p=wL)(hc:Fp p f)(hd:X f<=290)(hi:i<=X fs)(hl:i<=1000000)(c:∀j,j<i->Fp p (fs.getD j [])/\X (fs.getD j [])<=290)(g:3000000<=fu):
 ∃r,zg (jR fu p f<|fs.take i) fu 0=Z r/\(r=.inl ()->∀j,j<i->jZ p (ci f) (ci<|fs.getD j [])):=by
 have w:X (fs.take i)=i:=by rw[xav];lia
 have k:∀j,j<i->(fs.take i).getD j []=fs.getD j []:=λj a=>by rw[FS,xcn,iq a,<-FS]
 refine yc (λx:J=>∃j:K,x=(j:J)/\j<=i/\∀t,t<j->jZ p (ci f) (ci<|fs.getD t [])) (λx=>i-x.toNat) _ ?_ _ _ ⟨0,O,xan _,λt h=>wS h<|xbq _⟩ (by show i-0<fu;lia);rintro x L ⟨j,rfl,a,b⟩ m;unfold jR;by_cases h1:j<i
 ·have⟨k1,k2⟩:=c j h1;have⟨d,s,t,e1,n,o⟩:=uB (fu:=fu) hp hc k1 hd k2 g;rw[zX,z8,S,k j h1];have q:j8 fu f (fs.getD j []) p=Z (d,0):=by
   unfold j8;rw[U e1]
  rw[U q];simp only;by_cases u:X d=1
  ·rw[zX,zb];refine m _ ⟨j+1,O,W,λt ht=> ?_⟩ W;by_cases v:t=j
   ·rw[v];exact H5 n u<|o.resolve_left W
   ·exact b t W
  ·rw[zB];exact⟨_,O,λe=>wS e i7⟩
 ·rw[zB];exact⟨_,O,λ_ t ht=>b t W⟩
def mJ{k:K}{a:N Zr}{fs:N (N J)}(hp:qk p=wL)(s:y6 k a)(u:k<=40000)(D:X a<=66)(d:3000000<=fu):
 ∃b,vE fu a fs p=Z b/\(b=wL->dh p a fs):=by
 have⟨E,v⟩:=zw hp;unfold vE;rw[U<|Zh s u W v];simp only;by_cases h0:X a=0
 ·simp_all
 ·rw[zB];by_cases hl:X (qZ p a)=X a
  ·rw[zX];by_cases hv:X a<X fs
   ·simp_all
   ·rw[zB]
    have⟨r,e1,w⟩:=yc (f:=jJ fu a fs p) (λx:J×N J=>∃i:K,x=((i:J),qZ p a)/\i<=X fs/\(∀t,t<i->X (fs.getD t [])<=X a/\RQ p (fs.getD t []))/\∀t j,t<i->j<t->jZ p (ci<|fs.getD t []) (ci<|fs.getD j [])) (λx=>X fs-x.1.toNat)
     (λr=>r=.inr ()\/(r=.inl (qZ p a)/\(∀t,t<X fs->X (fs.getD t [])<=X a/\RQ p (fs.getD t []))/\∀t j,t<X fs->j<t->jZ p (ci<|fs.getD t []) (ci<|fs.getD j []))) (by
      rintro x L ⟨i,rfl,hi,g1,g⟩ y;unfold jJ;simp only;by_cases h1:i<X fs
      ·rw[zX,U O];simp only[uP];rw[zo h1,S];by_cases F:X a<X (fs.getD i [])
       ·rw[zX];exact⟨_,O,.inl O⟩
       ·have⟨b,b1,b2⟩:=KG (fu:=fu) (l:=fs.getD i []) (p:=p) W d;rw[zB,U b1]
        cases b with
        |false=>
         rw[iq i0];exact⟨_,O,.inl O⟩
        |true=>
         have hd:=b2.1 O;rw[ir i0,yF,yW,S];have⟨q,q1,q2⟩:=Nq (fu:=fu) (i:=i) (fs:=fs) hp (hd.fp W) W W W (λj c=>⟨(g1 j c).2.fp W,by have:=(g1 j c).1;lia⟩) d;rw[U q1];obtain q|q:=q
         ·simp only;rw[zb];refine y _ ⟨i+1,O,W,λt ht=> ?_,λt j ht c=> ?_⟩ (by show X fs-((i:J)+1).toNat<X fs-(i:J).toNat;lia)
          ·by_cases n:t=i
           ·rw[n];exact⟨W,hd⟩
           ·exact g1 t W
          ·by_cases n:t=i
           ·rw[n]at c⊢;exact q2 O j c
           ·exact g t j W c
         ·exact⟨_,O,.inl O⟩
      ·rw[zB,U O];simp only[xao,uS];exact⟨_,O,.inr ⟨O,λt ht=>g1 t W,λt j ht c=>g t j W c⟩⟩) fu (0,qZ p a) ⟨0,O,xan _,λt h=>wS h (xbq _),λt j h=>wS h (xbq _)⟩ (by show X fs-0<fu;lia)
    rw[U e1];obtain rfl|⟨rfl,g1,g⟩:=w
    ·exact⟨_,O,λe=>wS e i0⟩
    ·simp only;have hc:∀{q:N J->Prop},(∀t,t<X fs->q (fs.getD t []))->∀f∈fs,q f:=λ{q} h f d=>by
      obtain⟨j,c,rfl⟩:=xcE.1 d;have:=h j c;rw[FS,xab c]at this;exact this
     have hn:∀f∈fs,Fp p f:=hc λt ht=>(g1 t ht).2.fp W;have o:∀f∈fs,X f<=66:=hc λt ht=>by have:=(g1 t ht).1;lia
     have G:X fs*66<=66*66:=xak _ W;have hd:=dw (p:=p) o;have m:=QI (p:=p) W a;have H:ci (qZ p a) (X a-1)≠0:=by
      obtain h|h:=m.nl
      ·lia
      ·rw[hl]at h;exact h
     have P:=m.nn<|X a-1;have z:=m.lt<|X a-1;have A:(qZ p a).drop (X a-1)=[ci (qZ p a)<|X a-1]:=by
      rw[xcb W,xbW W];unfold ci;rw[FS,xab W];rfl
     have B:=VR (p:=p) (x:=ci (qZ p a)<|X a-1) W z;have C:=jw p (Qu p fs) [ci (qZ p a)<|X a-1];simp only[xax,xbP]at C;rw[U (jy hp hn o W i0),hl,(W:(X a:J)-1=((X a-1:K):J)),zb,yF,yW,S,A,U<|Zf hp (eC W fs) B W i7];simp only;rw[U<|J4 hp (qY W _ _) m W W d];exact⟨_,O,λe=>⟨h0,hl,W,g1,g,Ws e⟩⟩
  ·rw[zB];exact⟨_,O,λe=>wS e i0⟩
end
section
variable{k fu K:wr}{a b d f g h s:xS Zr}{m:wl}
def aQ(a b:N M):N M:=wU (max (X a) (X b))<|λj=>cf a j+cf b j
def zaQ(a b:N M)(k:wr):cf (aQ a b) k=cf a k+cf b k:=jW (λj c=>W7 c) k
def dN(a b:N M):X (aQ a b)<=max (X a) (X b):=by unfold aQ;rw[xC];exact qH _ _
def oJ(c:y6 k a)(e:y6 k b):y6 (k+1) (aQ a b):=xh λj=>(c.bz j).add<|e.bz j
def nX(c:y6 k a)(e:y6 k b)(i:k+1<=100000)(hc:X a<=1000000)(hd:X b<=1000000)(j:3000000<=fu):qj fu a b=Z (aQ a b):=dQ c e i hc hd j
def PB:N M:=kY [1]
def zkg:(cf PB:Pz)=pc 1:=by unfold PB;rw[jL,jQ]
def zea:X PB<=1:=NQ [1]
def ze8:Rl [1]:=λk=>by
 rw[jQ];unfold pc;split<;>exact⟨i0,i0⟩
def za6:y6 1 PB:=Oq ze8
def c9(f g h:N M)(m:J):N M:=vH (aR f<|y9 g h) m
def EE(x d:N M)(m:J):N M:=ET (vH x m) d m
def BE(x d:N M)(m:J):N M:=WA (vH x m) d m
def puG(f g h s t:N M)(m:J):N M:=vH (aQ g<|aQ (y9 t<|c9 f g h m)<|y9 (EE (y9 s<|c9 f g h m) h m) g) m
def E6(f g h s:N M)(m:J):N M:=vH (aQ h<|BE (y9 s<|c9 f g h m) h m) m
def iu(g h s t:N M)(m:J):N M:=vH (aR (aQ (y9 s g)<|y9 t h) PB) m
def puS(g h s t:N M)(m:J):N M:=vH (aR s<|BE (y9 s<|iu g h s t m) h m) m
def puT(g h s t:N M)(m:J):N M:=vH (aR t<|aQ (y9 t<|iu g h s t m)<|y9 (EE (y9 s<|iu g h s t m) h m) g) m
def ze2{x:N M}(c:Bz K m)(h0:0<m):y6 K (EE x d m):=xh λj=>c.emod h0
def zfW{x:N M}(c:Bz K m)(h0:0<m):y6 K (BE x d m):=xh λj=>c.emod h0
theorem zbI(x d:N M)(m:J):X (EE x d m)<=X x+1:=by grind [ET,EE,xC,YQ,qH]
theorem zaH(x d:N M)(m:J):X (BE x d m)<=X x:=by grind [WA,BE,xC,qH,YQ]
def Hp{x:N M}(c:0<X d)(hc:cf d (X d-1)=1):X (BE x d m)<X d:=EP c hc
def zbT(i:2<=m)(hl:0<X h)(h1:cf h (X h-1)=1):X (E6 f g h s m)=X h/\cf (E6 f g h s m) (X h-1)=1:=by
 have j:=Hp (x:=y9 s<|c9 f g h m) (m:=m) hl h1;have e:∀k,cf (E6 f g h s m) k=(cf h k+cf (BE (y9 s<|c9 f g h m) h m) k)%m:=λk=>by unfold E6;rw[uz,zaQ]
 have e1:cf (E6 f g h s m) (X h-1)=1:=by
  rw[e,h1,ye (p:=BE _ _ _) W];exact xaJ i0 W
 refine⟨xcP (Ib (U1 _ _) λk c=> ?_)<|xbz λl=> ?_,e1⟩
 ·have:=e k;unfold E6 at this;rw[this,ye c,ye (p:=BE _ _ _) W,xcd,xau]
 ·rw[ye W]at e1;cases e1
def gM{W:wr}{t:N M}{m:M}(E:y6 K f)(l:y6 K g)(r:y6 K h)(e:y6 K s)(ht:y6 K t)(lf:X f<=W)(lg:X g<=W)(lh:X h<=W)(ls:X s<=W)(lt:X t<=W)(hW:W<=5000)(hi:1<=K)(hK:K<=1000)(hc:zm m.2)(hd:X m.2<=K)(h2:2<=zv m)(hl:0<X h)(h1:cf h (X h-1)=1)(c:3000000<=fu):
 jN fu [g,h,s,t] f m=Z [puG f g h s t<|zv m,E6 f g h s<|zv m,puS (puG f g h s t<|zv m) (E6 f g h s<|zv m) s t<|zv m,puT (puG f g h s t<|zv m) (E6 f g h s<|zv m) s t<|zv m]:=by
 have j:Bz K (zv m):=(Bz.of hc).mono hd;have n:eT m:=⟨hc,iP⟩;have h0:0<zv m:=iP
 unfold jN;rw[DQ (i:=0) i0,S,DQ (i:=1) i0,S,DQ (i:=2) i0,S,DQ (i:=3) i0,S,show[g,h,s,t].getD (Int.toNat 0) []=g from O,show[g,h,s,t].getD (Int.toNat 1) []=h from O,show[g,h,s,t].getD (Int.toNat 2) []=s from O,show[g,h,s,t].getD (Int.toNat 3) []=t from O];have o:=Xj l r;have l1:=ua g h;have F:=UJ f<|y9 g h;rw[U<|wa l r iP iP c,U<|Za (k:=K+K+X g) (E.mono iP) o iP iP iP c,U<|Y2 (Bq (E.mono iP) o) iP n h0,show vH (aR f<|y9 g h) (zv m)=c9 f g h (zv m)from O];have u:y6 K (c9 f g h<|zv m):=au j h0;have le:X (c9 f g h<|zv m)<=W+W:=xap (YQ _ _) iP;have v:=Xj e u;have L:=ua s<|c9 f g h<|zv m;have C:=ze2 (x:=y9 s<|c9 f g h<|zv m) (d:=h) j h0;have pr:=zfW (x:=y9 s<|c9 f g h<|zv m) (d:=h) j h0;have lq:=zbI (y9 s<|c9 f g h<|zv m) h<|zv m;have lr:=zaH (y9 s<|c9 f g h<|zv m) h<|zv m;rw[U<|wa e u iP iP c,U<|QA v iP r hc hd h0 hl iP iP c,show ET (vH (y9 s<|c9 f g h<|zv m)<|zv m) h (zv m)=EE (y9 s<|c9 f g h<|zv m) h (zv m)from O,show WA (vH (y9 s<|c9 f g h<|zv m)<|zv m) h (zv m)=BE (y9 s<|c9 f g h<|zv m) h (zv m)from O];simp only;have p:=Xj ht u;have P:=ua t<|c9 f g h<|zv m;have w:=Xj C l;have Q:=ua (EE (y9 s<|c9 f g h<|zv m) h<|zv m) g;have q:=oJ (k:=K+K+W+W+W+1) (p.mono iP) (w.mono iP);have R:=dN (y9 t<|c9 f g h<|zv m)<|y9 (EE (y9 s<|c9 f g h<|zv m) h<|zv m) g;have y:=oJ (k:=K+K+W+W+W+2) (l.mono iP) q;have T:=dN g<|aQ (y9 t<|c9 f g h<|zv m)<|y9 (EE (y9 s<|c9 f g h<|zv m) h<|zv m) g;rw[U<|wa ht u iP iP c,U<|wa C l iP iP c,U<|nX (k:=K+K+W+W+W+1) (p.mono iP) (w.mono iP) iP iP iP c,U<|nX (k:=K+K+W+W+W+2) (l.mono iP) q iP iP iP c,U<|Y2 y iP n h0,show vH (aQ g<|aQ (y9 t<|c9 f g h<|zv m)<|y9 (EE (y9 s<|c9 f g h<|zv m) h<|zv m) g) (zv m)=puG f g h s t (zv m)from O];have V:=dN h<|BE (y9 s<|c9 f g h<|zv m) h<|zv m;rw[U<|nX r pr iP iP iP c,U<|Y2 (oJ r pr) iP n h0,show vH (aQ h<|BE (y9 s<|c9 f g h<|zv m) h<|zv m) (zv m)=E6 f g h s (zv m)from O];have⟨hj,hk⟩:=zbT (f:=f) (g:=g) (s:=s) h2 hl h1;have A:y6 K (puG f g h s t<|zv m):=au j h0;have D:y6 K (E6 f g h s<|zv m):=au j h0;have lG:X (puG f g h s t<|zv m)<=4*W+1:=xap (YQ _ _) iP;clear l1 F L P Q R T V o v p w q y u le C pr lq lr;generalize puG f g h s t (zv m)=G at*
 generalize E6 f g h s (zv m)=H at*
 have o:=Xj e A;have l1:=ua s G;have v:=Xj ht D;have F:=ua t H;have p:=oJ (k:=K+K+W) (o.mono iP) (v.mono iP);have L:=dN (y9 s G)<|y9 t H;have P:=UJ (aQ (y9 s G)<|y9 t H) PB;have Q:=zea;rw[U<|wa e A iP iP c,U<|wa ht D iP iP c,U<|nX (k:=K+K+W) (o.mono iP) (v.mono iP) iP iP iP c];rw[U<|Fv ze8 i0 c,show kY [1]=PB from O,U<|Za p (za6.mono iP) iP iP iP c,U<|Y2 (Bq p<|za6.mono iP) iP n h0,show vH (aR (aQ (y9 s G)<|y9 t H) PB) (zv m)=iu G H s t (zv m)from O];have B:y6 K (iu G H s t<|zv m):=au j h0;have lb:X (iu G H s t<|zv m)<=5*W+2:=xap (YQ _ _) iP;have w:=Xj e B;have R:=ua s<|iu G H s t<|zv m;have z:=ze2 (x:=y9 s<|iu G H s t<|zv m) (d:=H) j h0;have pd:=zfW (x:=y9 s<|iu G H s t<|zv m) (d:=H) j h0;have lc:=zbI (y9 s<|iu G H s t<|zv m) H<|zv m;have ld:=zaH (y9 s<|iu G H s t<|zv m) H<|zv m;have T:=UJ s<|BE (y9 s<|iu G H s t<|zv m) H<|zv m;rw[U<|wa e B iP iP c,U<|QA w iP D hc hd h0 iP iP iP c,show ET (vH (y9 s<|iu G H s t<|zv m)<|zv m) H (zv m)=EE (y9 s<|iu G H s t<|zv m) H (zv m)from O,show WA (vH (y9 s<|iu G H s t<|zv m)<|zv m) H (zv m)=BE (y9 s<|iu G H s t<|zv m) H (zv m)from O];simp only;rw[U<|Za e pd iP iP iP c,U<|Y2 (Bq e pd) iP n h0,show vH (aR s<|BE (y9 s<|iu G H s t<|zv m) H<|zv m) (zv m)=puS G H s t (zv m)from O];have q:=Xj ht B;have V:=ua t<|iu G H s t<|zv m;have y:=Xj z A;have l9:=ua (EE (y9 s<|iu G H s t<|zv m) H<|zv m) G;have Y:=oJ (k:=K+K+6*W+3) (q.mono iP) (y.mono iP);have a0:=dN (y9 t<|iu G H s t<|zv m)<|y9 (EE (y9 s<|iu G H s t<|zv m) H<|zv m) G;have a1:=UJ t<|aQ (y9 t<|iu G H s t<|zv m)<|y9 (EE (y9 s<|iu G H s t<|zv m) H<|zv m) G;rw[U<|wa ht B iP iP c,U<|wa z A iP iP c,U<|nX (k:=K+K+6*W+3) (q.mono iP) (y.mono iP) iP iP iP c,U<|Za (ht.mono iP) Y iP iP iP c,U<|Y2 (Bq (ht.mono iP) Y) iP n h0,show vH (aR t<|aQ (y9 t<|iu G H s t<|zv m)<|y9 (EE (y9 s<|iu G H s t<|zv m) H<|zv m) G) (zv m)=puT G H s t (zv m)from O]
end
section
variable{d f g h s t:xS Zr}{m:wl}
def YS(a:N M)(m:J):Cg m (cf<|vH a m) (cf a):=λk=>by rw[uz,xaW]
def Lr(a b:N M):(cf (aR a b):Pz)=cf a-cf b:=jp λk=>zaD a b k
def Dh(a b:N M):(cf (aQ a b):Pz)=cf a+cf b:=jp λk=>zaQ a b k
def zfL{x:N M}(b:0<X d)(hc:cf d (X d-1)=1):Cg m (cf x) ((cf (EE x d m):Pz)*cf d+cf (BE x d m)):=by
 intro k;unfold EE BE;rw[zU,<-kT,me W b hc,xei,xaW,<-xei];have c:=uz x m k;generalize vH x m=r at*
 have⟨qn,a⟩:∃qn,qn=X r+1-X d:=⟨_,O⟩;have hd:∀j,j<qn->cf (ET r d m) j=dvC r d m qn j:=λj i=>by
  rw[za0];unfold dvQ dvC;simp_all
 have e:X (ET r d m)<=qn:=by unfold ET;rw[xC,<-a];exact qH _ _
 have h:=zat hd k qn<|IR _;rw[BD,Pq e]at h;rw[Ly,<-a,Int.add_comm,<-h,c,xaW]
def ey{n x:J}(hn:n∣m)(a:n∣x):n∣x%m:=by
 rw[Int.emod_def];exact xdB a<|xbw hn<|xce _ _
def Ba{r d:N M}{n m:J}{qn:K}(hn:n∣m)(a:∀k,n∣cf r k):∀s k,n∣dvF r d m qn s k
 |0,k=>a k
 |s+1,k=>xdB (Ba hn a s k)<|xbw (ey hn<|Ba hn a s _)<|xce _ _
def zhm{x:N M}{n:J}(hn:n∣m)(b:Cg n (cf x) (pc 0))(c:0<X d)(hc:cf d (X d-1)=1):Cg n (cf<|EE x d m) (pc 0)/\Cg n (cf<|BE x d m) (pc 0):=by
 have a:∀k,n∣cf (vH x m) k:=λk=>by rw[uz];exact ey hn<|b.dvd k
 refine⟨Cg.of_dvd λk=> ?_,Cg.of_dvd λk=> ?_⟩
 ·unfold EE;rw[za0];refine ey hn ?_;unfold dvQ;split
  ·exact ey hn<|Ba hn a _ _
  ·simp_all
 ·unfold BE;rw[me W c hc];exact ey hn<|Ba hn a _ _
def zlo{n:J}(c:m∣n*n)(hn:n∣m)(h1:Cg n (cf f) ((cf g:Pz)*cf h))(e:Cg n ((cf s:Pz)*cf g+(cf t:Pz)*cf h) (pc 1))(a:0<X h)(hc:cf h (X h-1)=1):
 Cg m (cf f) ((cf (puG f g h s t m):Pz)*cf (E6 f g h s m))/\Cg n (cf<|puG f g h s t m) (cf g)/\Cg n (cf<|E6 f g h s m) (cf h):=by
 have b:Cg m (cf<|c9 f g h m) ((cf f:Pz)-(cf g:Pz)*cf h):=by
  refine(YS _ _).trans<|Cg.of ?_;rw[Lr,kT]
 have i:Cg n (cf<|c9 f g h m) (pc 0):=(b.down hn).trans<|Cg.iff_sub.1 h1;have hd:Cg m ((cf s:Pz)*cf (c9 f g h m)) ((cf (EE (y9 s<|c9 f g h m) h m):Pz)*cf h+cf (BE (y9 s<|c9 f g h m) h m)):=by
  rw[<-kT];exact zfL a hc
 have⟨j,z2⟩:=zhm (x:=y9 s<|c9 f g h m) (d:=h) hn (by rw[kT];exact i.mul_zero_l _) a hc;refine zd4 c hn (q:=cf<|EE (y9 s<|c9 f g h m) h m) (r:=cf<|BE (y9 s<|c9 f g h m) h m) h1 e b hd j z2 ?_ ?_
 ·refine(YS _ _).trans<|Cg.of ?_;rw[Dh,Dh,kT,kT]
 ·refine(YS _ _).trans<|Cg.of ?_;rw[Dh]
def zmX{n:J}(a:m∣n*n)(hn:n∣m)(b:Cg n ((cf s:Pz)*cf g+(cf t:Pz)*cf h) (pc 1))(c:0<X h)(hc:cf h (X h-1)=1):
 Cg m ((cf (puS g h s t m):Pz)*cf g+(cf (puT g h s t m):Pz)*cf h) (pc 1):=by
 have e:Cg m (cf<|iu g h s t m) ((cf s:Pz)*cf g+(cf t:Pz)*cf h-pc 1):=by
  refine(YS _ _).trans<|Cg.of ?_;rw[Lr,Dh,kT,kT,zkg]
 have hd:Cg m ((cf s:Pz)*cf (iu g h s t m)) ((cf (EE (y9 s<|iu g h s t m) h m):Pz)*cf h+cf (BE (y9 s<|iu g h s t m) h m)):=by
  rw[<-kT];exact zfL c hc
 refine zdQ a hn b e hd ?_ ?_
 ·refine(YS _ _).trans<|Cg.of ?_;rw[Lr]
 ·refine(YS _ _).trans<|Cg.of ?_;rw[Lr,Dh,kT,kT]
def zbk{a b:N M}(e:0<X a)(hc:0<X b)(c:cf b (X b-1)=1):((cf a:Pz)*cf b) (X a-1+(X b-1))=cf a (X a-1):=by
 rw[wI,wA (i:=X a-1) λi hi=> ?_,zX,(W:X a-1+(X b-1)-(X a-1)=X b-1),c,xcY];by_cases h:i<X a-1
 ·rw[ye (p:=b) W,xaA]
 ·rw[ye W,xbd]
theorem za9(q:2<=m)(c:vH g m=g)(e:vH f m=f)(r:0<X f)(hl:0<X h)(hn:cf h (X h-1)=1)(hc:Cg m (cf f) ((cf g:Pz)*cf h)):
 X f=X g+(X h-1)/\0<X g/\cf g (X g-1)=cf f (X f-1):=by
 have l:=U1 g m;have a:=U1 f m;rw[c]at l;rw[e]at a;have o:∀k,cf g k%m=cf g k:=λk=>by rw[<-uz,c]
 have hd:∀k,cf f k%m=cf f k:=λk=>by rw[<-uz,e]
 have hp:=Xp a W;have g0:0<X g:=by
  refine xcJ λh0=>hp ?_;rw[<-hd,hc,wI,yL λi hi=>by rw[ye (p:=g) W,xbd],xau]
 have u:=Xp l W;have ht:=hc<|X g-1+(X h-1);rw[zbk g0 hl hn,hd,o]at ht;have e1:X f=X g+(X h-1):=by
  refine xcP (Ib a λk v=> ?_)<|xbz λw=> ?_
  ·rw[<-hd,hc,ue (n:=X g) (m:=X h) (λj b=>ye b)<|λj b=>ye b,xau]
  ·rw[ye (p:=f) W]at ht;lia
 grind
end
section
variable{r0 r1 a b K fu:wr}{u0 u1 v0 v1:wl}
structure ZbI(a b:wr)(r0 r1:wr)(u0 v0 u1 v1:J):Prop where
 p0:0<r0
 le0:r0<=max a b
 le1:r1<=max a b
 e0:u0*a+v0*b=r0
 e1:u1*a+v1*b=r1
 g:xdt r0 r1=xdt a b
 su:∃x y:wr,((u0=x/\u1= -y)\/(u0= -x/\u1=y))/\r0*y+r1*x=b
 sv:∃x y:wr,((v0=x/\v1= -y)\/(v0= -x/\v1=y))/\r0*y+r1*x=a
 bu0:u0.natAbs<=b
 bu1:u1.natAbs<=b
 bv0:v0.natAbs<=a
 bv1:v1.natAbs<=a
def NI{c:wr}(i:0<r1)(h:∃x y:wr,((u0=x/\u1= -y)\/(u0= -x/\u1=y))/\r0*y+r1*x=c):
 (∃x y:wr,((u1=x/\u0-((r0/r1:wr):J)*u1= -y)\/(u1= -x/\u0-((r0/r1:wr):J)*u1=y))/\r1*y+r0%r1*x=c)/\(u0-((r0/r1:wr):J)*u1).natAbs<=c:=by
 have⟨x,y,g,j⟩:=h;have hc:=xbu r0 r1;generalize r0/r1=q at*
 generalize r0%r1=r2 at*
 have e1:r1*(x+q*y)+r2*y=c:=by
  rw[xbn,<-xaT];have:r0*y=r1*q*y+r2*y:=by rw[<-xbf,hc]
  lia
 have k:x+q*y<=c:=by
  have l:1*(x+q*y)<=r1*(x+q*y):=xak _ W;lia
 have f:((q*y:wr):J)=(q:J)*(y:J):=i7
 rcases g with⟨d,e⟩|⟨d,e⟩
 ·rw[d,e,Int.mul_neg,<-f];exact⟨⟨y,x+q*y,.inr ⟨O,W⟩,e1⟩,W⟩
 ·rw[d,e,<-f];exact⟨⟨y,x+q*y,.inl ⟨O,W⟩,e1⟩,W⟩
theorem ZbI.step(h:ZbI a b r0 r1 u0 v0 u1 v1)(c:0<r1):ZbI a b r1 (r0%r1) u1 v1 (u0-((r0/r1:wr):J)*u1) (v0-((r0/r1:wr):J)*v1):=by
 have⟨d,e⟩:=NI c h.su;have⟨t1,t2⟩:=NI c h.sv;have hd:=xbu r0 r1;have i:=xaU r0 c;have f:=h.le1;refine⟨c,f,W,h.e1,?_,?_,d,t1,h.bu1,e,h.bv1,t2⟩
 ·have e0:=h.e0;have e1:=h.e1;have hc:(r0:J)=(r1:J)*((r0/r1:wr):J)+((r0%r1:wr):J):=W
  grind
 ·rw[<-h.g,xdN r1,<-Nat.gcd_rec,xdN]
theorem Bz.nat{n:wr}(h:n<18446744073709551616^K):Bz K (n:J):=by unfold Bz;exact h
def gW{q x0 e z0 f g h:J}(c:Bz K q)(h1:Bz K x0)(l:Bz K e)(m:Bz K z0)(i:Bz K f)(j:Bz K g)(k:Bz K h)(n:K<=10000)(d:3000000<=fu):
 ZC fu (yz x0,(yz e,yz z0)) (yz q) (yz f,(yz g,yz h))=Z (yz<|x0-q*f,(yz<|e-q*g,yz<|z0-q*h)):=by
 unfold ZC;have b1:=c.mul i;have b2:=c.mul j;have b3:=c.mul k;rw[U<|zV (c.ok W) (i.ok W) d,zn,zn,U<|qi (h1.ok W) (b1.ok W) d,zn,zn,U<|zV (c.ok W) (j.ok W) d,zn,zn,U<|qi (l.ok W) (b2.ok W) d,zn,zn,U<|zV (c.ok W) (k.ok W) d,zn,zn,U<|qi (m.ok W) (b3.ok W) d,zn,zn]
def If(h:r1<=r0:=by lia)(c:0<r1:=by lia):bl (r0%r1)<bl r0:=by
 have f:=xbu r0 r1;have hc:=xaU r0 c;have d:1<=r0/r1:=(xcy c).2 W;have h1:r1*1<=r1*(r0/r1):=xaC _ d;have g:=CQ r0;have hp:1<=bl r0:=by rw[cB];lia
 have e:2^bl r0=2*2^(bl r0-1):=by rw[<-xdV,(W:(bl r0-1).succ=bl r0)]
 have:=UI (n:=r0%r1) (k:=bl r0-1) W;lia
def zcl(q:a<18446744073709551616^K)(t:b<18446744073709551616^K)(w:K<=1000)(f:3000000<=fu)(c:ZbI a b r0 r1 u0 v0 u1 v1):
 ∃r,zg (VU fu) fu ((yz r0,(yz u0,yz v0)),(yz r1,(yz u1,yz v1)))=Z r/\∃u v:J,r=(yz (xdt a b:wr),(yz u,yz v))/\u*a+v*b=(xdt a b:wr)/\u.natAbs<=b/\v.natAbs<=a:=by
 have hc:∀{n:wr},n<=max a b->bl n<=64*K:=λ{n} hn=>UI (by
  rw[xch,FT];lia)
 refine yc (λs:(M×(M×M))×(M×(M×M))=>∃(r0 r1:wr) (u0 v0 u1 v1:J),s=((yz r0,(yz u0,yz v0)),(yz r1,(yz u1,yz v1)))/\ZbI a b r0 r1 u0 v0 u1 v1) (λs=>bl (zv s.1.1).natAbs+bl (zv s.2.1).natAbs+if(zv s.1.1).natAbs<(zv s.2.1).natAbs then 1 else 0) _ ?_ _ _ ⟨r0,r1,u0,v0,u1,v1,O,c⟩ ?_
 ·rintro s L ⟨r0,r1,u0,v0,u1,v1,rfl,c⟩ k;have d:∀x:J,x.natAbs<=max a b->Bz K x:=λx y=>by unfold Bz;lia
  have z0:Bz K (r0:J):=d _ (by have:=c.le0;lia);have h:Bz K (r1:J):=d _ (by have:=c.le1;lia);unfold VU;simp only;rw[U<|xe (h.ok W) f,zn];by_cases h0:r1=0
  ·rw[iq<|xN.2 W];have i:=c.g;rw[h0,Nat.gcd_zero_right]at i;exact⟨_,O,u0,v0,by rw[i],by rw[c.e0,i],c.bu0,c.bv0⟩
  ·rw[ir<|λe=>h0 (by have:=xN.1 e;lia),U<|Ub (z0.okS W) (h.okS W) f,zn,zn];unfold Ln;rw[zB];simp only;have l:((r0:J)/(r1:J))=((r0/r1:wr):J):=O;have m:Bz K ((r0/r1:wr):J):=Bz.nat (by
    have h1:=xcM r0 r1;have j:=c.le0;lia)
   have o:=c.step W;have hd:=xbu r0 r1;have p:(r0:J)-((r0/r1:wr):J)*(r1:J)=((r0%r1:wr):J):=by
    have:(r0:J)=((r1*(r0/r1)+r0%r1:wr):J):=by rw[hd]
    conv=>lhs;rw[this]
    rw[hd];have j:(r0:J)=(r1:J)*((r0/r1:wr):J)+((r0%r1:wr):J):=by rw[this];simp
    rw[xbE];lia
   rw[l,U<|gW m z0 (d _ (by have:=c.bu0;lia)) (d _ (by have:=c.bv0;lia)) h (d _ (by have:=c.bu1;lia)) (d _ (by have:=c.bv1;lia)) W f,p];refine k _ ⟨_,_,_,_,_,_,O,o⟩ ?_;simp only[zn,xaD];have z:=xaU r0 (W:0<r1);rw[zB];by_cases hi:r0<r1
   ·rw[iq hi,xaq hi];lia
   ·have:=If (r0:=r0) (r1:=r1);lia
 ·simp only[zn,xaD];have h1:=hc c.le0;have j:=hc c.le1;split<;>lia
theorem sn{x y:M}(d:zm x.2)(f:zm y.2)(hc:X x.2<=K)(hd:X y.2<=K)(h:zv x=(a:J))(i:zv y=(b:J))(j:0<a)(o:0<b)(k:K<=1000)(c:3000000<=fu):
 ∃u v:J,Wz fu x y=Z (yz (xdt a b:wr),yz u,yz v)/\u*a+v*b=(xdt a b:wr)/\u.natAbs<=b/\v.natAbs<=a:=by
 have g:A x.2=a:=by have:=vK x;lia
 have nb:A y.2=b:=by have:=vK y;lia
 have l:a<18446744073709551616^K:=by rw[<-g];exact xah (vv d)<|xal i0 hc
 have m:b<18446744073709551616^K:=by rw[<-nb];exact xah (vv f)<|xal i0 hd
 have n:ZbI a b a b 1 0 0 1:=by refine⟨j,xeb _ _,xdS _ _,W,W,O,⟨1,0,.inl ⟨O,O⟩,W⟩,⟨0,1,.inr ⟨O,O⟩,W⟩,W,W,W,W⟩
 obtain⟨r,e1,u,v,rfl,p,q,s⟩:=zcl (fu:=fu) l m k c n;unfold Wz;rw[U (yE d W W),U<|yi i0 c,U<|yi i0 c,U (yE f W W),U<|yi i0 c,U<|yi i0 c,ir i0,ir i0,g,nb,U e1];simp only;rw[U<|xe ⟨d,W⟩ c,ir (λe=>by rw[h,vM W]at e;exact wS e i0),U O,U<|xe ⟨f,W⟩ c,ir (λe=>by rw[i,vM W]at e;exact wS e i0),U O];grind
end
section
variable{p m:wl}{d:xS wl}{k K:wr}{f:xS Zr}
def O5{x:Pz}(hp:2<=p)(g:Fs x)(r:0<lM d)(hd:ci d (lM d-1)=1)(h:Cg p (x*ci d) (pc 1)):lM d=1:=by
 have⟨n,hn⟩:=g;have⟨X,b⟩:∃X,X=nl n (λk=>x k%p):=⟨_,O⟩;have a:∀k,ci X k=x k%p:=λk=>by
  rw[b];exact Cz (λj o=>by rw[hn j o,xau]) k
 have q:Nl X:=by rw[b];exact tD _ _
 have c:Cg p (ci X*ci d) (pc 1):=(Cg.mul (λk=>by rw[a,xaW]) Cg.rfl).trans h;obtain h0|h0:=q
 ·have h1:=c 0;rw[wI,yL λi hi=>by rw[yp (l:=X) W,xbd]]at h1;unfold pc at h1;rw[iq O,xau,xaJ i0 W]at h1;cases h1
 ·have s:0<lM X:=xcJ λe=>h0 (yp W);have ht:(ci X*ci d) (lM X-1+(lM d-1))=ci X (lM X-1):=by
   rw[wI,wA (i:=lM X-1) λi hi=> ?_,zX,(W:lM X-1+(lM d-1)-(lM X-1)=lM d-1),hd,xcY];by_cases hc:i<lM X-1
   ·rw[yp (l:=d) W,xaA]
   ·rw[yp (l:=X) W,xbd]
  have h1:=c<|lM X-1+(lM d-1);rw[ht,a,xaW,<-a]at h1;refine Decidable.byContradiction λhl=> ?_;unfold pc at h1;rw[zB,xau]at h1;exact h0 h1
def zh2{g h s t:N J}{S:wr}(hp:2<=p)(a:BzR p g h d s t S)(hd:X d=0\/ci d (X d-1)=1)(hc:jZ p (ci g) (ci h)):Cg p (ci s*ci g+ci t*ci h) (pc 1):=by
 have⟨A,C,c,z2,d1,d2⟩:=a.dv;have⟨u,v,z3,z4,hc⟩:=hc;have b:Cg p ((u*A+v*C)*ci d) (pc 1):=by
  refine Cg.trans (Cg.of ?_)<|(((Cg.rfl (f:=u)).mul d1.symm).add<|(Cg.rfl (f:=v)).mul d2.symm).trans hc;rw[yR,zd,zd]
 have j:0<X d:=by
  refine xcJ λe=> ?_;have h1:=b 0;rw[wI,yL λi hi=>by rw[yp (l:=d) W,xaA]]at h1;unfold pc at h1;rw[xau,xaJ i0 W]at h1;cases h1
 have n:=hd.resolve_left W;have hl:=O5 hp ((z3.mul c).add<|z4.mul z2) j n b;have e:ci d=pc 1:=by
  funext k;unfold pc;by_cases o:k=0
  ·simp_all
  ·rw[ir o,yp W]
 have:=a.cg;rw[e]at this;exact this.symm
def X4(hp:qk p=wL):ke p.toNat:=by
 refine xai λh=> ?_;rw[FR<|λe=>h e.2.2]at hp;simp_all
def ziN{P N:wr}(h1:1<=P)(b:P<=65521)(a:k<=4*N)(c:0<N):P^k<18446744073709551616^N:=by
 rw[(i0:18446744073709551616=65536^4),<-xch];exact xaL (xal W a)<|Nat.pow_lt_pow_left W W
def th(hp:qk p=wL)(a:k<=1000:=by lia):Bz 250 (p^k):=by
 have⟨b,c⟩:=zw hp;obtain⟨P,rfl⟩:=xaE (W:0<=p);exact ziN W W a i0
theorem lO(hp:qk p=wL)(a:1<=k:=by lia):2<=p^k:=by
 have⟨b,c⟩:=zw hp;obtain⟨P,rfl⟩:=xaE (W:0<=p);have h1:P^1<=P^k:=xal W a;grind
def gJ{i j:wr}(h:i<=j:=by lia):p^i∣p^j:=⟨p^(j-i),by rw[<-Int.pow_add,(W:i+(j-i)=j)]⟩
def zi8{c:J}(hp:qk p=wL)(hc:c%p≠0)(a:0<=c):xdt c.toNat (p^k).toNat=1:=by
 have⟨g,h⟩:=zw hp;have hd:=X4 hp;obtain⟨P,rfl⟩:=xaE (W:0<=p);obtain⟨C,rfl⟩:=xaE a;have b:=xaU C (W:0<P);have h1:=gB W hd W b;have e:xdt C P=1:=by rw[xdN,Nat.gcd_rec,xdN];exact h1
 exact Nat.Coprime.pow_right k e
structure Rd(K:wr)(m:J)(f:N M):Prop where
 ok:y6 K f
 rd:vH f m=f
def Rd.mod(h:Rd K m f)(k:wr):cf f k%m=cf f k:=by rw[<-uz,h.rd]
def Rd.can(h:Rd K m f):f=wU (X f) (cf f):=by have:=U1 f m;rw[h.rd]at this;exact this
def gH(b:Bz K m)(h0:0<m)(a:N M):Rd K m (vH a m):=⟨au b h0,DW λk=>by rw[uz,xaW]⟩
def Aw{fu:wr}(hp:qk p=wL)(C:1<=k)(D:k<=1000)(g:Rd 250 (p^k) f)(M:0<X f)(N:X f<=1000)(hd:cf f (X f-1)%p≠0)(q:3000000<=fu):
 ∃w u,QV fu f (yz<|p^k)=Z w/\Rd 250 (p^k) w/\X w=X f/\cf w (X w-1)=1/\(u*cf f (X f-1))%p^k=1/\Cg (p^k) (cf w) (pc u*cf f):=by
 have h:=th hp D;have E:=lO hp C;have⟨m,F⟩:∃m,m=p^k:=⟨_,O⟩;have n:=zi8 (k:=k) hp hd (by
  rw[<-g.mod];exact xcR _ W)
 rw[<-F]at h E g n⊢;have⟨c,hc⟩:∃c,c=cf f (X f-1):=⟨_,O⟩;have r:=xi (a:=c) (p:=m);have s:=g.mod<|X f-1;rw[<-hc]at s hd n⊢;rw[s]at r;have P:c≠0:=λe=>hd (by rw[e,xau]);have Q:Bz 250 c:=h.le W;have t:=g.ok.get<|X f-1;have⟨u,v,e1,z,R,T⟩:=sn (fu:=fu) (K:=250) (a:=c.toNat) (b:=m.toNat) (x:=f.getD (X f-1) (I,[])) (y:=yz m) t.1 (yx _) t.2 h.len (by rw[Vd,<-hc];lia) (by rw[zn];lia) W W i0 q;rw[n]at z;have ht:Bz 250 u:=h.le W;have A:(u*c)%m=1:=by
  have:u*c=1+m*(-v):=by
   rw[xdf r.1,xdf (W:0<=m)]at z;rw[Int.mul_neg,xbE m v];lia
  rw[this,Int.add_mul_emod_self_left];exact xaJ i0 W
 have G:eT (yz m):=h.okS i0;have⟨sc,hl⟩:∃sc,sc=wU (X f) (λj=>cf f j*u):=⟨_,O⟩;have hv:y6 (250+250) sc:=by rw[hl];exact xh λj=>(g.ok.bz j).mul ht
 have V:X sc<=X f:=by rw[hl,xC];exact qH _ _
 have H:∀j,cf sc j=cf f j*u:=λj=>by rw[hl];exact jW (λi hi=>XZ hi) j
 have hn:∀j,cf (vH sc m) j=cf f j*u%m:=λj=>by rw[uz,H]
 have o:cf (vH sc m) (X f-1)=1:=by rw[hn,<-hc,xbE,A]
 have B:X (vH sc m)=X f:=by
  refine xcP (Ib (U1 _ _) λj L=> ?_)<|xbz λY=> ?_
  ·rw[hn,ye L,xbd,xau]
  ·rw[ye W]at o;cases o
 refine⟨vH sc m,u,?_,gH h W _,B,by rw[B];exact o,A,λj=> ?_⟩
 ·unfold QV;rw[(W:(X f:J)-1=((X f-1:wr):J)),zb,z8,S,U e1];simp only;rw[U<|jO (l:=250) g.ok ⟨yx _,ht.len⟩ i0 W q,zn,<-hl,U (Y2 hv i0 G<|by rw[zn];lia),zn]
 ·rw[hn,zN,xaW,xbE]
end
section
variable{G H S f g0 h0:xS Zr}{p:wl}{i k lh LS j fu:wr}
structure TrI(p:J)(k:K)(f g0 h0:N M)(lh LS i:K)(G H S T:N M):Prop where
 i1:1<=i
 ik:i<=k
 rG:Rd 250 (p^i) G
 rH:Rd 250 (p^i) H
 rS:Rd 250 (p^i) S
 rT:Rd 250 (p^i) T
 hl:H.length=lh
 h1:cf H (lh-1)=1
 fac:Cg (p^i) (cf f) ((cf G:Pz)*cf H)
 bez:Cg (p^i) ((cf S:Pz)*cf G+(cf T:Pz)*cf H) (pc 1)
 gp:Cg p (cf G) (cf g0)
 hp:Cg p (cf H) (cf h0)
 sl:S.length<=LS
def zj5{m:J}{T:N M}{K:wr}(d:2<=m)(b:Rd K m T)(hl:0<X H)(h1:cf H (X H-1)=1)(c:Cg m ((cf S:Pz)*cf G+(cf T:Pz)*cf H) (pc 1)):X T<=X S+X G+1:=by
 refine xbz λe=> ?_;have ht:=Xp b.can W;have hp:=c<|X T-1+(X H-1);rw[zU,zbk W hl h1,ue (λj a=>ye a)<|λj a=>ye a,xcS,b.mod]at hp;unfold pc at hp;rw[zB,xau]at hp;lia
theorem Ie{k:K}(hi:1<=i)(a:cf f (X f-1)%p≠0)(hc:0<X f):X (vH f<|p^i)=X f:=by
 refine xcP (YQ _ _)<|xbz λb=>a ?_;have h:cf (vH f<|p^i) (X f-1)=0:=ye W;rw[uz]at h;have hd:p∣p^i:=by
  have:=gJ (p:=p) hi;grind
 rw[<-xcF _ hd,h,xau]
def TrI.lens{T:N M}(h:TrI p k f g0 h0 lh LS i G H S T)(hp:qk p=wL)(a:cf f (X f-1)%p≠0)(hd:0<X f)(d:0<lh):
 X f=X G+(lh-1)/\0<X G/\cf G (X G-1)=cf f (X f-1)%p^i/\X T<=LS+X G+1:=by
 have hc:=lO hp h.i1;have hl:=h.hl;have h1:=h.h1;rw[<-hl]at h1;have b:=Ie (k:=k) h.i1 a hd;have⟨e1,e,c⟩:=za9 hc h.rG.rd (DW λj=>by rw[uz,xaW]) W W h1<|(YS _ _).trans h.fac;have g:=zj5 hc h.rT W h1 h.bez;have:=h.sl;rw[b,uz]at c;lia
def ziC(h:j<=i+i):p^j∣p^i*p^i:=by rw[<-Int.pow_add];exact gJ h
theorem kz(h:1<=i:=by lia):p∣p^i:=by
 have:=gJ (p:=p) h;grind
def TrI.step{T:N M}(h:TrI p k f g0 h0 lh LS i G H S T)(hp:qk p=wL)(v:k<=1000)(hi:y6 250 f)(hd:cf f (X f-1)%p≠0)(o:0<X f)(hn:0<lh)(w:i<k)(ht:X f<=300)(y:LS<=4500)(hv:lh<=LS)(q:3000000<=fu):
 ∃G' b c e,jN fu [G,H,S,T] f (yz<|p^min (2*i) k)=Z [G',b,c,e]/\TrI p k f g0 h0 lh LS (min (2*i) k) G' b c e:=by
 have⟨j,r⟩:∃j,j=min (2*i) k:=⟨_,O⟩;have t:=h.i1;have⟨l1,z,A,B⟩:=h.lens hp hd o hn;have a:=th hp (k:=j);have l:=lO hp (k:=j);have hl:=h.hl;have h1:=h.h1;have C:=h.sl;rw[<-hl]at h1;have n:=gM (fu:=fu) (K:=250) (W:=5000) hi h.rG.ok h.rH.ok h.rS.ok h.rT.ok iP iP iP iP iP (IR _) i0 i0 (yx<|p^j) a.len (by rw[zn];exact l) iP h1 q;rw[zn]at n;rw[<-r];refine⟨_,_,_,_,n,?_⟩;have d1:p^j∣p^i*p^i:=ziC iP;have d2:p^i∣p^j:=gJ;have d3:p∣p^i:=kz t;have⟨f1,f2,f3⟩:=zlo d1 d2 h.fac h.bez iP h1;have⟨t1,t2⟩:=zbT (f:=f) (g:=G) (s:=S) l iP h1;have hc:Cg (p^i) ((cf S:Pz)*cf (puG f G H S T<|p^j)+(cf T:Pz)*cf (E6 f G H S<|p^j)) (pc 1):=((Cg.rfl.mul f2).add<|Cg.rfl.mul f3).trans h.bez;have u:=zmX d1 d2 hc iP (by rw[t1];exact t2);have D:=Hp (x:=y9 S<|iu (puG f G H S T<|p^j) (E6 f G H S<|p^j) S T<|p^j) (d:=E6 f G H S<|p^j) (m:=p^j) iP (by rw[t1];exact t2);refine⟨iP,iP,gH a iP _,gH a iP _,gH a iP _,gH a iP _,iP,by rw[hl]at t2;exact t2,f1,u,(f2.down d3).trans h.gp,(f3.down d3).trans h.hp,?_⟩;have e1:=YQ (aR S<|BE (y9 S<|iu (puG f G H S T<|p^j) (E6 f G H S<|p^j) S T<|p^j) (E6 f G H S<|p^j)<|p^j)<|p^j;have E:=UJ S<|BE (y9 S<|iu (puG f G H S T<|p^j) (E6 f G H S<|p^j) S T<|p^j) (E6 f G H S<|p^j)<|p^j;show(vH _ _).length<=LS;lia
theorem zgZ(hp:qk p=wL)(h1:1<=j)(a:j<=1000)(b:3000000<fu):qt fu p (j:J)=Z (yz<|p^j,0):=by grind [rb,uD]
def zdj{T:N M}(h:TrI p k f g0 h0 lh LS 1 G H S T)(hp:qk p=wL)(e:k<=1000)(hc:y6 250 f)(g:cf f (X f-1)%p≠0)(hd:0<X f)(l:0<lh)(m:X f<=300)(hi:LS<=4500)(n:lh<=LS)(o:3000000<fu):
 ∃G' a b c,zg (Z8 fu f p (k:J)) fu (1,[G,H,S,T])=Z [G',a,b,c]/\TrI p k f g0 h0 lh LS k G' a b c:=by
 obtain⟨r,e1,G',a,b,c,rfl,d⟩:=yc (f:=Z8 fu f p (k:J)) (λs:J×N (N M)=>∃(i:K) (G H S T:N M),s=((i:J),[G,H,S,T])/\TrI p k f g0 h0 lh LS i G H S T) (λs=>k-s.1.toNat) (λr=>∃G H S T,r=[G,H,S,T]/\TrI p k f g0 h0 lh LS k G H S T) (by
  rintro s L ⟨i,G,H,S,T,rfl,h⟩ q;unfold Z8;simp only;have hl:=h.i1;have v:=h.ik;by_cases t:i<k
  ·have⟨G',a,b,c,e1,d⟩:=h.step (fu:=fu) hp e hc g hd l t m hi n W;have u:min (2*(i:J)) (k:J)=((min (2*i) k:K):J):=W
   rw[zX,zb,ze,u,U<|zgZ hp W W o];simp only;rw[U e1];exact q _ ⟨_,_,_,_,_,O,d⟩ (by show k-((min (2*i) k:K):J).toNat<k-(i:J).toNat;lia)
  ·rw[zB];obtain rfl:i=k:=W
   exact⟨_,O,_,_,_,_,O,h⟩) fu (1,[G,H,S,T]) ⟨1,_,_,_,_,O,h⟩ (by show k-1<fu;lia)
 exact⟨_,_,_,_,e1,d⟩
end
section
variable{p:wl}{l:xS wl}{g:Pz}
def zen{a b:N J}(hp:2<=p)(e:0<X a)(hd:ci a (X a-1)=1)(f:0<X b)(d:ci b (X b-1)=1):X (xF p a b)=X a+X b-1/\ci (xF p a b) (X a+X b-1-1)=1:=by
 have ht:(ci a*ci b) (X a-1+(X b-1))=1:=by
  rw[wI,wA (i:=X a-1) λi hi=> ?_,zX,(W:X a-1+(X b-1)-(X a-1)=X b-1),d,hd]
  ·rfl
  ·by_cases hc:i<X a-1
   ·rw[yp (l:=b) W,xaA]
   ·rw[yp (l:=a) W,xbd]
 have h1:ci (xF p a b) (X a+X b-1-1)=1:=by
  rw[ah,(W:X a+X b-1-1=X a-1+(X b-1)),ht];exact xaJ i0 W
 refine⟨xcP ((qY W a b).nl.le λk h=> ?_)<|xbz λo=> ?_,h1⟩
 ·rw[ah,ue (n:=X a) (m:=X b) (λj c=>yp c)<|λj c=>yp c,xau]
 ·rw[yp W]at h1;cases h1
def Ox{p:J}(hp:2<=p):∀(fs:N (N J)) {t:N J},0<X t->ci t (X t-1)=1->(∀f∈fs,RQ p f)->0<X (fs.foldl (xF p) t)/\ci (fs.foldl (xF p) t) (X (fs.foldl (xF p) t)-1)=1
 |[],_,h0,h1,_=>⟨h0,h1⟩
 |f::r,t,h0,h1,h=>by
  have a:=h f<|H1;have⟨e1,b⟩:=zen hp h0 h1 (show 0<X f by have:=a.2.1;lia) a.2.2;have:=a.2.1;exact Ox hp r W (by rw[e1];exact b) λg c=>h g<|UV _ c
def zb6(hp:2<=p){fs:N (N J)}(h:∀f∈fs,RQ p f):0<X (Qu p fs)/\ci (Qu p fs) (X (Qu p fs)-1)=1:=Ox hp fs i0 O h
def Gv(h:Nl l):X (kY l)=X l:=by
 unfold kY;rw[xC];exact KD (IR _) (λk h1 a=>by lia)<|h.imp id id
def pC(h:Fp p l)(a:p<=65521):Rd 250 (p^1) (kY l):=by
 refine⟨(Oq<|h.rl a).mono i0,?_⟩;rw[xbU,xcj,xdg];unfold vH;rw[show(λj=>cf (kY l) j%p)=cf (kY l)from jp λj=>by rw[jL,h.mod]];exact O9 _ _
def jZ.congr{f f' a:Pz}(h:jZ p f g)(b:Cg p f f')(c:Cg p g a):jZ p f' a:=by
 have⟨s,t,d,z2,h⟩:=h;exact⟨s,t,d,z2,((Cg.rfl.mul b.symm).add<|Cg.rfl.mul c.symm).trans h⟩
theorem GQ{A B:N (N J)}(h:∀a∈A,∀b∈B,jZ p (ci a)<|ci b):jZ p (prZ<|A.map ci) (prZ<|B.map ci):=by grind [Fs.ci,jZ.symm,jZ.prZ,Fs.prZ]
def zgh{c:J}(hp:qk p=wL)(h0:0<c)(h1:c<p):jZ p (pc c) g:=by
 have⟨x,e1,b,d,a⟩:=KE hp h0 h1<|IR _;refine⟨pc x,pc 0,Fs.pc _,Fs.pc _,?_⟩;rw[yu,kf];intro k;rw[zU,zQ,xcd];unfold pc;split
 ·rw[a];exact(xaJ i0 W).symm
 ·rfl
def CX{α β:Type}(R:α->β->Prop):N α->N β->Prop
 |[],[]=>XS
 |a::r,b::s=>R a b/\CX R r s
 |_,_=>QR
def CX.append{α β:Type}{R:α->β->Prop}:∀{a:N α}{b:N β}{c:N α}{d:N β},CX R a b->CX R c d->CX R (a++c) (b++d)
 |[],[],_,_,_,h=>h
 |_::_,_::_,_,_,h,e=>⟨h.1,CX.append h.2 e⟩
def CX.len{α β:Type}{R:α->β->Prop}:∀{a:N α}{b:N β},CX R a b->X a=X b
 |[],[],_=>rfl
 |_::_,_::_,h=>by rw[xax,xax,h.2.len]
structure Up(p:J)(k:K)(u:N M)(g:N J):Prop where
 rd:Rd 250 (p^k) u
 len:u.length=g.length
 top:cf u (u.length-1)=1
 cg:Cg p (cf u) (ci g)
def zcx{f:N M}(h:0<X f):f.drop (X f-1)=[f.getD (X f-1) (I,[])]:=HD
def zdC{z:M}(hp:0<p)(h0:zv z%p≠0):qZ p [z]=[zv z%p]:=by
 have b:=xi (a:=zv z) hp;refine(QI hp [z]).ext (VR W b.2) ((gh p [z]).trans λk=> ?_)
 cases k with
 |zero=>show zv z%p=(zv z%p)%p;rw[xaW]
 |succ k=>skip;rfl
end
def zjm{k:K}{p:J}(hp:qk p=wL)(P:1<=k)(hk:k<=1000):∀(n:K) {fu:K}{f:N Zr}{fs:N (N J)},X fs=n->1<=n->n<=66->3000002+n<=fu->
 Rd 250 (p^k) f->0<X f->X f<=66->cf f (X f-1)%p≠0->(∀g∈fs,RQ p g/\X g<=66)->fs.Pairwise (λa b=>jZ p (ci a)<|ci b)->Cg p (cf f) (pc (cf f<|X f-1)*prZ (fs.map ci))->
 ∃us,qb fu f fs p (k:J) (yz<|p^k)=Z us/\CX (Up p k) us fs/\Cg (p^k) (cf f) (pc (cf f<|X f-1)*prZ (us.map λu=>(cf u:Pz))):=by
 intro n
 induction n using xdG with
 |_ n ih=>
 intro fu f fs hn h9 h' a5 Q hl a6 hd hE JN ht;have⟨C,o⟩:=zw hp;obtain⟨F,rfl⟩:∃F,fu=F+1:=⟨fu-1,W⟩;have hf:3000000<F:=W
 have a7:=lO hp P;have hK:p∣p^k:=kz P;unfold qb;by_cases h1:n=1
 ·obtain⟨g,rfl⟩:∃g,fs=[g]:=by
   match fs,hn with
   |[g],_=>exact⟨g,O⟩
   |[],h=>simp at h;lia
   |_::_::_,h=>simp at h;lia
  have⟨l,a8⟩:=hE g i7;have⟨w,u,e1,e2,e3,e4,e5,e6⟩:=Aw (fu:=F) hp P hk Q hl W hd W;have hu:Cg (p^k) (pc (cf f<|X f-1)*pc u) (pc 1):=λj=>by
   rw[kf,xbE];unfold pc;split
   ·rw[e5];exact(xaJ i0 W).symm
   ·rfl
  have hG:Cg (p^k) (cf f) (pc (cf f<|X f-1)*cf w):=by
   refine Cg.symm<|(Cg.rfl.mul e6).trans ?_;rw[<-zd];exact(hu.mul Cg.rfl).trans<|Cg.of<|zC _
  have hA:∀x:Pz,prZ [x]=x:=λx=>yf x;have hH:Cg p (cf w) (ci g):=by
   refine(e6.down hK).trans ?_;have v:Cg p (pc u*cf f) (pc u*(pc (cf f<|X f-1)*ci g)):=Cg.rfl.mul<|ht.trans<|Cg.of (by show _*prZ [ci g]=_;rw[hA]);refine v.trans ?_;rw[<-zd,zk<|pc u];exact((hu.down hK).mul Cg.rfl).trans<|Cg.of<|zC _
  have hR:X w=X g:=by
   have a9:=l.fp (p:=p) W;refine xcP (xbz λhS=> ?_)<|xbz λhS=> ?_
   ·have v:=hH<|X w-1;rw[e4,yp W,xau,xaJ i0 W]at v;cases v
   ·have v:=hH<|X g-1;rw[l.2.2,ye W,xau,xaJ i0 W]at v;cases v
  rw[iq i7,U e1];refine⟨[w],O,⟨⟨e2,hR,e4,hH⟩,wR⟩,?_⟩;show Cg _ _ (_*prZ [(cf w:Pz)]);rw[hA];exact hG
 ·have⟨e,hT⟩:∃h,h=n/2:=⟨_,O⟩;have⟨c,hc⟩:∃c,c=cf f (X f-1):=⟨_,O⟩;have h8:X fs<=66:=W
  have hB:fs=fs.take e++fs.drop e:=(xbv e fs).symm;have hU:X (fs.take e)=e:=by rw[xav];lia
  have hV:X (fs.drop e)=n-e:=by rw[xbX];lia
  have hv:∀g∈fs.take e,RQ p g/\X g<=66:=λg l=>hE g<|xdo l;have D:∀g∈fs.drop e,RQ p g/\X g<=66:=λg l=>hE g<|xeX l;rw[hB]at JN ht;have⟨a0,a1,E⟩:=xdp.1 JN;rw[xaY,vi,<-hc]at ht;have hL:=xi (a:=c) (p:=p);rw[<-hc]at hd;have hW:∀g∈fs.take e,Fp p g:=λg l=>(hv g l).1.fp W;have hX:∀g∈fs.drop e,Fp p g:=λg l=>(D g l).1.fp W;have y:=oV p<|fs.take e;have A:=oV p<|fs.drop e;have q:=zb6 (p:=p) C (fs:=fs.drop e) λg l=>(D g l).1;have a3:=dw (p:=p) (fs:=fs.take e) (M:=66) λg l=>(hv g l).2;have a4:=dw (p:=p) (fs:=fs.drop e) (M:=66) λg l=>(D g l).2;have b1:X (fs.take e)*66<=66*66:=xak _ W;have b2:X (fs.drop e)*66<=66*66:=xak _ W;have hM:=VR (p:=p) (x:=c%p) W hL.2;have⟨g0,hJ⟩:∃g0,g0=xF p (Qu p<|fs.take e) [c%p]:=⟨_,O⟩;have⟨h0,R⟩:∃h0,h0=Qu p (fs.drop e):=⟨_,O⟩;have V:Fp p g0:=by rw[hJ];exact qY W _ _
  have hi:Fp p h0:=by rw[R];exact eC C _
  have hC:Cg p (pc<|c%p) (pc c):=λj=>by unfold pc;split;exact xaW _ _;rfl
  have ho:Cg p (ci g0) (prZ ((fs.take e).map ci)*pc c):=by
   rw[hJ];refine(Zx p _ _).trans ?_;rw[jQ];exact y.mul hC
  have hq:Cg p (ci h0) (prZ<|(fs.drop e).map ci):=by rw[R];exact A
  rw[<-R]at q;have hD:Cg p (cf f) (ci g0*ci h0):=by
   refine ht.trans<|Cg.trans (Cg.of ?_) (ho.mul hq).symm;simp only[zd,zk,zD]
  have hN:jZ p (ci g0) (ci h0):=by
   refine jZ.congr (jZ.mul (Fs.pc _) (Fs.prZ λx hx=>by obtain⟨a,_,rfl⟩:=xas.1 hx;exact Fs.ci a) (Fs.prZ λx hx=>by obtain⟨a,_,rfl⟩:=xas.1 hx;exact Fs.ci a) (GQ E)<|zgh hp (W:0<c%p) hL.2) ?_ hq.symm;exact(Cg.rfl.mul hC).trans ho.symm
  have Y:p^1=p:=by rw[xbU,xcj,xdg]
  have rg:=pC V o;have rh:=pC hi o;have lz:X (kY h0)=X h0:=Gv hi.nl;have L:X (kY g0)=X g0:=Gv V.nl;have hO:cf (kY h0) (X (kY h0)-1)=1:=by rw[lz,jL];exact q.2
  have hY:X (vH f p)=X f:=by
   have:=Ie (k:=k) (i:=1) (p:=p) (f:=f) (IR _) (by rw[<-hc];exact hd) hl;rw[Y]at this;exact this
  have⟨d1,d2,d3⟩:=za9 (m:=p) (f:=vH f p) (g:=kY g0) (h:=kY h0) C (by have:=rg.rd;rw[Y]at this;exact this) (DW λj=>by rw[uz,xaW]) W W hO ((YS f p).trans<|by rw[jL,jL];exact hD);rw[hY,lz,L]at d1;rw[L]at d2;have⟨d,s,t,z1,B,z3⟩:=uB (fu:=F) hp V hi W W W;have hP:=zh2 C B z3 hN;have b0:max (X g0) (X h0)*(max (X g0) (X h0)+1)<=66*67:=xck W W;have b3:=B.sl;have b4:=B.tl;have rs:=pC B.sf o;have rt:=pC B.tf o;have hI:TrI p k f (kY g0) (kY h0) (X h0) 4430 1 (kY g0) (kY h0) (kY s) (kY t):=by
   refine⟨IR _,P,rg,rh,rs,rt,lz,by rw[<-lz];exact hO,?_,?_,Cg.rfl,Cg.rfl,by have:=NQ s;lia⟩
   ·rw[Y,jL,jL];exact hD
   ·rw[Y,jL,jL,jL,jL];exact hP
  have⟨G,H,S,T,l1,r⟩:=zdj (fu:=F) hI hp hk Q.ok (by rw[<-hc];exact hd) hl W W i0 W hf;have⟨m1,m2,m3,m4⟩:=r.lens hp (by rw[<-hc];exact hd) hl W;have hZ:c%p^k=c:=by have:=Q.mod<|X f-1;rw[<-hc]at this;exact this
  rw[<-hc,hZ]at m3;have h3:=r.hl;have hy:=r.h1;rw[<-h3]at hy;have h4:Cg p (cf G) (pc c*prZ ((fs.take e).map ci)):=by
   refine r.gp.trans ?_;rw[jL,zk];exact ho
  have h5:Cg p (cf H) (pc 1*prZ ((fs.drop e).map ci)):=by
   refine r.hp.trans ?_;rw[jL,zC];exact hq
  have⟨us,u1,u2,u3⟩:=ih e W (fu:=F) (f:=G) (fs:=fs.take e) hU W W W r.rG m2 W (by rw[m3];exact hd) hv a0 (by rw[m3];exact h4);have⟨vs,v1,v2,v3⟩:=ih (n-e) W (fu:=F) (f:=H) (fs:=fs.drop e) hV W W W r.rH W W (by rw[hy,xaJ i0 W];decide) D a1 (by rw[hy];exact h5);rw[m3]at u3;rw[hy]at v3;have c0:=u2.len;have c1:=v2.len;refine⟨us++vs,?_,by rw[hB];exact u2.append v2,?_⟩
  ·have ez:[f.getD (X f-1) (I,[])].length=1:=O;have hQ:y6 250 [f.getD (X f-1) (I,[])]:=λz hz=>by
    obtain rfl:=xag.1 hz;exact Q.ok.get _
   have h6:qZ p [f.getD (X f-1) (I,[])]=[c%p]:=by
    rw[hc];exact zdC W<|by rw[Vd,<-hc];exact hd
   have h7:=jw p (Qu p<|fs.take e) [c%p];simp only[xax,xbP]at h7;have a2:xdE (X fs:J) 2=(e:J):=by rw[hn,hT];rfl
   rw[zB,w8 i0,a2,zb,(W:(X f:J)-1=((X f-1:K):J)),zb,yF,yW,ze,zcx hl,U (Zh hQ i0 W o i7),h6];simp only;rw[yF,yW,ze,U (jy hp hW (λg l=>(hv g l).2) W i0),U (Zf hp (eC C _) hM W i7),<-hJ];simp only;rw[yF,yW,ze,U (jy hp hX (λg l=>(D g l).2) W i0),<-R,U z1];simp only;rw[U (kZ (V.rl o) W W),U (kZ (hi.rl o) W W),U (kZ (B.sf.rl o) W W),U (kZ (B.tf.rl o) W W),U l1];rw[DQ (i:=0) i0,yF,yW,ze,show[G,H,S,T].getD (Int.toNat 0) []=G from O,U u1,DQ (i:=1) i0,yF,yW,ze,show[G,H,S,T].getD (Int.toNat 1) []=H from O,U v1,yW,ze]
  ·rw[<-hc,xaY,vi];refine r.fac.trans<|(u3.mul v3).trans<|Cg.of ?_;rw[zC,zd]
section
variable{a:xS Zr}{p:wl}
def yo(a:N M):N M:=wU (X a)<|cf a
def ZG(a:N M)(k:K):cf (yo a) k=cf a k:=jW (λj b=>ye b) k
def Zs(a:N M):X (yo a)<=X a:=by unfold yo;rw[xC];exact qH _ _
def da{k:K}(h:y6 k a):y6 k (yo a):=xh h.bz
structure zps(p:J)(k:K)(a:N M)(fs:N (N J))(us:N (N M)):Prop where
 hp:qk p=wL
 k1:1<=k
 k2:k<=1000
 rt:dh p (yo a) fs
 up:CX (Up p k) us fs
 cg:fs≠[]->Cg (p^k) (cf a) (pc (cf (yo a)<|(yo a).length-1)*prZ (us.map λu=>(cf u:Pz)))
def dh.mem{fs:N (N J)}(h:dh p a fs):∀g∈fs,RQ p g/\X g<=X a:=λg b=>by
 obtain⟨j,c,rfl⟩:=xcE.1 b;have:=h.pl j c;simp_all
def dh.pw{fs:N (N J)}(h:dh p a fs):fs.Pairwise (λa b=>jZ p (ci a)<|ci b):=by
 refine xcZ.2 λi j hi c d=> ?_;have:=h.cp j i c d;rw[FS,FS,xab hi,xab c]at this;exact this.symm
def sH{fu:wr}{k:J}{fs:N (N J)}(d:y6 250 a)(ht:X a<=1000)(w:3000200<=fu):
 ∃us e,jj fu a fs p k=Z (us,e)/\(e=0->zps p k.toNat a fs us/\1<=k)/\(e≠0->(rb p k).2=0\/e=1):=by
 unfold jj;have x:=Zs a;have hl:=da d;rw[U<|uD W];by_cases i:qk p=wL/\1<=k/\k<=1000
 ·have⟨hp,h1,y⟩:=i;obtain⟨K,rfl⟩:=xaE (W:0<=k);have hd:rb p (K:J)=(yz<|p^K,0):=by
   unfold rb;simp_all
  rw[hd];simp only;rw[U (zJ d i0 W W),iq wR,show wU (X a) (cf a)=yo a from O];by_cases hv:65<X (yo a)
  ·rw[zX];exact⟨_,_,O,λe=>wS e i0,λ_=> .inl wR⟩
  ·rw[zB];have⟨b,b1,b2⟩:=mJ (fu:=fu) (fs:=fs) hp hl i0 W W;rw[U b1]
   cases b with
   |false=>
    rw[iq i0];exact⟨_,_,O,λe=>wS e i0,λ_=> .inl wR⟩
   |true=>
    have c:=b2 O;rw[ir i0];by_cases h0:X fs=0
    ·obtain rfl:fs=[]:=xbh.1 h0;rw[iq (show((X ([]:N (N J)):wr):J)=0 from O)];exact⟨_,_,O,λ_=>⟨⟨hp,W,W,c,wR,λe=>wS O e⟩,h1⟩,λe=>wS O e⟩
    ·rw[zB];have⟨z,A⟩:=zw hp;have l:=th hp (k:=K);have B:=lO hp (k:=K);have o:eT (yz<|p^K):=l.okS i0;have⟨f,hc⟩:∃f,f=vH (yo a) (p^K):=⟨_,O⟩;have hn:=c.a0;have m:cf (yo a) (X (yo a)-1)%p≠0:=by
      have h3:=(QI (p:=p) W<|yo a).nl;unfold Nl at h3;rw[c.al]at h3;obtain h3|h3:=h3
      ·exact wS h3 hn
      ·rw[KJ]at h3;exact h3
     have q:X f=X (yo a):=by rw[hc];exact Ie (k:=K) W m W
     have hi:cf f (X f-1)=cf (yo a) (X (yo a)-1)%p^K:=by rw[q,hc,uz]
     have h:p∣p^K:=kz;have r:cf f (X f-1)%p≠0:=by rw[hi,xcF _ h];exact m
     have s:Cg p (cf f) (pc (cf f<|X f-1)*prZ (fs.map ci)):=by
      have e1:Cg p (cf f) (cf<|yo a):=by rw[hc];exact(YS _ _).down h
      refine e1.trans<|(gh p<|yo a).symm.trans ?_;rw[<-c.pr];refine(Zx p _ _).trans ?_;rw[jQ,zk];refine Cg.mul (λj=> ?_)<|oV p fs;rw[KJ,hi];unfold pc;split
      ·rw[xcF _ h,xaW]
      ·rfl
     have⟨us,t,u,v⟩:=zjm (k:=K) hp W W (X fs) (fu:=fu) (f:=f) (fs:=fs) O W (by have:=c.fl;lia) (by have:=c.fl;lia) (by rw[hc];exact gH l W _) W W r (λg n=>⟨(c.mem g n).1,by have:=(c.mem g n).2;lia⟩) c.pw s;rw[U (Y2 hl i0 o<|by rw[zn];lia),zn,<-hc,U t];refine⟨_,_,O,λ_=>⟨⟨hp,W,W,c,u,λ_=> ?_⟩,h1⟩,λe=>wS O e⟩;rw[xbe];have e1:Cg (p^K) (cf a) (cf f):=by
      rw[hc];exact Cg.trans (Cg.of<|funext λj=>(ZG a j).symm) (YS _ _).symm
     refine e1.trans<|v.trans<|Cg.mul (λj=> ?_) Cg.rfl;rw[hi];unfold pc;split
     ·rw[xaW]
     ·rfl
 ·have hd:rb p k=((I,[]),1):=by unfold rb;rw[ir i]
  rw[hd];simp only;rw[U (zJ d i0 W W),ir i0];exact⟨_,_,O,λe=>wS e i0,λ_=> .inr O⟩
end
def Mn(A:Pz)(d:K):Prop:=A d=1/\∀k,d<k->A k=0
def Mn.top{A x:Pz}{d n:K}(h:Mn A d)(a:∀k,n<k->x k=0):(x*A) (n+d)=x n:=by
 rw[wI,wA (i:=n) λi hi=> ?_,zX,(W:n+d-n=d),h.1,xcY];by_cases hc:i<n
 ·rw[h.2 _ W,xaA]
 ·grind
def Mn.zero{p:J}(hp:2<=p){A x:Pz}{d:K}(h:Mn A d)(j:Fs x)(l:∀k,d<=k->(x*A) k%p=0):Cg p x (pc 0):=by
 have⟨n,hn⟩:=j;have a:∀c,c<=n->∀k,n-c<=k->x k%p=0:=by
  intro c
  induction c with
  |zero=>intro _ k g;rw[hn k W,xau]
  |succ c m=>
   intro hc k g;by_cases h1:n-c<=k
   ·grind
   ·obtain rfl:k=n-(c+1):=W
    have e:Cg p x (λi=>if i<=n-(c+1)then x i else 0):=λi=>by
     by_cases hi:i<=n-(c+1)
     ·simp_all
     ·show _=(if i<=n-(c+1)then x i else 0)%p;rw[ir hi,xau];grind
    have b:=(e.mul<|Cg.rfl (f:=A))<|n-(c+1)+d;rw[l _ W,h.top<|λi hi=>zB]at b;rw[iq<|IR _]at b;exact b.symm
 intro k;rw[zQ,xau];by_cases g:k<n
 ·exact a n (IR _) k W
 ·rw[hn k W,xau]
def N7{k m n:J}(h:Int.gcd k m=1)(hd:k∣m*n):k∣n:=
 xcr.1 (Nat.Coprime.dvd_of_dvd_mul_left h<|by rw[<-xct];exact xcr.2 hd)
def pdv(n:J)(f:Pz):Pz:=λk=>f k/n
def LP{n:J}{f:Pz}(h:Cg n f (pc 0)):pc n*pdv n f=f:=by
 funext k;rw[zN];exact Int.mul_ediv_cancel'<|h.dvd k
def Mz{n:J}{f:Pz}(h:Fs f):Fs (pdv n f):=by
 have⟨c,hc⟩:=h;exact⟨c,λk a=>by show f k/n=0;rw[hc k a,xel]⟩
def Fs.subt{f g:Pz}(c:Fs f)(d:Fs g):Fs (f-g):=by
 have⟨a,e⟩:=c;have⟨b,h⟩:=d;exact⟨a+b,λk i=>by rw[yX,e k W,h k W];rfl⟩
def zcD{p n:J}(hp:2<=p)(hn:n≠0)(E:p∣n){A B c g:Pz}{d:K}(i:Mn A d)(o:Mn c d)(F:Fs A)(j:Fs c)(G:Fs B)(l:Fs g)(hc:jZ p A B)(h1:Cg n A c)(H:Cg n B g)(h:Cg (n*p) (A*B) (c*g)):
 Cg (n*p) A c/\Cg (n*p) B g:=by
 have⟨a,q⟩:∃a,a=pdv n (c-A):=⟨_,O⟩;have⟨b,r⟩:∃b,b=pdv n (g-B):=⟨_,O⟩;have u:pc n*a=c-A:=by rw[q];exact LP<|Cg.iff_sub.1 h1.symm
 have v:pc n*b=g-B:=by rw[r];exact LP<|Cg.iff_sub.1 H.symm
 have L:Fs a:=by rw[q];exact Mz<|j.subt F
 have w:Fs b:=by rw[r];exact Mz<|l.subt G
 have x:∀k,c k=A k+n*a k:=λk=>by
  have:=Wn u k;rw[zN,yX]at this;lia
 have bk:∀k,g k=B k+n*b k:=λk=>by
  have:=Wn v k;rw[zN,yX]at this;lia
 have hl:c=A+pc n*a:=jp λk=>by rw[zU,zN,x]
 have M:g=B+pc n*b:=jp λk=>by rw[zU,zN,bk]
 have y:Cg p (a*B+b*A) (pc 0):=by
  refine Cg.of_dvd λk=> ?_;have e:c*g-A*B=pc n*(a*B+b*A+pc n*(a*b)):=by
   rw[hl,M];simp only[wC,yR,zd,zD,zk];funext k;simp only[zU,yX];lia
  have hd:=(Cg.iff_sub.1 h.symm).dvd k;rw[e,zN]at hd;have z:p∣(a*B+b*A+pc n*(a*b)) k:=(Int.mul_dvd_mul_iff_left hn).1 hd;rw[zU,zN]at z;exact(Int.dvd_add_left<|xbw E<|xce _ _).1 z
 have⟨s,t,fs,N,P⟩:=hc;have Q:∀k,d<=k->a k=0:=λk C=>by
  have e:c k=A k:=by
   by_cases R:k=d
   ·rw[R,i.1,o.1]
   ·rw[i.2 k W,o.2 k W]
  have:=x k;have S:n*a k=0:=W
  exact(xeS.1 S).resolve_left hn
 have D:Cg p a ((s*a-t*b)*A):=by
  have e1:Cg p a (a*(s*A+t*B)):=by
   have:=(Cg.rfl (m:=p) (f:=a)).mul P.symm;rw[yf]at this;exact this
  refine e1.trans<|Cg.iff_sub.2 ?_;have e:a*(s*A+t*B)-(s*a-t*b)*A=t*(a*B+b*A):=by
   simp only[wC,yR,qp,jU,zd,zD,zk];funext k;simp only[zU,yX];lia
  rw[e];exact y.mul_zero_l t
 have T:=i.zero hp ((fs.mul L).subt<|N.mul w) λk C=>by rw[<-D k,Q k C,xau]
 have hi:Cg p a (pc 0):=D.trans<|T.mul_zero_r A;have ht:Cg p (b*A) (pc 0):=by
  have e:b*A=a*B+b*A-a*B:=by
   funext k;simp only[zU,yX];lia
  rw[e];exact y.zero_sub<|hi.mul_zero_r B
 have U:Cg p b (pc 0):=i.zero hp w λk _=>by rw[ht k,zQ,xau]
 refine⟨Cg.symm<|Cg.iff_sub.2<|Cg.of_dvd λk=> ?_,Cg.symm<|Cg.iff_sub.2<|Cg.of_dvd λk=> ?_⟩
 ·rw[<-u,zN];exact Int.mul_dvd_mul_left n<|hi.dvd k
 ·rw[<-v,zN];exact Int.mul_dvd_mul_left n<|U.dvd k
def Oc{p:J}(hp:2<=p){A B a e:Pz}{d:K}(f:Mn A d)(g:Mn a d)(i:Fs A)(b:Fs a)(l:Fs B)(c:Fs e)(hc:jZ p A B)(h1:Cg p A a)(m:Cg p B e):∀j,Cg (p^j) (A*B) (a*e)->Cg (p^j) A a/\Cg (p^j) B e
 |0,_=>⟨λk=>by rw[xcj,Int.emod_one,Int.emod_one],λk=>by rw[xcj,Int.emod_one,Int.emod_one]⟩
 |1,_=>by grind
 |j+2,h=>by
  have⟨g1,n⟩:=Oc hp f g i b l c hc h1 m (j+1)<|h.down<|gJ;rw[xbU]at h⊢;exact zcD hp (Int.ne_of_gt<|Int.pow_pos W) (kz) f g i b l c hc g1 n h
def cy:K->K->K
 |_,0=>1
 |0,_+1=>0
 |n+1,k+1=>cy n k+cy n (k+1)
def Vb(n:K):cy n 0=1:=by cases n<;>rfl
def Jx(n k:K):cy (n+1) (k+1)=cy n k+cy n (k+1):=O
def pK:∀n k,n<k->cy n k=0
 |0,0,h=>wS h<|xfW _
 |0,k+1,_=>rfl
 |n+1,0,h=>wS h<|xbq _
 |n+1,k+1,h=>by rw[Jx,pK n k W,pK n (k+1) W]
def BT:∀n,cy n n=1
 |0=>rfl
 |n+1=>by rw[Jx,BT n,pK n (n+1) W]
def H0:∀n k,(k+1)*cy (n+1) (k+1)=(n+1)*cy n k
 |0,0=>rfl
 |0,k+1=>by skip;rfl
 |n+1,0=>by
  have h:=H0 n 0;rw[Vb]at h;rw[Jx,Vb];lia
 |n+1,k+1=>by
  have h1:=H0 n k;have a:=H0 n<|k+1;have b:=Jx n k;rw[Jx (n+1)<|k+1];grind
def zku(a:J):∀n,(a+1)^n=yh (n+1) (λk=>(cy n k:J)*a^k)
 |0=>by
  show _=(0:J)+((1:K):J)*a^0;simp_all
 |n+1=>by
  have e1:yh (n+1+1) (λk=>(cy (n+1) k:J)*a^k)=1+(yh (n+1) (λk=>a*((cy n k:J)*a^k))+yh (n+1) (λk=>(cy n (k+1):J)*a^(k+1))):=by
   rw[Zi,<-YU];congr 1
   ·show((cy (n+1) 0:K):J)*a^0=1;rw[Vb,xcj];rfl
   ·exact yr λk _=>by rw[Jx,xeO,Int.add_mul,xbU,<-xdc,<-xdc,xbE (_*a^k) a,<-xdc]
  have b:yh (n+1) (λk=>(cy n k:J)*a^k)=1+yh (n+1) (λk=>(cy n (k+1):J)*a^(k+1)):=by
   have h:yh (n+1+1) (λk=>(cy n k:J)*a^k)=yh (n+1) (λk=>(cy n k:J)*a^k):=by
    show yh (n+1) _+((cy n (n+1):K):J)*a^(n+1)=_;rw[pK n (n+1) W];lia
   rw[<-h,Zi];congr 1;rw[Vb,xcj];rfl
  rw[e1,Zb,xbU,zku a n,xfE,xcY,xbE _ a];lia
def zaP{p x y:K}(hp:2<=p)(hn:ke p)(h0:0<x)(h1:x<p)(h:p∣x*y):p∣y:=
 Nat.Coprime.dvd_of_dvd_mul_left (gB hp hn h0 h1) h
def zaS{p k:K}(hp:2<=p)(hn:ke p)(h0:0<k:=by lia)(h1:k<p:=by lia):p∣cy p k:=by
 obtain⟨q,rfl⟩:∃q,p=q+1:=⟨p-1,W⟩;obtain⟨j,rfl⟩:∃j,k=j+1:=⟨k-1,W⟩;exact zaP hp hn h0 h1 ⟨cy q j,H0 q j⟩
def RB{p:K}(hp:2<=p)(hn:ke p)(a:J):(a+1)^p%p=(a^p+1)%p:=by
 obtain⟨q,rfl⟩:∃q,p=q+1:=⟨p-1,W⟩;rw[zku];show(yh (q+1) _+((cy (q+1) (q+1):K):J)*a^(q+1))%_=_;rw[BT,Zi];have hd:((q+1:K):J)∣yh q (λk=>(cy (q+1) (k+1):J)*a^(k+1)):=dc λk b=>
  xbw (xcW.2<|zaS hp hn) (xce _ _)
 have⟨c,hc⟩:=hd;rw[Vb];have e:1*1+((q+1:K):J)*c+1*a^(q+1)=a^(q+1)+1+((q+1:K):J)*c:=W
 simp_all
def SI{p:K}(hp:2<=p)(hn:ke p):∀a:K,(a:J)^p%p=a%p
 |0=>by rw[show((0:K):J)=0 from O,Int.zero_pow W]
 |a+1=>by rw[xeO,show((1:K):J)=1 from O,RB hp hn,xei,SI hp hn a,<-xei]
def Sk{p:J}(hp:qk p=wL){a:J}(h0:0<a)(h1:a<p):(a^(p-2).toNat*a)%p=1:=by
 have⟨f,g⟩:=zw hp;have hn:=X4 hp;obtain⟨P,rfl⟩:=xaE (W:0<=p);obtain⟨A,rfl⟩:=xaE (W:0<=a);have b:2<=P:=W
 have h:=SI b hn A;obtain⟨Q,rfl⟩:∃Q,P=Q+2:=⟨P-2,W⟩;rw[(W:(((Q+2:K):J)-2).toNat=Q)];have e:(A:J)^(Q+2)-A=A*((A:J)^Q*A-1):=by grind
 have hd:((Q+2:K):J)∣(A:J)*((A:J)^Q*A-1):=by
  rw[<-e];exact xaH<|xaO.1 h
 have c:Int.gcd ((Q+2:K):J) (A:J)=1:=gB b hn;have d:=N7 c hd;have i:=xaO.2<|xaz d;assumption
def zmV{n:K}{f:Pz}{x:J}(h:x=f n):zl n f++[x]=zl (n+1) f:=by rw[h];exact zj2
structure zeA(p:J)(a m:N J):Prop where
 fm:Fp p m
 ln:m.length=a.length
 top:ci m (m.length-1)=1
 cg:∃x y:J,Cg p (ci m) (pc x*ci a)/\Cg p (ci a) (pc y*ci m)
def PT{p x:J}{a:N J}(hp:2<=p)(e:Fp p a)(f:0<X a)(b:(x*ci a (X a-1))%p=1):zeA p a (xF p a [x]):=by
 have hc:∀k,ci (xF p a [x]) k=(x*ci a k)%p:=λk=>by rw[ah,jQ,zk,zN]
 have hd:X (xF p a [x])=X a:=by
  refine xcP ((qY W _ _).nl.le λk d=> ?_)<|xbz λg=> ?_
  ·rw[hc,yp d,xaA,xau]
  ·have c:=hc<|X a-1;rw[b,yp W]at c;cases c
 have h1:Cg p (ci<|xF p a [x]) (pc x*ci a):=λk=>by rw[hc,zN,xaW]
 refine⟨qY W _ _,hd,by rw[hd,hc,b],x,ci a<|X a-1,h1,?_⟩;refine Cg.symm<|(Cg.rfl.mul h1).trans ?_;rw[<-zd];refine Cg.trans (Cg.mul (λk=> ?_) Cg.rfl)<|Cg.of<|zC _;rw[kf,xbE];unfold pc;split
 ·rw[b];exact(xaJ i0 W).symm
 ·rfl
def X0{fu:K}{a:N J}{p:J}(hp:qk p=wL)(b:Fp p a)(i:0<X a)(hc:X a<=90000)(c:3000000<=fu):∃x,0<x/\x<p/\(x*ci a (X a-1))%p=1/\jg fu a p=Z (xF p a [x],0):=by
 have⟨j,d⟩:=zw hp;have hd:ci a (X a-1)≠0:=by
  obtain h|h:=b.nl
  ·lia
  ·exact h
 have t1:=b.nn<|X a-1;have⟨x,x0,f,g,_,e⟩:=J5 (fu:=fu) hp b (W:0<ci a (X a-1)) (b.lt _) hc c;refine⟨x,x0,f,g,?_⟩;unfold jg;rw[U<|uK hp,iq O,U<|zL W d (b.rl d) W c,b.pm,zB,(W:(X a:J)-1=((X a-1:K):J)),zb,z8,S,QK,U e]
def JD{fu:K}{p:J}{g h:N J}(hp:qk p=wL)(a:Fp p g)(b:Fp p h)(c:X g<=290)(hc:X h<=290)(e:3000000<=fu):
 ∃d s t,j8 fu g h p=Z (d,0)/\BzR p g h d s t (2+max (X g) (X h)*(max (X g) (X h)+1))/\(X d=0\/ci d (X d-1)=1):=by grind [j8,uB,U]
def zbL{p:J}{g h d s t:N J}{S:K}(hp:2<=p)(a:BzR p g h d s t S)(hd:X d=0\/ci d (X d-1)=1):X d=1↔jZ p (ci g) (ci h):=by
 refine⟨λh1=>H5 a h1 (hd.resolve_left W),λhc=> ?_⟩;have⟨A,C,c,z2,d1,d2⟩:=a.dv;have⟨u,v,z3,z4,hc⟩:=hc;have b:Cg p ((u*A+v*C)*ci d) (pc 1):=by
  refine Cg.trans (Cg.of ?_)<|(((Cg.rfl).mul d1.symm).add<|(Cg.rfl).mul d2.symm).trans hc;rw[yR,zd,zd]
 have f:0<X d:=by
  refine xcJ λe=> ?_;have h1:=b 0;rw[wI,yL λi hi=>by rw[yp W,xaA]]at h1;unfold pc at h1;rw[xau,xaJ i0 W]at h1;cases h1
 exact O5 hp ((z3.mul c).add<|z4.mul z2) f (hd.resolve_left W) b
section
variable{a:xS wl}{p:wl}
def dvp(f:Pz):Pz:=λk=>((k+1:K):J)*f (k+1)
theorem KM(f g:Pz):dvp (f*g)=dvp f*g+f*dvp g:=by
 funext k;show((k+1:K):J)*(f*g) (k+1)=(dvp f*g) k+(f*dvp g) k;rw[wI,wI,wI,<-Zb];have e:yh (k+1+1) (λi=>((k+1:K):J)*(f i*g (k+1-i)))=yh (k+1+1) (λi=>(i:J)*(f i*g (k+1-i)))+yh (k+1+1) (λi=>((k+1-i:K):J)*(f i*g (k+1-i))):=by
  rw[<-YU];exact yr λi hi=>by grind
 rw[e];congr 1
 ·rw[Zi];show((0:K):J)*_+_=_;rw[show((0:K):J)=0 from O,xbd,xcS];exact yr λi hi=>by
   show((i+1:K):J)*(f (i+1)*g (k+1-(i+1)))=((i+1:K):J)*f (i+1)*g (k-i);grind
 ·show yh (k+1) _+((k+1-(k+1):K):J)*_=_;rw[xcD,show((0:K):J)=0 from O,xbd,xcd];exact yr λi hi=>by
   show((k+1-i:K):J)*(f i*g (k+1-i))=f i*(((k-i+1:K):J)*g (k-i+1));grind
def zgs{m:J}{f g:Pz}(h:Cg m f g):Cg m (dvp f) (dvp g):=λk=>by
 show(((k+1:K):J)*f (k+1))%m=(((k+1:K):J)*g (k+1))%m;rw[xci,h,<-xci]
def zll(c:J):dvp (pc c)=pc 0:=jp λk=>by
 rw[zQ];rfl
def drv(p:J)(a:N J):N J:=nl (X a)<|λk=>dvp (ci a) k%p
def zil{k:K}(h:X a<=k+1):dvp (ci a) k=0:=by
 show((k+1:K):J)*ci a (k+1)=0;rw[yp h,xaA]
def HY(p:J)(a:N J)(k:K):ci (drv p a) k=dvp (ci a) k%p:=Cz (λk b=>by rw[zil W,xau]) k
def zfN(p:J)(a:N J):Cg p (ci<|drv p a) (dvp<|ci a):=λk=>by rw[HY,xaW]
def ze3(hp:0<p)(a:N J):Fp p (drv p a):=⟨λk=>by rw[HY];exact(xi hp).1,λk=>by rw[HY];exact(xi hp).2,tD _ _⟩
def zno(p:J)(a:N J):X (drv p a)<=X a:=FP _ _
def sy{fu:K}(hp:qk p=wL)(b:Fp p a)(hc:X a<=90000)(e:3000000<=fu):W6 fu a p=Z (drv p a,0):=by
 have⟨n,c⟩:=zw hp;unfold W6;have g:∀k:K,0<=((k:J)%p)*ci a k/\((k:J)%p)*ci a k<=4293001441:=λk=>by
  have d:=xi (a:=(k:J)) (p:=p);exact dF c d.1 d.2 (b.nn k)<|b.lt k
 rw[U<|uK hp,iq O,U<|zL W c (b.rl c) W e,b.pm,U (v:=zl (X a-1)<|λk=>(((k+1:K):J)%p)*ci a (k+1))]
 ·have l:∀k,X a-1<=k->(((k+1:K):J)%p)*ci a (k+1)=0:=λk o=>by rw[yp W,xaA]
  have d:Rl (zl (X a-1)<|λk=>(((k+1:K):J)%p)*ci a (k+1)):=λk=>by
   rw[Xg l];have:=g<|k+1;exact⟨W,W⟩
  rw[U<|zL W c d (by rw[zZ];lia) e];congr 2;refine(CZ W _).ext (ze3 W _) λk=> ?_;rw[Hi,Xg l,HY,xaW,xaW];show _=(((k+1:K):J)*ci a (k+1))%p;rw[xci,xaW,<-xci]
 ·refine zA (λs:N J×J×N J=>∃i:K,i<=X a/\s=(zl (i-1)<|λk=>(((k+1:K):J)%p)*ci a (k+1),(i:J),a)) (λs=>X a-s.2.1.toNat) _ ?_ _ _ ⟨0,xan _,O⟩ (by show X a-0<fu;lia);rintro s L ⟨i,hi,rfl⟩ m;unfold bM;simp only;by_cases h:i<X a
  ·rw[zX,U O];simp only[uP];rw[zo h,S,QK];by_cases h0:0<i
   ·have hd:=g i;obtain⟨j,rfl⟩:∃j,i=j+1:=⟨i-1,W⟩;rw[zX,yW,S,gj,zb,w8 (by rw[zZ];simp;lia),S,(W:j+1-1=j),zmV (f:=λk=>(((k+1:K):J)%p)*ci a (k+1)) O,zb];exact m _ ⟨j+1+1,W,O⟩ (by show X a-(((j+1:K):J)+1).toNat<X a-((j+1:K):J).toNat;lia)
   ·obtain rfl:i=0:=W
    rw[zB,zb];exact m _ ⟨1,W,O⟩ (by show X a-(((0:K):J)+1).toNat<X a-((0:K):J).toNat;lia)
  ·rw[zB,U O];simp only[xao,uS];obtain rfl:i=X a:=W
   rfl
end
section
variable{p:wl}{m g d:xS wl}{A:Pz}
structure vB(p:J)(m:N J):Prop where
 fm:Fp p m
 ln:0<m.length
 top:ci m (m.length-1)=1
def vB.mn(h:vB p m):Mn (ci m) (X m-1):=⟨h.top,λk a=>yp W⟩
def vB.one(h:vB p m)(hl:X m=1):m=[1]:=by
 match m,hl with
 |[x],_=>have:=h.top;exact ut (λy=>[y]) this
def GI{q r:N J}(hp:2<=p)(a:vB p m)(f:vB p g)(w:Fs A)(hd:Cg p (ci m) (A*ci g))(o:Fp p q)(B:Fp p r)(t:Cg p (ci m) (ci q*ci g+ci r))(C:X r<X g):
 vB p q/\Cg p (ci m) (ci q*ci g)/\X m+1=X q+X g:=by
 have hl:=f.ln;have h1:Cg p ((A-ci q)*ci g) (ci r):=by
  rw[jU];refine((hd.symm.trans t).sub Cg.rfl).trans<|Cg.of ?_;funext k;rw[yX,zU];lia
 have y:=f.mn.zero hp (w.subt<|Fs.ci q) λk u=>by rw[h1 k,yp W,xau]
 have D:Cg p (ci r) (pc 0):=h1.symm.trans<|y.mul_zero_r _;have b:Cg p (ci m) (ci q*ci g):=by
  refine t.trans<|Cg.iff_sub.2 ?_;have e:ci q*ci g+ci r-ci q*ci g=ci r:=by
   funext k;rw[yX,zU];lia
  simp_all
 have hn:=a.ln;have q0:0<X q:=by
  refine xcJ λe=> ?_;have v:=b<|X m-1;rw[a.top,wI,yL λi hi=>by rw[yp (l:=q) W,xbd],xau,xaJ i0 W]at v;cases v
 have ht:=f.mn.top (x:=ci q) (n:=X q-1) λk u=>yp W;have c:=b<|X q-1+(X g-1);rw[ht,a.fm.mod,o.mod]at c;have z:ci q (X q-1)≠0:=by
  obtain h|h:=o.nl
  ·lia
  ·exact h
 have hc:X m+1=X q+X g:=by
  have E:X q-1+(X g-1)<X m:=xdr λh=>by
   rw[yp h]at c;exact z c.symm
  have F:X m<=X q-1+(X g-1)+1:=a.fm.nl.le λk u=>by rw[<-a.fm.mod,b,ue (n:=X q) (m:=X g) (λj s=>yp s)<|λj s=>yp s,xau]
  lia
 refine⟨⟨o,q0,?_⟩,b,hc⟩;rw[<-c,(W:X q-1+(X g-1)=X m-1),a.top]
def zie{h s t:N J}{S:K}(hp:2<=p)(b:vB p g)(a:BzR p g h d s t S)(hd:X d=0\/ci d (X d-1)=1):vB p d:=by
 have⟨A,C,c,z2,d1,d2⟩:=a.dv;have hl:0<X d:=by
  refine xcJ λe=> ?_;have h1:=d1<|X g-1;rw[b.top,wI,yL λi hi=>by rw[yp W,xaA],xaJ i0 W]at h1;cases h1
 exact⟨a.df,hl,hd.resolve_left W⟩
def gm{a:N J}(hp:2<=p)(c:vB p a)(hd:vB p d)(e:Fs A)(h:Cg p (ci a) (A*ci d)):X d<=X a:=by
 refine xbz λhc=> ?_;have f:∀k,X d-1<=k->(A*ci d) k%p=0:=λk i=>by rw[<-h k,yp W,xau]
 have h0:=hd.mn.zero hp e f;have b:=(h.trans<|h0.mul_zero_r _)<|X a-1;rw[c.top,zQ,xaJ i0 W]at b;cases b
end
def zeW{p:J}{m:N J}(hp:0<p)(a:Fp p m):xF p m [1]=m:=by grind [Fp.ext,qY,Zx,jQ,yf]
section
variable{fu K:wr}{a b:Zr}
def exI(x y:J):J:=if y=0 then 0 else if x%y=0 then x/y else 0
def exE(x y:J):J:=if y=0 then 3 else if x%y=0 then 0 else 4
def k9(f:eT a)(c:eT b)(d:3000000<=fu):wk fu a b=Z (yz<|exI (zv a)<|zv b,exE (zv a)<|zv b):=by
 unfold wk exI exE;rw[U<|Ub f c d];unfold Ln;by_cases h0:zv b=0
 ·rw[iq h0,iq h0,iq h0];rfl
 ·rw[ir h0,ir h0,ir h0];simp only[uP];have g:Bz (X b.2) (zv a%zv b):=by
   unfold Bz;have h1:=xcR (zv a) h0;have i:=Int.emod_lt (zv a) h0;have h:=Bz.of c.1;unfold Bz at h;lia
  rw[U O,ir i0,U<|xe (g.ok (by have:=c.2;lia)) d,zn];by_cases h1:zv a%zv b=0
  ·rw[iq<|xN.2 h1,iq h1,iq h1]
  ·rw[ir<|λe=>h1<|xN.1 e,ir h1,ir h1];rfl
def te(f:eT a)(c:eT b)(d:3000000<=fu):W0 fu a b=Z (yz<|exI (zv a)<|zv b,exE (zv a)<|zv b):=by
 unfold W0 exI exE;rw[U<|cz f c d];unfold Ln;by_cases h0:zv b=0
 ·rw[iq h0,iq h0,iq h0];rfl
 ·rw[ir h0,ir h0,ir h0];simp only[uP];have g:Bz (X b.2) (zv a%zv b):=by
   unfold Bz;have h1:=xcR (zv a) h0;have i:=Int.emod_lt (zv a) h0;have h:=Bz.of c.1;unfold Bz at h;lia
  rw[U<|Qi (g.ok (by have:=c.2;lia)) d,zn];by_cases h1:zv a%zv b=0
  ·rw[iq<|xN.2 h1,iq h1,iq h1]
  ·rw[ir<|λe=>h1<|xN.1 e,ir h1,ir h1];rfl
def zcM{n:wr}(h:n<18446744073709551616^K):bl n<=64*K:=UI<|by rw[xch];exact h
def Ug(e:zm a.2)(f:zm b.2)(j:X a.2<=K)(hi:X b.2<=K)(p:K<=10000)(k:3000000<=fu):Wk fu a b=Z (yz (xdt (zv a).natAbs (zv b).natAbs:wr)):=by
 unfold Wk;rw[U<|W4 e,U<|W4 f,vK,vK];have c:nv a.2<18446744073709551616^K:=xah (vv e)<|xal i0 j;have g:nv b.2<18446744073709551616^K:=xah (vv f)<|xal i0 hi;generalize nv a.2=A at*
 generalize nv b.2=B at*
 have l:xdt A B<18446744073709551616^K:=by
  by_cases h:A=0
  ·simp_all
  ·exact xaL (Nat.gcd_le_left _ W) c
 have hc:∀{n:wr},n<18446744073709551616^K->X (yB n)<=K:=λ{n} h=>(zK _ _).2 h;rw[U (v:=yB<|xdt A B)]
 ·have hl:=hc l;rw[U (yE (zp _) W W),zT];rfl
 ·refine zA (λs:N wr×N wr=>∃x y:wr,s=(yB x,yB y)/\x<18446744073709551616^K/\y<18446744073709551616^K/\xdt x y=xdt A B) (λs=>bl (nv s.1)+bl (nv s.2)+if nv s.1<nv s.2 then 1 else 0) _ ?_ _ _ ⟨A,B,O,c,g,O⟩ ?_
  ·rintro s L ⟨x,y,rfl,m,i,d⟩ o;unfold px;simp only;have q:=hc m;have r:=hc i;by_cases h0:y=0
   ·subst h0;rw[ir<|by rw[dG];decide];rw[Nat.gcd_zero_right]at d;rw[d]
   ·have hp:=qe (n:=y) W;rw[zX,U<|oz (zp x) (zp y) W W k,zT,zT,ir h0];simp only;have t:=xaU x (W:0<y);refine o _ ⟨y,x%y,O,i,W,?_⟩ ?_
    ·rw[<-d,xdN y,<-Nat.gcd_rec,xdN]
    ·simp only[zT];rw[zB];by_cases hd:x<y
     ·rw[iq hd,xaq hd];lia
     ·have:=If (r0:=x) (r1:=y);lia
  ·simp only[zT];have h1:=zcM c;have u:=zcM g;split<;>lia
def eJ(c:zm a.2)(hl:X a.2<=200000)(d:3000000<=fu):VA fu a=Z (yz ((zv a).natAbs:wr)):=by
 unfold VA;rw[U<|xc (z:=(I,a.2)) c hl d,vK];rfl
def CP(d:zm a.2)(f:zm b.2)(hd:X a.2<=K)(k:X b.2<=K)(p:K<=10000)(c:3000000<=fu):J2 fu a b=Z (yz (xdt (zv a).natAbs (zv b).natAbs:wr)):=by
 unfold J2;rw[U<|eJ d W c,U<|eJ f W c,vK,vK];have g:nv a.2<18446744073709551616^K:=xah (vv d)<|xal i0 hd;have h:nv b.2<18446744073709551616^K:=xah (vv f)<|xal i0 k;generalize nv a.2=A at*
 generalize nv b.2=B at*
 rw[U (v:=yz (xdt A B:wr))];refine zA (λs:M×M=>∃x y:wr,s=(yz (x:wr),yz (y:wr))/\x<18446744073709551616^K/\y<18446744073709551616^K/\xdt x y=xdt A B) (λs=>bl (zv s.1).natAbs+bl (zv s.2).natAbs+if(zv s.1).natAbs<(zv s.2).natAbs then 1 else 0) _ ?_ _ _ ⟨A,B,O,g,h,O⟩ ?_
 ·rintro s L ⟨x,y,rfl,l,i,m⟩ n;unfold ib;simp only;have o:=Bz.nat l;have j:=Bz.nat i;rw[U<|Qi (j.ok W) c,zn];by_cases h0:y=0
  ·subst h0;rw[iq<|xN.2 (show((0:wr):J)=0 from O)];simp_all
  ·rw[ir<|λe=>h0 (by have:=xN.1 e;lia),U<|cz (o.okS W) (j.okS W) c,zn,zn];unfold Ln;rw[zB];simp only;have hi:=xaU x (W:0<y);rw[show((x:J)%(y:J))=((x%y:wr):J)from O];refine n _ ⟨y,x%y,O,i,W,?_⟩ ?_
   ·rw[<-m,xdN y,<-Nat.gcd_rec,xdN]
   ·simp only[zn,xaD];rw[zB];by_cases hc:x<y
    ·rw[iq hc,xaq hc];lia
    ·have:=If (r0:=x) (r1:=y);lia
 ·simp only[zn,xaD];have h1:=zcM g;have q:=zcM h;split<;>lia
end
section
variable{k d fu K:wr}{q:kw}
abbrev Qr:=M×N wr
def qv(x:Qr):kw:=iI (zv x.1)<|A x.2
def cq(q:kw):Qr:=(yz q.num,yB q.den)
def Qz(k:wr)(x:Qr):Prop:=zm x.1.2/\X x.1.2<=k/\zm x.2/\X x.2<=k
def Qh(k:wr)(q:kw):Prop:=Bz k q.num/\Bz k q.den
def uy(q:kw):qv (cq q)=q:=by unfold qv cq;rw[zn,zT,Rat.mkRat_self]
def Qh.qs(h:Qh k q):Qz k (cq q):=⟨yx _,h.1.len,zp _,by have:=h.2.len;unfold yz at this;simpa[cq]using this⟩
def Qz.mono{j:wr}{x:Qr}(h:Qz j x)(a:j<=k):Qz k x:=⟨h.1,xap h.2.1 a,h.2.2.1,xap h.2.2.2 a⟩
def Qz.nil(k:wr):Qz k ((I,[]),[]):=⟨zm.nil,xan _,zm.nil,xan _⟩
def MR:qv ((I,[]),[])=0:=Rat.mkRat_zero _
def Qh.mk{n:J}(hn:Bz k n)(hd:Bz k (d:J))(a:1<=k):Qh k (iI n d):=by
 unfold Qh;rw[Rat.num_mkRat,Rat.den_mkRat];by_cases h:d=0
 ·rw[iq h,iq h];exact⟨Bz.zero k,Bz.one' a⟩
 ·rw[ir h,ir h];refine⟨hn.le ?_,hd.le ?_⟩
  ·exact xbG _ _
  ·rw[xaD,xaD];exact xcM _ _
def Qz.hb{x:Qr}(h:Qz k x)(a:1<=k):Qh k (qv x):=by
 refine Qh.mk ((Bz.of h.1).mono h.2.1) ?_ a;unfold Bz;rw[xaD];exact xah (vv h.2.2.1)<|xal i0 h.2.2.2
def La{a b:J}(f:b≠0):(xgj a b).num=(if b<0 then-(a/(xdt a.natAbs b.natAbs:wr))else a/(xdt a.natAbs b.natAbs:wr))/\(xgj a b).den=(b/(xdt a.natAbs b.natAbs:wr)).natAbs:=by
 have c:((xdt a.natAbs b.natAbs:wr):J)∣a:=xfq.2<|xfR _ _;have e:((xdt a.natAbs b.natAbs:wr):J)∣b:=xfq.2<|xdC _ _;by_cases h:b<0
 ·obtain⟨d,rfl⟩:∃d:wr,b= -(d:J):=⟨b.natAbs,W⟩;have hd:d≠0:=W
  rw[xeY,xaD]at c e⊢;rw[iq h,Rat.divInt_neg',Rat.divInt_ofNat,Rat.num_mkRat,Rat.den_mkRat,ir hd,ir hd,xeY,xdN d];refine⟨Int.neg_ediv_of_dvd c,?_⟩;rw[Int.neg_ediv_of_dvd (by exact xcW.2<|xdC _ _),xeY,Int.natAbs_ediv_of_dvd<|xcW.2<|xdC _ _];rfl
 ·obtain⟨d,rfl⟩:∃d:wr,b=(d:J):=⟨b.natAbs,W⟩;have hd:d≠0:=W
  rw[ir h,Rat.divInt_ofNat,Rat.num_mkRat,Rat.den_mkRat,ir hd,ir hd,xaD,xdN d];refine⟨O,?_⟩;rw[Int.natAbs_ediv_of_dvd<|xcW.2<|xdC _ _];rfl
def KP{a b:M}(i:zm a.2)(j:zm b.2)(hc:X a.2<=K)(hd:X b.2<=K)(r:K<=10000)(c:3000000<=fu:=by lia):
 Yu fu a b=Z (if zv b=0 then(((I,[]),[]),3)else(cq<|xgj (zv a)<|zv b,0)):=by
 unfold Yu;have s:eT a:=⟨i,W⟩;have l:eT b:=⟨j,W⟩;rw[U<|xe l.ok c];by_cases h0:zv b=0
 ·rw[iq<|xN.2 h0,iq h0]
 ·rw[ir<|λe=>h0<|xN.1 e,ir h0,U<|Ug i j hc hd r c];have⟨h1,m⟩:=La (a:=zv a) h0;generalize f:((xdt (zv a).natAbs (zv b).natAbs:wr):J)=G at*
  have g1:G∣zv a:=by rw[<-f];exact xfq.2<|xfR _ _
  have n:G∣zv b:=by rw[<-f];exact xfq.2<|xdC _ _
  have g0:G≠0:=λe=>h0<|Int.zero_dvd.1<|e▸n;have t:Bz K G:=(Bz.of j).mono hd|>.le (by rw[<-f,xaD];exact Nat.le_of_dvd W<|xdC _ _)
  have o:eT (yz G):=t.okS W;rw[U<|k9 s o c,zn];simp only;rw[U<|k9 l o c,zn];have e1:∀{x:J},G∣x->exI x G=x/G:=λh=>by unfold exI;rw[ir g0,iq<|xaz h]
  rw[e1 g1,e1 n];have gp:0<G:=by rw[<-f];rw[<-f]at g0;lia
  have p:zv b/G<0↔zv b<0:=by
   constructor
   ·intro h;exact Int.not_le.1 λe=>wS (Int.ediv_nonneg e<|xdO gp) W
   ·intro h;exact Int.ediv_neg_of_neg_of_pos h gp
  by_cases g:zv b<0
  ·rw[iq<|(QH _).2<|p.2 g,U<|K5 (((Bz.of i).mono hc).le (xbG _ _)|>.ok W) c,zn];unfold cq;rw[h1,m,iq g];rfl
  ·rw[ir<|λe=>g<|p.1<|(QH _).1 e];unfold cq;rw[h1,m,ir g];rfl
def XD{x:Qr}(h:Qz K x)(b:K<=10000)(a:3000000<=fu):YM fu x=Z (yz (A x.2:wr)):=by
 unfold YM;rw[U<|kU ⟨h.2.2.1,xap h.2.2.2 W⟩ a];rfl
def Kp{n:J}(h:KH n)(a:3000000<=fu):vU fu n=Z (cq (n:kw)):=by
 unfold vU cq;rw[U<|yi h a,Rat.num_intCast,Rat.den_intCast];rfl
def iW{x:Qr}(h:Qz K x)(a:K<=10000)(b:3000000<=fu):xE fu x=Z (cq<|qv x):=by
 unfold xE;have hd:Bz K ((A x.2:wr):J):=by unfold Bz;rw[xaD];exact xah (vv h.2.2.1)<|xal i0 h.2.2.2
 rw[U<|XD h a b,U<|KP (K:=K) h.1 (yx _) h.2.1 hd.len a,zn];by_cases h0:((A x.2:wr):J)=0
 ·rw[iq h0];simp only;rw[ir i0,U<|Kp i0 b];unfold qv;rw[(W:A x.2=0),Rat.mkRat_zero];rfl
 ·rw[ir h0];simp only;rw[iq wR,Rat.divInt_ofNat];rfl
def VN(x:Qr):Prop:=Qz 4000 x
def bT(q:kw):Prop:=Qh 4000 q
def bT.rs(h:bT q):VN (cq q):=h.qs
def VN.hs{x:Qr}(h:VN x):bT (qv x):=h.hb i0
def VN.nil:VN ((I,[]),[]):=Qz.nil _
def vF{x:Qr}(h:VN x)(a:3000000<=fu):xE fu x=Z (cq<|qv x):=iW h i0 a
def zbt{n:J}(hn:Bz K n)(hd:Bz K (d:J))(a:K<=10000)(b:3000000<=fu):xE fu (yz n,yB d)=Z (cq<|iI n d):=by
 rw[iW (K:=K) ⟨yx _,hn.len,zp _,by have:=hd.len;unfold yz at this;simpa using this⟩ a b];unfold qv;rw[zn,zT]
def zhF(h:Qh K q):zm (yB q.den)/\X (yB q.den)<=K:=⟨zp _,h.qs.2.2.2⟩
def zaz{p:kw}(hp:bT p)(a:bT q)(c:3000000<=fu):uh fu (yB p.den) (yB q.den)=Z (yB<|p.den*q.den):=by
 have h1:=zhF hp;have b:=zhF a;rw[Y4 h1.1 b.1 W W W,zT,zT]
def QM{x y:Qr}(c:VN x)(e:VN y)(a:3000000<=fu):Wx fu x y=Z (cq<|qv x*qv y):=by
 unfold Wx;rw[U<|vF c a,U<|vF e a];have h1:=c.hs;have b:=e.hs;generalize qv x=p at*
 generalize qv y=q at*
 unfold cq;simp only;rw[U<|zV (h1.1.ok i0) (b.1.ok i0) a,U<|zaz h1 b a,zn,zn,U<|zbt (h1.1.mul b.1) (by rw[xeN];exact h1.2.mul b.2) i0 a,<-Rat.mkRat_mul_mkRat,Rat.mkRat_self,Rat.mkRat_self];rfl
def iA{x:Qr}(a:VN x)(b:3000000<=fu):JT fu x=Z (jH (qv x).num 0):=by
 unfold JT;rw[U<|vF a b];unfold cq;rw[U<|xe (a.hs.1.ok i0) b,zn]
def gw:jH q.num 0=0↔q=0:=xN.trans Rat.num_eq_zero
def UB{x y:Qr}{f:M->M->V M}{r:J}(c:VN x)(e:VN y)(a:3000000<=fu)(h:f (yz<|(qv x).num*(qv y).den) (yz<|(qv y).num*(qv x).den)=Z (yz r))(g:Bz 8001 r):WB fu x y f=Z (cq<|iI r<|(qv x).den*(qv y).den):=by
 unfold WB;rw[U<|vF c a,U<|vF e a];have h1:=c.hs;have b:=e.hs;generalize qv x=p at*
 generalize qv y=q at*
 rw[U<|XD b.qs i0 a];unfold cq;simp only;rw[zT,U<|zV (h1.1.ok i0) (b.2.ok i0) a];have hd:=XD (fu:=fu) h1.qs i0 a;unfold cq at hd;rw[U hd];simp only;rw[zT,U<|zV (b.1.ok i0) (h1.2.ok i0) a,zn,zn,zn,zn,U h,U<|zaz h1 b a,U<|zbt g (by rw[xeN];exact(h1.2.mul b.2).mono i0) i0 a];rfl
def oD{x y:Qr}(a:VN x)(b:VN y)(c:3000000<=fu):UA fu x y=Z (cq<|qv x+qv y):=by
 have h1:=a.hs;have e:=b.hs;have b1:=h1.1.mul e.2;have b2:=e.1.mul h1.2;unfold UA YT;rw[U<|U<|UB (r:=(qv x).num*(qv y).den+(qv y).num*(qv x).den) a b c ?_<|b1.add b2]
 ·rw[Rat.add_def,Rat.normalize_eq_mkRat]
 ·unfold XB;rw[ir i0,U<|vY (b1.ok i0) (b2.ok i0) c,zn,zn]
def pZ{x y:Qr}(a:VN x)(b:VN y)(c:3000000<=fu):Uu fu x y=Z (cq<|qv x-qv y):=by
 have h1:=a.hs;have e:=b.hs;have b1:=h1.1.mul e.2;have b2:=e.1.mul h1.2;unfold Uu YT;rw[U<|U<|UB (r:=(qv x).num*(qv y).den-(qv y).num*(qv x).den) a b c ?_<|b1.sub b2]
 ·rw[Rat.sub_def,Rat.normalize_eq_mkRat]
 ·unfold XB;rw[iq O,U<|qi (b1.ok i0) (b2.ok i0) c,zn,zn]
def pk{x y:Qr}(c:VN x)(f:VN y)(h0:qv y≠0)(a:3000000<=fu):Jc fu x y=Z (cq<|qv x/qv y,0):=by
 unfold Jc;rw[U<|vF c a,U<|vF f a];have h1:=c.hs;have b:=f.hs;generalize qv x=p at*
 generalize qv y=q at*
 rw[U<|XD b.qs i0 a];have hd:=XD (fu:=fu) h1.qs i0 a;unfold cq at hd⊢;simp only at hd⊢;have b1:=h1.1.mul b.2;have b2:=b.1.mul h1.2;have n0:q.num≠0:=λe=>h0<|Rat.num_eq_zero.1 e;rw[zT,U<|zV (h1.1.ok i0) (b.2.ok i0) a,U hd,zT,U<|zV (b.1.ok i0) (h1.2.ok i0) a,zn,zn,zn,zn,U (KP (K:=8000) (yx _) (yx _) b1.len b2.len i0),zn,zn];have g:q.num*(p.den:J)≠0:=xcT n0 (by have:=p.den_nz;lia);rw[ir g];simp only;have:xgj (p.num*q.den) (q.num*p.den)=p/q:=by rw[xbE q.num,<-Rat.divInt_mul_divInt,Rat.num_divInt_den,Rat.div_def,Rat.inv_def]
 rw[this];rfl
end
def V8:K->(K->kw)->kw
 |0,_=>0
 |n+1,g=>V8 n g+g n
def xB(n:K)(f:K->kw)(t:kw):kw:=V8 n λi=>f i*t^i
def vV{f g:K->kw}:∀{n},(∀i,i<n->f i=g i)->V8 n f=V8 n g
 |0,_=>rfl
 |n+1,h=>by show V8 n f+f n=V8 n g+g n;rw[vV λi hi=>h i W,h n W]
def Pj(f g:K->kw):∀n,V8 n (λi=>f i+g i)=V8 n f+V8 n g
 |0=>by show(0:kw)=0+0;grind
 |n+1=>by show V8 n _+_=V8 n f+f n+(V8 n g+g n);rw[Pj f g n];grind
def C3(c:kw)(f:K->kw):∀n,V8 n (λi=>c*f i)=c*V8 n f
 |0=>by show(0:kw)=c*0;grind
 |n+1=>by show V8 n _+_=c*(V8 n f+f n);rw[C3 c f n];grind
def XX{f:K->kw}:∀{n},(∀i,i<n->f i=0)->V8 n f=0
 |0,_=>rfl
 |n+1,h=>by show V8 n f+f n=0;rw[XX λi hi=>h i W,h n W];grind
def FV{f:K->kw}{n:K}:∀{m},n<=m->(∀i,n<=i->f i=0)->V8 m f=V8 n f
 |0,h,_=>by rw[(W:n=0)]
 |m+1,h,h0=>by
  by_cases e:n=m+1
  ·rw[e]
  ·show V8 m f+f m=_;rw[FV (m:=m) W h0,h0 m W];grind
def HG(f:K->kw):∀n,V8 (n+1) f=f 0+V8 n (λi=>f<|i+1)
 |0=>by show(0:kw)+f 0=f 0+0;grind
 |n+1=>by show V8 (n+1) f+f (n+1)=f 0+(V8 n _+f (n+1));rw[HG f n];grind
def PJ(f:K->kw)(k:K)(v:kw):K->kw:=λi=>if i=k then v else f i
def zhM{f:K->kw}{k:K}{v t:kw}:∀{n},k<n->xB n (PJ f k v) t=xB n f t+(v-f k)*t^k
 |0,h=>wS h<|xbq _
 |n+1,h=>by
  show xB n (PJ f k v) t+PJ f k v n*t^n=xB n f t+f n*t^n+_;by_cases e:k=n
  ·have:xB n (PJ f k v) t=xB n f t:=vV λi hi=>by unfold PJ;rw[zB]
   rw[this,e];unfold PJ;rw[iq O];grind
  ·rw[zhM W];have:PJ f k v n=f n:=by unfold PJ;rw[zB]
   rw[this];grind
def GA(n:K)(t:kw):xB n (λ_=>0) t=0:=XX λi _=>by grind
def bC(n:K)(f g:K->kw)(t:kw):xB n (λi=>f i+g i) t=xB n f t+xB n g t:=by
 unfold xB;rw[<-Pj];exact vV λi _=>by grind
def Xn(n:K)(c:kw)(f:K->kw)(t:kw):xB n (λi=>c*f i) t=c*xB n f t:=by
 unfold xB;rw[<-C3];exact vV λi _=>by grind
def Y6(n:K)(f:K->kw)(t:kw):xB (n+1) f t=f 0+t*xB n (λi=>f<|i+1) t:=by
 unfold xB;rw[HG,<-C3,xfj,vV (g:=λi=>t*(f (i+1)*t^i)) λi _=>by rw[Rat.pow_succ];grind];grind
def UQ{f:K->kw}{n m:K}(h:n<=m)(h0:∀i,n<=i->f i=0)(t:kw):xB m f t=xB n f t:=FV h λi hi=>by rw[h0 i hi];grind
def Nx(r:kw):∀(n:K) (f:K->kw),∃g,∀t,xB (n+1) f t-xB (n+1) f r=(t-r)*xB n g t
 |0,f=>⟨f,λt=>by rw[Y6,Y6];show f 0+t*0-(f 0+r*0)=(t-r)*0;grind⟩
 |n+1,f=>by
  have⟨g,a⟩:=Nx r n λi=>f<|i+1;refine⟨λi=>if i=0 then xB (n+1) (λi=>f<|i+1) r else g (i-1),λt=> ?_⟩;rw[Y6 (n+1) f,Y6 (n+1) f,Y6 n (λi=>if i=0 then xB (n+1) (λi=>f<|i+1) r else g (i-1))];have h:=a t;have e:xB n (λi=>if i+1=0 then xB (n+1) (λi=>f<|i+1) r else g (i+1-1)) t=xB n g t:=vV λi _=>by simp
  rw[e,iq O];generalize xB (n+1) (λi=>f<|i+1) t=A at*
  generalize xB (n+1) (λi=>f<|i+1) r=B at*
  grind
def Bk:∀(n:K) (f:K->kw) (N:K),(∀k:K,N<=k->xB n f (k:kw)=0)->∀i,i<n->f i=0
 |0,_,_,_,i,hi=>wS hi<|xbq _
 |n+1,f,N,h,i,hi=>by
  have⟨g,a⟩:=Nx (N:kw) n f;have b:=h N<|IR _;have g0:∀i,i<n->g i=0:=Bk n g (N+1) λk c=>by
   have h1:=a k;rw[h k W,b]at h1;have j:((k:K):kw)-N≠0:=λe=>by
    have d:((k:K):kw)=N:=by grind
    have:=xec.1 d;lia
   grind
  have e:∀t,xB (n+1) f t=0:=λt=>by
   have h1:=a t;rw[show xB n g t=0 from XX λi hi=>by rw[g0 i hi];grind,b]at h1;grind
  have f0:f 0=0:=by have:=e 0;rw[Y6]at this;grind
  have f1:=Bk n (λi=>f<|i+1) 1 λk c=>by
   have h1:=e k;rw[Y6,f0]at h1;have:((k:K):kw)≠0:=λe=>by have:=xec.1<|e.trans (by rfl:(0:kw)=((0:K):kw));lia
   grind
  cases i with
  |zero=>exact f0
  |succ i=>exact f1 i W
def zbz{n:K}{f g:K->kw}(h:∀t,xB n f t=xB n g t):∀i,i<n->f i=g i:=λi hi=>by
 have:=Bk n (λi=>f i+ -1*g i) 0 (λk _=>by rw[bC,Xn,h];grind) i hi;grind
def n9(t:kw)(m:K):∀n,t^(m+n)=t^m*t^n
 |0=>by rw[xbD,xfj];grind
 |n+1=>by rw[<-xcH,Rat.pow_succ,Rat.pow_succ,n9 t m n];grind
def mF(n:K)(F:kw->kw):Prop:=∃f,∀t,F t=xB n f t
def mF.self(n:K)(f:K->kw):mF n (xB n f):=⟨f,λ_=>O⟩
def mF.mono{m n:K}{F:kw->kw}(h:mF n F)(a:n<=m):mF m F:=by
 have⟨f,b⟩:=h;refine⟨λi=>if i<n then f i else 0,λt=> ?_⟩;rw[b,UQ a<|λi hi=>by rw[zB]];exact vV λi hi=>by simp[hi]
def mF.add{n:K}{F G:kw->kw}:mF n F->mF n G->mF n λt=>F t+G t:=λ⟨f,a⟩ ⟨g,b⟩=>⟨λi=>f i+g i,λt=>by have:=a t;have:=b t;rw[bC];grind⟩
def mF.smul{n:K}{F:kw->kw}(c:kw):mF n F->mF n λt=>c*F t:=λ⟨f,a⟩=>⟨λi=>c*f i,λt=>by have:=a t;rw[Xn];grind⟩
def mF.x{n:K}{F:kw->kw}:mF n F->mF (n+1) λt=>t*F t:=λ⟨f,a⟩=>⟨λi=>if i=0 then 0 else f (i-1),λt=>by
 have h1:xB n (λi=>if i+1=0 then 0 else f (i+1-1)) t=xB n f t:=vV λi _=>by simp
 have:=a t;rw[Y6,h1,iq O];grind⟩
def mF.xn{n:K}{F:kw->kw}(h:mF n F):∀m,mF (n+m) λt=>t^m*F t
 |0=>by have⟨f,a⟩:=h;exact⟨f,λt=>by have:=a t;show t^0*F t=xB n f t;rw[xfj];grind⟩
 |m+1=>by have⟨f,a⟩:=(h.xn m).x;exact⟨f,λt=>by have:=a t;show t^(m+1)*F t=xB (n+m+1) f t;rw[Rat.pow_succ];grind⟩
def mF.mul{m:K}{G:kw->kw}(a:mF (m+1) G):∀(n:K) (f:K->kw),mF (n+m) λt=>xB n f t*G t
 |0,f=>⟨λ_=>0,λt=>by rw[GA];show(0:kw)*_=0;grind⟩
 |n+1,f=>by
  have⟨g,b⟩:=((mF.mul a n f).mono (m:=n+1+m) W).add (((a.xn n).smul<|f n).mono (m:=n+1+m) W);exact⟨g,λt=>by rw[<-b];show(xB n f t+f n*t^n)*G t=_;grind⟩
def cn(F:kw->kw):Prop:=∃n,mF n F
def cn.self(n:K)(f:K->kw):cn (xB n f):=⟨n,mF.self n f⟩
def cn.add{F G:kw->kw}:cn F->cn G->cn λt=>F t+G t:=λ⟨m,h⟩ ⟨n,k⟩=>⟨max m n,(h.mono W).add<|k.mono W⟩
def cn.mul{F G:kw->kw}:cn F->cn G->cn λt=>F t*G t:=λ⟨m,f,a⟩ ⟨n,k⟩=>⟨m+n,by
 have⟨g,b⟩:=mF.mul (k.mono<|xbH n) m f;exact⟨g,λt=>by rw[<-b];show F t*G t=xB m f t*G t;rw[a]⟩⟩
def cn.c(a:kw):cn λ_=>a:=⟨1,λ_=>a,λt=>by rw[Y6];show a=a+t*0;grind⟩
def cn.smul{F:kw->kw}(c:kw)(h:cn F):cn λt=>c*F t:=(cn.c c).mul h
def cn.sub{F G:kw->kw}(h:cn F)(k:cn G):cn λt=>F t-G t:=by
 have⟨n,g,a⟩:=h.add<|k.smul (-1);exact⟨n,g,λt=>by rw[<-a];grind⟩
def ju(P F G:kw->kw):Prop:=∃Q,cn Q/\∀t,F t-G t=P t*Q t
def ju.refl{P F:kw->kw}:ju P F F:=⟨_,cn.c 0,λt=>by grind⟩
def ju.of{P F G:kw->kw}(h:∀t,F t=G t):ju P F G:=⟨_,cn.c 0,λt=>by rw[h];grind⟩
def ju.symm{P F G:kw->kw}:ju P F G->ju P G F:=λ⟨Q,h,e⟩=>⟨_,h.smul (-1),λt=>by have:=e t;grind⟩
def ju.trans{P F G H:kw->kw}:ju P F G->ju P G H->ju P F H:=λ⟨Q,h,e⟩ ⟨R,k,a⟩=>⟨_,h.add k,λt=>by have:=e t;have:=a t;grind⟩
def ju.add{P F G F' G':kw->kw}:ju P F G->ju P F' G'->ju P (λt=>F t+F' t) λt=>G t+G' t:=λ⟨Q,h,e⟩ ⟨R,k,a⟩=>⟨_,h.add k,λt=>by have:=e t;have:=a t;grind⟩
def ju.mul{P F G F' G':kw->kw}(a:cn F')(b:cn G):ju P F G->ju P F' G'->ju P (λt=>F t*F' t) λt=>G t*G' t:=λ⟨Q,h,e⟩ ⟨R,k,c⟩=>⟨_,(h.mul a).add<|b.mul k,λt=>by have:=e t;have:=c t;grind⟩
def ju.smul{P F G:kw->kw}(c:kw):ju P F G->ju P (λt=>c*F t) λt=>c*G t:=λ⟨Q,h,e⟩=>⟨_,h.smul c,λt=>by have:=e t;grind⟩
def ju.sub{P F G F' G':kw->kw}(h:ju P F G)(k:ju P F' G'):ju P (λt=>F t-F' t) λt=>G t-G' t:=by
 have⟨Q,h,e⟩:=h.add<|k.smul (-1);exact⟨Q,h,λt=>by have:=e t;grind⟩
def ju.inj{d:K}{b f g:K->kw}(o:b d=1)(h:ju (xB (d+1) b) (xB d f) (xB d g)):∀i,i<d->f i=g i:=by
 have⟨Q,⟨n,q,a⟩,e⟩:=h;have j:∀n (q:K->kw),(∀t,xB d f t-xB d g t=xB (d+1) b t*xB n q t)->∀t,xB n q t=0:=by
  intro n
  induction n with
  |zero=>intro q _ t;rfl
  |succ n p=>
   intro q e;have⟨c,hc⟩:=((((mF.self d f).add<|(mF.self d g).smul (-1)).mono (m:=n+d) W).add<|(mF.mul (mF.self (d+1) b) n q).smul (-1)).add ((((mF.self d b).xn n).smul (-q n)).mono (m:=n+d) W);have h1:=Bk (n+d+1) (λi=>if i<n+d then c i else-q n) 0 (λk _=>by
    show xB (n+d) _ _+(if n+d<n+d then c (n+d)else-q n)*(k:kw)^(n+d)=0;have r:xB (n+d) (λi=>if i<n+d then c i else-q n) (k:kw)=xB (n+d) c k:=vV λi hi=>by simp[hi]
    have s:=hc k;have u:xB d f (k:kw)-xB d g k=(xB d b k+b d*(k:kw)^d)*(xB n q k+q n*(k:kw)^n):=e k;have v:xB (d+1) b (k:kw)=xB d b k+b d*(k:kw)^d:=O;rw[r,<-s,zB,n9];show xB d f k+ -1*xB d g k+ -1*(xB n q k*xB (d+1) b k)+ -q n*((k:kw)^n*xB d b k)+ -q n*((k:kw)^n*(k:kw)^d)=0;rw[v];rw[o]at u⊢;grind) (n+d) W
   simp only[xfW,uS]at h1;have q0:q n=0:=by grind
   have l:∀t,xB (n+1) q t=xB n q t:=λt=>by show xB n q t+q n*t^n=_;rw[q0,xeA,xfk]
   intro t;rw[l];exact p q (λt=>by rw[<-l];exact e t) t
 intro i hi;exact zbz (λt=>by have:=e t;rw[a,j n q (λt=>by rw[<-a];exact e t),Rat.mul_zero]at this;clear e a j;grind) i hi
section
variable{k j i:wr}{f g:wr->kw}{a b:wl}{l:xS kw}
def yS(l:N kw)(i:K):kw:=l.getD i 0
def vd(l:N kw):kw->kw:=xB (X l)<|yS l
def dE(k:K)(f:K->kw):Prop:=∃D:K,0<D/\D<2^k/\∀i,∃n:J,f i*D=n/\n.natAbs<2^k
def Ht(k:K)(l:N kw):Prop:=dE k<|yS l
def Hx(k:K)(x:kw):Prop:=∃D:K,0<D/\D<2^k/\∃n:J,x*D=n/\n.natAbs<2^k
def dE.hx(h:dE k f)(i:K):Hx k (f i):=by
 have⟨D,h0,h1,c⟩:=h;exact⟨D,h0,h1,c i⟩
def Sd{K:wr}(h:k<=64*K):2^k<=18446744073709551616^K:=xap (xal i0 h)<|by rw[xch];exact IR _
theorem zg4{x:kw}{D:K}{n:J}(h0:0<D)(h:x*D=n):x=iI n D:=by
 have c:((D:K):kw)≠0:=λe=>by have:=xec.1<|e.trans (by rfl:(0:kw)=((0:K):kw));lia
 rw[xfS,<-h];grind
def Hx.hs{x:kw}(h:Hx k x)(m:k<=256000):bT x:=by
 have⟨D,h0,h1,n,d,e⟩:=h;rw[zg4 h0 d];have c:=Sd (K:=4000) (W:k<=64*4000);exact Qh.mk (xah e c) (xah (by rw[xaD];exact h1) c) i0
def dE.mono(h:dE j f)(c:j<=k):dE k f:=by
 have⟨D,h0,h1,d⟩:=h;have:=xal (i0:0<2) c;exact⟨D,h0,W,λi=>by have⟨n,a,b⟩:=d i;exact⟨n,a,W⟩⟩
def xv(c:a.natAbs<2^j)(d:b.natAbs<2^k):(a*b).natAbs<2^(j+k):=by
 rw[xct,xbo];exact xcm c d
theorem Hx.mul{x y:kw}(c:Hx j x)(d:Hx k y):Hx (j+k) (x*y):=by
 have⟨D,h0,h1,n,e,h⟩:=c;have⟨E,g0,g1,m,o,p⟩:=d;refine⟨D*E,xdy h0 g0,by rw[xbo];exact xcm h1 g1,n*m,?_,xv h p⟩;rw[xda,xbs,<-e,<-o];grind
def Fj(c:a.natAbs<2^k)(d:b.natAbs<2^k):(a+b).natAbs<2^(k+1):=by rw[xba];lia
theorem dE.comb{c:kw}(h:dE j f)(d:dE k g){s:K}(hc:∃m:J,c=m/\m.natAbs<2^s):dE (j+k+s+1) λi=>f i+c*g i:=by
 have⟨D,h0,h1,e⟩:=h;have⟨E,g0,g1,o⟩:=d;obtain⟨m,rfl,p⟩:=hc;have e1:D*E<2^(j+k):=by rw[xbo];exact xcm h1 g1
 have v:=xal (i0:0<2) (W:j+k<=j+k+s+1);refine⟨D*E,xdy h0 g0,W,λi=> ?_⟩;have⟨n,q,r⟩:=e i;have⟨u,b1,b2⟩:=o i;refine⟨n*E+m*(u*D),?_,Fj (k:=j+k+s) ?_ ?_⟩
 ·rw[Rat.intCast_add,xbs,xbs,xbs,xda,<-q,<-b1];show _=f i*D*(E:kw)+m*(g i*E*(D:kw));grind
 ·have:=xv r (b:=(E:J)) (k:=k) (by rw[xaD];exact g1);have:=xal (i0:0<2) (W:j+k<=j+k+s);lia
 ·have:=xv p (xv b2 (b:=(D:J)) (k:=j)<|by rw[xaD];exact h1);have t:s+(k+j)=j+k+s:=W
  rwa[t]at this
theorem dE.less{b:K}{h:K->kw}{e:K}(m:dE k f)(o:dE b g)(p:∀i,h i=f i\/∃j,h i=f i-f e*g j):dE (k+b+1) h:=by
 have⟨D,h0,h1,c⟩:=m;have⟨E,g0,g1,r⟩:=o;have e1:D*E<2^(k+b):=by rw[xbo];exact xcm h1 g1
 have t:=xal (i0:0<2) (W:k+b<=k+b+1);refine⟨D*E,xdy h0 g0,W,λi=> ?_⟩;have⟨n,d,s⟩:=c i;have a3:=xv s (b:=(E:J)) (k:=b) (by rw[xaD];exact g1);obtain q|⟨j,q⟩:=p i
 ·refine⟨n*E,?_,W⟩;rw[q,xbs,xda,<-d];show _=f i*D*(E:kw);grind
 ·have⟨u,b1,b2⟩:=r j;have⟨v,c1,c2⟩:=c e;have w:=xv c2 b2;refine⟨n*E-v*u,?_,W⟩;rw[q,Rat.intCast_sub,xbs,xbs,xda,<-d,<-b1,<-c1];show _=f i*D*(E:kw)-_;grind
def bF(h:i<X l:=by lia):(l.map cq).getD i ((I,[]),[])=cq (yS l i):=by
 unfold yS;simp[FS,xbV,xab h]
def Kx{v:kw}(h:i<X l:=by lia):yS (l.set i v)=PJ (yS l) i v:=by
 funext j;unfold yS PJ;by_cases e:j=i
 ·subst e;simp[FS,h]
 ·rw[ir e];simp[FS,List.getElem?_set_ne<|Ne.symm e]
def Yg(h:X l<=i:=by lia):yS l i=0:=by unfold yS;simp[FS,xbB h]
def oy(h:i<k):yS (l.take k) i=yS l i:=by unfold yS;simp[FS,xcn,h]
def kG{n:K}(h:X l<=n)(t:kw):vd l t=xB n (yS l) t:=(UQ h (λi hi=>Yg hi) t).symm
def Ht.hs{k i:K}{l:N kw}(h:Ht k l)(c:k<=256000):bT (yS l i):=(dE.hx h i).hs c
theorem Ht.take{k m:K}{l:N kw}(h:Ht k l):Ht k (l.take m):=by
 have⟨D,h0,h1,c⟩:=h;refine⟨D,h0,h1,λi=> ?_⟩;by_cases e:i<m
 ·rw[oy e];exact c i
 ·rw[Yg<|by rw[xav];lia];exact⟨0,by grind,xdL _⟩
def re(d:K)(q:N kw):Prop:=X q<=d/\(X q≠0->yS q (X q-1)≠0)
def re.ext{d:K}{p q:N kw}(hp:re d p)(c:re d q)(h:∀i,i<d->yS p i=yS q i):p=q:=by
 have hl:X p=X q:=by
  rcases Nat.lt_trichotomy (X p) (X q) with e|e|e
  ·exact wS ((h _ (by have:=c.1;lia)).symm.trans<|Yg)<|c.2 W
  ·exact e
  ·exact wS ((h _ (by have:=hp.1;lia)).trans<|Yg)<|hp.2 W
 refine xeI hl λi h1 m=> ?_;have:=h i (by have:=hp.1;lia);unfold yS at this;simpa[FS,xab h1,xab m]using this
def re.inj{d:K}{β:K->kw}{p q:N kw}(c:β d=1)(hp:re d p)(m:re d q)(h:ju (xB (d+1) β) (vd p) (vd q)):p=q:=by
 have⟨Q,k,e⟩:=h;exact hp.ext m<|ju.inj c ⟨Q,k,λt=>by rw[<-kG hp.1,<-kG m.1];exact e t⟩
def re.nil(d:K):re d []:=⟨xan _,λh=>wS O h⟩
def Mv(t:kw):vd [] t=0:=O
structure Fld(r:N M×N Qr)(d b:K)(β:K->kw):Prop where
 len:r.2.length=d+1
 at_:∀i,i<=d->r.2.getD i ((I,[]),[])=cq (β i)
 one:β d=1
 ht:dE b β
 d1:1<=d
 d2:d<=16
 b2:b<=700
theorem UO{β g:K->kw}{c:kw}{e:K}(h0:∀i,i<e->g i=0):∀s,(∀i,i<s->g (e+i)=c*β i)->∀t,xB (e+s) g t=c*(t^e*xB s β t)
 |0,_,t=>by show xB e g t=c*(t^e*0);rw[Rat.mul_zero,Rat.mul_zero];exact XX λi hi=>by rw[h0 i hi,xeA]
 |s+1,h,t=>by
  show xB (e+s) g t+g (e+s)*t^(e+s)=c*(t^e*(xB s β t+β s*t^s));rw[UO h0 s (λi hi=>h i W) t,h s W,n9];grind
end
section
variable{fu d b k:wr}{r:xS Zr×xS Qr}{β:wr->kw}
def ziW(F:Fld r d b β){l:N kw}{e:K}(hl:Ht k l)(u:d<=e)(hc:e<X l)(v:X l<=1000)(w:k+b+1<=256000)(g:3000000<=fu):
 ∃y,zg (Yi fu (e:J) r (d:J)) fu (0,l.map cq,cq<|yS l e)=Z y/\∃a,y=a.map cq/\X a=X l/\∀i,yS a i=if e-d<=i/\i<e then yS l i-yS l e*β (i-(e-d))else yS l i:=by
 have hd:=F.d2;refine yc (λs=>∃(m:K) (l1:N kw),s=((m:J),l1.map cq,cq<|yS l e)/\m<=d/\X l1=X l/\∀i,yS l1 i=if e-d<=i/\i<e-d+m then yS l i-yS l e*β (i-(e-d))else yS l i) (λs=>d-s.1.toNat) _ ?_ fu _ ⟨0,l,O,xan _,O,λi=>by rw[zB]⟩ (by show d-(0:J).toNat<fu;lia);rintro _ L ⟨m,l1,rfl,n,h1,f⟩ o;unfold Yi;simp only;by_cases p:m=d
 ·rw[zB,U O];simp only[xao,uS];exact⟨_,O,l1,O,h1,λi=>by rw[f];congr 1;rw[p,(W:e-d+d=e)]⟩
 ·rw[zX,U O];simp only[uP];have e1:(e:J)-d=((e-d:K):J):=W
  have j:((e-d:K):J)+m=((e-d+m:K):J):=W
  rw[e1,zb,j,zb,zb,j,zb,zo (by rw[xaj];lia),S,bF,zo (by rw[F.len];lia),S,F.at_ m n];have q:bT (yS l e):=hl.hs W;have t:bT (β m):=(F.ht.hx m).hs W;have a3:bT (yS l e*β m):=((dE.hx hl e).mul<|F.ht.hx m).hs W;have a4:yS l1 (e-d+m)=yS l (e-d+m):=by rw[f,zB]
  have a5:bT (yS l<|e-d+m):=hl.hs W;rw[a4,U<|QM q.rs t.rs g,uy,uy,U<|pZ a5.rs a3.rs g,uy,uy,zo (by rw[xaj];lia),S,zb,<-List.map_set];refine o _ ⟨m+1,_,O,W,by rw[xbj,h1],λi=> ?_⟩ (by show d-((m:J)+1).toNat<d-(m:J).toNat;lia);rw[Kx];unfold PJ;by_cases c:i=e-d+m
  ·rw[iq c,zX,c,(W:e-d+m-(e-d)=m)]
  ·rw[ir c,f];congr 1;exact ii ⟨λh=>by lia,λh=>by lia⟩
theorem zcz(F:Fld r d b β){l a:N kw}{e:K}(s:d<=e)(j:X l=e+1)(hl:Ht k l)(h1:X a=X l)(f:∀i,yS a i=if e-d<=i/\i<e then yS l i-yS l e*β (i-(e-d))else yS l i):
 ju (xB (d+1) β) (vd<|a.take e) (vd l)/\Ht (k+b+1) (a.take e):=by
 constructor
 ·refine⟨_,((cn.self (e-d+1) (λi=>if i=e-d then 1 else 0)).smul (-yS l e)),λt=> ?_⟩;have g1:vd (a.take e) t=xB e (yS l) t+ -1*xB e (λi=>if e-d<=i/\i<e then yS l e*β (i-(e-d))else 0) t:=by
   rw[kG (n:=e) (by rw[xav];lia),<-Xn,<-bC];refine vV λi hi=> ?_;rw[oy hi,f];split<;>grind
  have h:=UO (β:=β) (g:=λi=>if e-d<=i/\i<e then yS l e*β (i-(e-d))else 0) (c:=yS l e) (e:=e-d) (λi hi=>by rw[zB]) d (λi hi=>by rw[zX,(W:e-d+i-(e-d)=i)]) t;rw[(W:e-d+d=e)]at h;have m:vd l t=xB e (yS l) t+yS l e*t^e:=by unfold vd;rw[j];rfl
  have o:xB (d+1) β t=xB d β t+1*t^d:=by rw[<-F.one];rfl
  have p:xB (e-d+1) (λi=>if i=e-d then 1 else 0) t=t^(e-d):=by
   show xB (e-d) _ t+(if e-d=e-d then(1:kw)else 0)*t^(e-d)=_;rw[iq O,show xB (e-d) (λi=>if i=e-d then 1 else 0) t=0 from XX λi hi=>by show(if i=e-d then(1:kw)else 0)*t^i=0;rw[zB,xeA]];grind
  have q:t^e=t^(e-d)*t^d:=by rw[<-n9,(W:e-d+d=e)]
  rw[g1,h,m,o,p,q];grind
 ·exact Ht.take (dE.less (e:=e) hl F.ht λi=>by
   rw[f];by_cases c:e-d<=i/\i<e
   ·exact .inr ⟨_,iq c⟩
   ·exact .inl<|ir c)
def zic(F:Fld r d b β){c n0:K}{l0:N kw}(h0:Ht c l0)(hn:X l0=n0)(E:n0<=100)(G:c+n0*(b+1)<=255000)(p:3000000<=fu):
 ∃y,zg (Yt fu r (d:J)) fu (l0.map cq,(n0:J)-1)=Z y/\∃q,(y=.inl (q.map cq)\/y=.inr (q.map cq))/\re d q/\ju (xB (d+1) β) (vd q) (vd l0)/\Ht (c+n0*(b+1)) q:=by
 have hd:=F.d2;have H:=F.b2;refine yc (λs=>∃(l:N kw) (j:K),s=(l.map cq,(X l:J)-1)/\X l+j=n0/\ju (xB (d+1) β) (vd l) (vd l0)/\Ht (c+j*(b+1)) l) (λs=>X s.1) _ ?_ fu _ ⟨l0,0,by rw[hn],W,ju.refl,by simpa using h0⟩ (by show(l0.map cq).length<fu;rw[xaj];lia);rintro _ L ⟨l,j,rfl,M,g,a⟩ u;have P:j*(b+1)<=n0*(b+1):=xak _ W;unfold Yt;simp only;by_cases w:X l=0
 ·rw[zB];refine⟨_,O,l,.inl O,?_,g,a.mono W⟩;rw[xbh.1 w];exact re.nil d
 ·have⟨e,m⟩:∃e,X l=e+1:=⟨X l-1,W⟩;have e1:(X l:J)-1=(e:J):=W
  rw[e1,zX,zo (by rw[xaj];lia),S,bF];by_cases hl:d<=e
  ·rw[zX,U O];simp only[uP];obtain⟨_,h1,v,rfl,x,z⟩:=ziW F a hl W W W p;have⟨A,B⟩:=zcz F hl m a x z;have o:X (v.take e)=e:=by rw[xav];lia
   rw[U h1,yF,w8 (by rw[xaj];lia),S,zb,<-xeU];exact u _ ⟨_,j+1,by rw[o],W,A.trans g,B.mono<|by rw[xds];lia⟩ (by show(((v.take e).map cq)).length<X (l.map cq);rw[xaj,xaj];lia)
  ·rw[zB,U O];simp only[xao,uS];have C:bT (yS l e):=a.hs W;rw[U<|iA C.rs p,uy];by_cases hc:yS l e=0
   ·rw[iq<|gw.2 hc,yF,w8 (by rw[xaj];lia),S,zb,<-xeU];have o:X (l.take e)=e:=by rw[xav];lia
    refine u _ ⟨_,j+1,by rw[o],W,ju.trans (ju.of λt=> ?_) g,a.take.mono<|by rw[xds];lia⟩ (by show((l.take e).map cq).length<X (l.map cq);rw[xaj,xaj];lia);rw[kG (n:=e) W];show _=xB (X l) (yS l) t;rw[m];show _=xB e (yS l) t+yS l e*t^e;rw[hc,xeA,xfk];exact vV λi hi=>by rw[oy hi]
   ·rw[ir<|λh=>hc<|gw.1 h,zb];have D:(e:J)+1=((e+1:K):J):=W
    rw[D,yF,w8 (by rw[xaj];lia),S,<-m,<-xaj (f:=cq),xbY];exact⟨_,O,l,.inr O,⟨W,λ_=>by rw[m];exact hc⟩,g,a.mono W⟩
def zjq{a:N Qr}(e:∀x∈a,VN x)(hn:X a<=100)(f:3000000<=fu):zg (Ym fu r a) fu (0,xaa (X a) ((I,[]),[]))=Z ((a.map qv).map cq):=by
 refine zA (λs=>∃m:K,m<=X a/\s=((m:J),((a.take m).map qv).map cq++xaa (X a-m) ((I,[]),[]))) (λs=>X a-s.1.toNat) _ ?_ fu _ ⟨0,W,i7⟩ (by show X a-(0:J).toNat<fu;lia);rintro _ L ⟨m,j,rfl⟩ g;unfold Ym;simp only;by_cases h:m=X a
 ·rw[zB,U O];simp[h]
 ·rw[zX,U O];simp only[uP];have i:VN (a.getD m ((I,[]),[])):=by
   have c:m<X a:=W
   rw[FS,xab c];exact e _<|xbQ c
  rw[z8,S,U<|vF i f,zo (by simp;lia),S,zb,zbU (by simp;lia) W];refine g _ ⟨m+1,W,?_⟩ (by show X a-((m:J)+1).toNat<X a-(m:J).toNat;lia);have c:m<X a:=W
  rw[xeu,xab c,FS,xab c];simp only[Option.toList,xdq,xaY,xbS,xex];rfl
def UU(F:Fld r d b β){a:N Qr}(e:∀x∈a,VN x)(hn:X a<=100)(f:Ht k (a.map qv))(g:k+X a*(b+1)<=255000)(c:3000000<=fu):
 ∃q,yT fu r a=Z (q.map cq)/\re d q/\ju (xB (d+1) β) (vd q) (vd<|a.map qv)/\Ht (k+X a*(b+1)) q:=by
 have hd:=F.d2;have⟨y,h1,q,h,i⟩:=zic F f (xaj _) hn g c;refine⟨q,?_,i⟩;unfold yT;rw[yF,yW,S,U<|zjq e hn c,F.len,zb,xaj,xaj,zb,(W:((d+1:K):J)-1=(d:J)),U h1];obtain rfl|rfl:=h<;>rfl
end
section
variable{fu d b j k:wr}{r:xS Zr×xS Qr}{β:wr->kw}
def vl(a:N Qr):N kw:=a.map qv
def ek(a:N Qr)(i:K):yS (vl a) i=qv (a.getD i ((I,[]),[])):=by
 unfold yS vl;rw[FS,FS,xbV];cases a[i]? <;>simp[MR]
def tc{a:N Qr}{i:K}{v:kw}:vl (a.set i<|cq v)=(vl a).set i v:=by unfold vl;rw[List.map_set,uy]
def XP(l:N kw):vl (l.map cq)=l:=by unfold vl;rw[xcN];exact(xbZ λx _=>uy x).trans<|List.map_id l
def kL(a:N Qr):X (vl a)=X a:=xaj _
def BO{a:N Qr}(c:∀x∈a,VN x)(i:K):VN (a.getD i ((I,[]),[])):=by
 rw[FS]
 cases h:a[i]? with
 |none=>exact VN.nil
 |some x=>exact c x<|xbp h
def Ld{a:N Qr}(c:∀x∈a,VN x){i:K}{v:kw}(hv:bT v):∀x∈a.set i (cq v),VN x:=λx e=>by
 obtain h|h:=xdF e
 ·exact c x h
 ·rw[h];exact hv.rs
def zav(n:K):∀x∈xaa n (((I,[]),[]):Qr),VN x:=λx a=>by rw[(xfr.1 a).2];exact VN.nil
def zmC{l:N kw}{k:K}(h:Ht k l)(a:k<=256000):∀x∈l.map cq,VN x:=λx c=>by
 obtain⟨y,f,rfl⟩:=xas.1 c;have⟨i,hi,e⟩:=xcE.1 f;have:=h.hs (i:=i) a;unfold yS at this;rw[FS,xab hi,xdq,e]at this;exact this.rs
def zed{q:N kw}{o:N Qr}{i2:J}{i1:K}{x:kw}{t7:N Qr}(l:∀x∈o,VN x)(hl:i1+X q<=X o)(h1:X o<=1000)(n:bT x)(p:∀m,bT<|yS q m)(t:∀m,bT<|x*yS q m)(u:∀j m,bT<|yS (vl o) j+x*yS q m)(g:3000000<=fu):
 ∃y,zg (kN fu (i1:J) (q.map cq) r t7 i2) fu (0,q.map cq,o,cq x)=Z y/\∃a,y=(q.map cq,a)/\(∀x∈a,VN x)/\X a=X o/\∀j,yS (vl a) j=yS (vl o) j+(if i1<=j/\j<i1+X q then x*yS q (j-i1)else 0):=by
 refine yc (λs=>∃(m:K) (o1:N Qr),s=((m:J),q.map cq,o1,cq x)/\m<=X q/\(∀x∈o1,VN x)/\X o1=X o/\∀j,yS (vl o1) j=yS (vl o) j+(if i1<=j/\j<i1+m then x*yS q (j-i1)else 0)) (λs=>X q-s.1.toNat) _ ?_ fu _ ⟨0,o,O,xan _,l,O,λj=>by rw[zB,xfk]⟩ (by show X q-(0:J).toNat<fu;lia);rintro _ L ⟨m,o1,rfl,A,e,i,f⟩ v;unfold kN;simp only;rw[xaj];by_cases hc:m=X q
 ·rw[zB,U O];simp only[xao,uS];exact⟨_,O,o1,O,e,i,λj=>by rw[f,hc]⟩
 ·rw[zX,U O];simp only[uP];have w:(i1:J)+m=((i1+m:K):J):=W
  have z:qv (o1.getD (i1+m) ((I,[]),[]))=yS (vl o) (i1+m):=by rw[<-ek,f,zB,xfk]
  rw[z8,S,bF,w,zb,zb,z8,S,U<|QM n.rs (p m).rs g,uy,uy,U<|oD (BO e _) (t m).rs g,uy,z,z8,S,zb];refine v _ ⟨m+1,_,O,W,Ld e<|u _ _,by rw[xbj,i],λj=> ?_⟩ (by show X q-((m:J)+1).toNat<X q-(m:J).toNat;lia);rw[tc,Kx<|by rw[kL];lia];unfold PJ;by_cases c:j=i1+m
  ·rw[iq c,zX,c,(W:i1+m-i1=m)]
  ·rw[ir c,f];congr 2;exact ii ⟨λh=>by lia,λh=>by lia⟩
def FU{D:wr}{x:kw}{n:J}{K:wr}(h0:0<D)(h1:D<2^K)(a:x*D=n)(c:n.natAbs<2^K)(e:K<=256000:=by lia):bT x:=Hx.hs ⟨D,h0,h1,n,a,c⟩ e
theorem zft{p q:N kw}(hp:Ht j p)(G:Ht k q)(hc:X p<=16)(hd:X q<=16)(hK:j+k+5<=255000)(H:3000000<=fu):
 ∃y,zg (kt fu r<|p.map cq) fu (0,q.map cq,xaa (X p+X q) ((I,[]),[]))=Z y/\(∀x∈y,VN x)/\X y=X p+X q/\Ht (j+k+5) (vl y)/\∀t,vd (vl y) t=vd p t*vd q t:=by
 have⟨D,d0,d1,w⟩:=hp;have⟨E,e0,e1,z⟩:=G;have w1:D*E<2^(j+k):=by rw[xbo];exact xcm d1 e1
 have w2:2^(j+k+5)=2^(j+k)*32:=xbo 2 (j+k) 5;have cx:∀i m,∃n:J,yS p i*yS q m*((D*E:wr):kw)=n/\n.natAbs<2^(j+k):=λi m=>by
  have⟨n,a,h⟩:=w i;have⟨u,b1,b2⟩:=z m;exact⟨n*u,by rw[xda,xbs,<-a,<-b1];grind,xv h b2⟩
 refine yc (λs=>∃(m:wr) (o:N Qr),s=((m:J),q.map cq,o)/\m<=X p/\(∀x∈o,VN x)/\X o=X p+X q/\(∀i,∃n:J,yS (vl o) i*((D*E:wr):kw)=n/\n.natAbs<=m*2^(j+k))/\∀t,vd (vl o) t=xB m (yS p) t*vd q t) (λs=>X p-s.1.toNat) _ ?_ fu _ ⟨0,_,O,xan _,zav _,xaM,λi=>⟨0,by rw[ek];simp[FS,xdj];split<;>simp[MR],i7⟩,λt=> ?_⟩ (by show X p-(0:J).toNat<fu;lia)
 ·rintro _ L ⟨m,o,rfl,hm,h1,A,v,B⟩ M;unfold kt;simp only;rw[xaj];by_cases P:m=X p
  ·rw[zB,U O];simp only[xao,uS];refine⟨_,O,h1,A,⟨D*E,xdy d0 e0,W,λi=> ?_⟩,λt=>by rw[B,P];rfl⟩;have⟨n,a,h⟩:=v i;have:m*2^(j+k)<=16*2^(j+k):=xak _ W;have:=xdL<|j+k;exact⟨n,a,W⟩
  ·rw[zX,U O];simp only[uP];have w3:m*2^(j+k)<=16*2^(j+k):=xak _ W;have w4:=xdL<|j+k;have e5:=xal (i0:0<2) (W:j<=j+k+5);have e6:=xal (i0:0<2) (W:k<=j+k+5);have Q:bT (yS p m):=by have⟨n,a,h⟩:=w m;exact FU (K:=j+k+5) d0 W a W
   have R:∀i,bT (yS q i):=λi=>by have⟨n,a,h⟩:=z i;exact FU (K:=j+k+5) e0 W a W
   have T:∀i,bT (yS p m*yS q i):=λi=>by have⟨n,a,h⟩:=cx m i;exact FU (K:=j+k+5) (xdy d0 e0) W a W
   have C:∀i l,∃n:J,(yS (vl o) i+yS p m*yS q l)*((D*E:wr):kw)=n/\n.natAbs<=(m+1)*2^(j+k):=λi l=>by
    have⟨n,a,h⟩:=cx m l;have⟨u,b1,b2⟩:=v i;refine⟨u+n,by rw[Rat.intCast_add,<-a,<-b1];grind,?_⟩;rw[xds];lia
   have V:∀i l,bT (yS (vl o) i+yS p m*yS q l):=λi l=>by
    have⟨n,a,h⟩:=C i l;rw[xds]at h;exact FU (K:=j+k+5) (xdy d0 e0) W a W
   rw[zo (by rw[xaj];lia),S,bF];obtain⟨_,g1,Y,rfl,g2,g3,F⟩:=zed (fu:=fu) (r:=r) (i2:=(X p:J)) (i1:=m) (x:=yS p m) (t7:=p.map cq) h1 W W Q R T V H;rw[U g1];simp only;rw[zb];refine M _ ⟨m+1,_,O,W,g2,g3.trans A,λi=> ?_,λt=> ?_⟩ (by show X p-((m:J)+1).toNat<X p-(m:J).toNat;lia)
   ·rw[F];split
    ·exact C _ _
    ·have⟨n,a,h⟩:=v i;exact⟨n,by rw[xfk];exact a,by rw[xds];lia⟩
   ·have c1:vd (vl Y) t=vd (vl o) t+xB (X p+X q) (λi=>if m<=i/\i<m+X q then yS p m*yS q (i-m)else 0) t:=by
     rw[kG (n:=X p+X q) (by rw[kL];lia),kG (n:=X p+X q) (by rw[kL];lia),<-bC];exact vV λi _=>by rw[F]
    have c2:=UO (β:=yS q) (g:=λi=>if m<=i/\i<m+X q then yS p m*yS q (i-m)else 0) (c:=yS p m) (e:=m) (λi hi=>by rw[zB]) (X q) (λi hi=>by rw[zX,(W:m+i-m=i)]) t;have c3:=UQ (f:=λi=>if m<=i/\i<m+X q then yS p m*yS q (i-m)else 0) (W:m+X q<=X p+X q) (λi hi=>by rw[zB]) t;rw[c1,c3,c2,B];show _=(xB m (yS p) t+yS p m*t^m)*vd q t;show _+yS p m*(t^m*vd q t)=_;grind
 ·have:∀i,yS (vl<|xaa (X p+X q) (((I,[]),[]):Qr)) i=0:=λi=>by rw[ek];simp[FS,xdj];split<;>simp[MR]
  show xB _ _ t=0*_;rw[xeA];exact XX λi _=>by rw[this,xeA]
def ur(l:N kw):cn (vd l):=cn.self _ _
def sO(F:Fld r d b β){a c:N Qr}(f:∀x∈a,VN x)(hc:∀x∈c,VN x)(g:X a<=32)(h:X c<=32)(i:Ht j (vl a))(l:Ht k (vl c))(C:j+k+101*(b+1)<=250000)(e:3000000<=fu):
 ∃q,xG fu r a c=Z (q.map cq)/\re d q/\ju (xB (d+1) β) (vd q) (λt=>vd (vl a) t*vd (vl c) t)/\Ht (j+k+101*(b+1)) q:=by
 have hd:=F.d2;have D:=F.b2;have E:X a*(b+1)<=32*(b+1):=xak _ g;have G:X c*(b+1)<=32*(b+1):=xak _ h;have⟨p,m,n,s,u⟩:=UU (fu:=fu) F f W i W e;have⟨q,q1,q2,v,w⟩:=UU (fu:=fu) F hc W l W e;have hp:=n.1;have H:=q2.1;have⟨o,o1,o2,L,y,A⟩:=zft (fu:=fu) (r:=r) u w W W W e;have M:X o*(b+1)<=32*(b+1):=xak _ W;have⟨z,B,z2,z3,z4⟩:=UU (fu:=fu) F o2 W y W e;refine⟨z,?_,z2,z3.trans<|(ju.of A).trans<|ju.mul (ur _) (ur _) s v,z4.mono W⟩;unfold xG;rw[U m,U q1,xaj,xaj,zb,(W:(X p:J)+X q=((X p+X q:K):J)),yF,yW,S,U o1,U B]
def zkd{a c o:N Qr}{n:J}(q:∀x∈o,VN x)(hc:∀x∈c,VN x)(hl:X c<=X o)(h1:X o<=1000)(hn:n=1\/n= -1)(t:∀j,bT<|yS (vl o) j+yS (vl c) j*n)(u:∀j,bT<|yS (vl c) j*n)(f:3000000<=fu):
 ∃y,zg (Yl fu r c n) fu (0,o)=Z y/\(∀x∈y,VN x)/\X y=X o/\∀j,yS (vl y) j=yS (vl o) j+yS (vl c) j*n:=by
 have hd:KH n:=by obtain rfl|rfl:=hn<;>decide
 have v:bT (n:kw):=by
  unfold bT Qh;rw[Rat.num_intCast,Rat.den_intCast];obtain rfl|rfl:=hn
  ·exact⟨Bz.one' i0,Bz.one' i0⟩
  ·exact⟨Bz.one i0,Bz.one' i0⟩
 refine yc (λs=>∃(m:K) (o1:N Qr),s=((m:J),o1)/\m<=X c/\(∀x∈o1,VN x)/\X o1=X o/\∀j,yS (vl o1) j=yS (vl o) j+(if j<m then yS (vl c) j*n else 0)) (λs=>X c-s.1.toNat) _ ?_ fu _ ⟨0,o,O,xan _,q,O,λj=>by rw[zB,xfk]⟩ (by show X c-(0:J).toNat<fu;lia);rintro _ L ⟨m,o1,rfl,A,g,p,i⟩ w;unfold Yl;simp only;by_cases B:m=X c
 ·rw[zB,U O];simp only[xao,uS];refine⟨_,O,g,p,λj=> ?_⟩;rw[i];by_cases e:j<m
  ·rw[iq e]
  ·rw[ir e,Yg (l:=vl c) (by rw[kL];lia),xeA]
 ·rw[zX,U O];simp only[uP];have z:qv (o1.getD m ((I,[]),[]))=yS (vl o) m:=by rw[<-ek,i,zB,xfk]
  rw[z8,S,z8,S,U<|Kp hd f,U<|QM (BO hc m) v.rs f,uy,U<|oD (BO g m) (by rw[<-ek];exact(u m).rs) f,uy,z,<-ek,z8,S,zb];refine w _ ⟨m+1,_,O,W,Ld g<|t m,by rw[xbj,p],λj=> ?_⟩ (by show X c-((m:J)+1).toNat<X c-(m:J).toNat;lia);rw[tc,Kx<|by rw[kL];lia];unfold PJ;by_cases e:j=m
  ·rw[iq e,zX,e]
  ·rw[ir e,i];congr 2;exact ii ⟨λh=>by lia,λh=>by lia⟩
theorem zlJ{a:N Qr}{n:K}(h:X a<=n):(∀j,yS (vl<|Pk (xaa n ((I,[]),[])) a) j=yS (vl a) j)/\X (Pk (xaa n (((I,[]),[]):Qr)) a)=n/\((∀x∈a,VN x)->∀x∈Pk (xaa n (((I,[]),[]):Qr)) a,VN x):=by
 have e:Pk (xaa n (((I,[]),[]):Qr)) a=a++xaa (n-X a) ((I,[]),[]):=by unfold Pk;rw[xaM,xcq h,xbY,List.drop_replicate]
 rw[e];refine⟨λj=> ?_,by simp;lia,λc x f=> ?_⟩
 ·rw[ek,ek,FS,FS,List.getElem?_append];split
  ·rfl
  ·rw[xdj,xbB (l:=a) W];split<;>rfl
 ·obtain h1|h1:=So.1 f
  ·exact c x h1
  ·rw[(xfr.1 h1).2];exact VN.nil
theorem BX(F:Fld r d b β){a c:N Qr}{n:J}(m:∀x∈a,VN x)(hc:∀x∈c,VN x)(B:X a<=32)(hi:X c<=32)(p:Ht j (vl a))(e:Ht k (vl c))(hn:n=1\/n= -1)(C:j+k+34*(b+1)<=250000)(f:3000000<=fu):
 ∃q,wG fu r a c n=Z (q.map cq)/\re d q/\ju (xB (d+1) β) (vd q) (λt=>vd (vl a) t+n*vd (vl c) t)/\Ht (j+k+34*(b+1)) q:=by
 have hd:=F.d2;have D:=F.b2;have⟨c1,c2,u⟩:=zlJ (a:=a) (n:=max (X a) (X c)) W;have g:dE (j+k+1+1) λi=>yS (vl a) i+n*yS (vl c) i:=dE.comb (s:=1) p e ⟨n,O,by obtain rfl|rfl:=hn<;>decide⟩;have v:∀i,Hx (k+1) (yS (vl c) i*n):=λi=>(dE.hx e i).mul ⟨1,i0,i0,n,by show(n:kw)*((1:K):kw)=n;grind,by obtain rfl|rfl:=hn<;>decide⟩;have⟨o,o1,o2,E,w⟩:=zkd (fu:=fu) (r:=r) (a:=a) (c:=c) (n:=n) (u m) hc W W hn (λi=>by rw[c1,Rat.mul_comm];exact(g.hx i).hs W) (λi=>(v i).hs W) f;have h:∀i,yS (vl o) i=yS (vl a) i+n*yS (vl c) i:=λi=>by rw[w,c1,Rat.mul_comm]
 have G:X o*(b+1)<=32*(b+1):=xak _ W;have y:Ht (j+k+1+1) (vl o):=by unfold Ht;rw[show yS (vl o)=λi=>yS (vl a) i+n*yS (vl c) i from jp h];exact g
 have⟨z,A,z2,z3,z4⟩:=UU (fu:=fu) F o2 W y W f;refine⟨z,?_,z2,z3.trans<|ju.of λt=> ?_,z4.mono W⟩
 ·unfold wG;rw[S,(W:max (X a:J) (X c)=((max (X a) (X c):K):J)),yF,yW,S,S,U o1,U A]
 ·rw[show o.map qv=vl o from O,kG (n:=max (X a) (X c)) (by rw[kL];lia),kG (l:=vl a) (n:=max (X a) (X c)) (by rw[kL];lia),kG (l:=vl c) (n:=max (X a) (X c)) (by rw[kL];lia),<-Xn,<-bC];exact vV λi _=>by rw[h]
end
end Go.Proofs.YtoegnnjcmlghhaaGreat
