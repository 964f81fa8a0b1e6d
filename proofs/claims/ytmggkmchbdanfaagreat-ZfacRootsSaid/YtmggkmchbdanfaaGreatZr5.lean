/- What a proof needs: rules of walking, mirrors of functions and their plain laws. No condition. -/
import Derived.Test.YtmggkmchbdanfaaGreatZr4
set_option linter.unusedVariables false
set_option linter.unusedSimpArgs false
namespace Go.Proofs.YtmggkmchbdanfaaGreat
open Bool renaming false_eq_true->xak,not_true->xdM
open Classical renaming byContradiction->xae,not_forall->xfI,not_imp->xft
open Int renaming add_comm->xfa,add_emod->xdO,add_zero->xbD,dvd_mul_left->xcQ,dvd_mul_right->xco,dvd_neg->xfQ,dvd_of_emod_eq_zero->xaJ,dvd_refl->xdP,dvd_sub->xdp,dvd_trans->xbG,dvd_zero->xcO,emod_emod->xaF,emod_emod_of_dvd->xcF,emod_eq_emod_iff_emod_sub_eq_zero->xaE,emod_eq_of_lt->xaC,emod_eq_zero_of_dvd->xaB,emod_lt_of_pos->xdy,emod_nonneg->xcV,eq_ofNat_of_zero_le->xaA,fdiv->xfT,fdiv_eq_ediv_of_nonneg->xeJ,le_refl->xeY,lt_trichotomy->xeI,mul_add->xeX,mul_assoc->xbK,mul_comm->xbm,mul_dvd_mul->xfP,mul_emod->xbr,mul_le_mul_of_nonneg_right->xbz,mul_neg->xeC,mul_nonneg->xcB,mul_one->xck,mul_zero->xau,natAbs_mul->xcg,natAbs_natCast->xbe,natCast_add->xdZ,natCast_nonneg->xde,one_mul->xca,pow_succ->xbl,sub_mul->xfR,sub_self->xdb,sub_zero->xcE,tdiv->xdd,tmod->xcc,toNat_natCast->xaK,zero_add->xcD,zero_emod->xag,zero_mul->xaS
open Lib renaming bitLen->xeZ
open List renaming append_assoc->xaj,cons_append->xbI,drop->xdA,drop_eq_getElem_cons->xcx,drop_eq_nil_of_le->xcl,eq_nil_of_length_eq_zero->xbt,ext_getElem->xeR,ext_getElem?->xcy,getD_cons_succ->xem,getD_eq_getElem?_getD->H1,getElem?_eq_getElem->xaa,getElem?_eq_none->xaH,getElem?_map->xaT,getElem?_range->xby,getElem?_replicate->xfe,getElem?_set->xeb,getElem?_take->xcp,getElem_mem->xbn,length_append->xax,length_cons->xaq,length_drop->xbO,length_eq_zero_iff->xbF,length_map->xaP,length_nil->xbS,length_range->xcA,length_replicate->xaZ,length_set->xcK,length_take->xav,map_congr_left->xci,mem_append->Nm,mem_cons->xac,mem_cons_of_mem->UV,mem_cons_self->FS,mem_iff_getElem->xdW,mem_map->xal,mem_of_mem_take->xdV,mem_range->xbf,nil_append->xbA,not_mem_nil->IR,range->xbc,range_succ->xdu,replicate->xaf,set_append_right->xfA,take->xdt,take_add_one->xfs,take_append_drop->xbN,take_length->xcP,take_of_length_le->xaQ,take_succ_cons->xei
open Nat renaming add_assoc->xcR,add_comm->xdD,add_mul->xaV,add_mul_div_left->xcC,add_mul_mod_self_left->xbV,add_sub_cancel->xeu,add_zero->xbT,div_add_mod->xbB,div_div_eq_div_mul->xaL,div_eq_of_lt->xbv,div_le_self->xea,div_lt_iff_lt_mul->xbd,div_lt_self->xeB,div_mul_le_self->xdo,div_one->xdU,eq_zero_of_not_pos->xes,eq_zero_or_pos->xcu,gcd->xen,gcd_comm->xeE,le_add_right->xbP,le_antisymm->xcU,le_div_iff_mul_le->xcw,le_max_left->xee,le_max_right->xdL,le_mul_of_pos_left->xdm,le_of_lt->xcS,le_of_not_lt->xbw,le_refl->xab,le_succ->xcd,le_trans->xam,lt_of_le_of_lt->xba,lt_of_lt_of_le->xan,lt_of_not_le->xdz,lt_or_ge->xce,lt_succ_self->xbY,min_eq_left->xcM,mod_add_div->xfg,mod_eq_of_lt->xar,mod_lt->xbi,mul_add->xbh,mul_assoc->xaX,mul_comm->xaU,mul_div_mul_right->xfB,mul_le_mul->xbH,mul_le_mul_left->xaD,mul_le_mul_right->xaw,mul_lt_mul''->xdK,mul_lt_mul_of_pos_right->xbW,mul_mod_mul_right->xeD,mul_one->xcG,mul_zero->xcN,not_lt_zero->xbp,one_mul->xcm,pos_of_ne_zero->xcI,pow_add->xbZ,pow_le_pow_right->xay,pow_lt_pow_right->xeM,pow_mul->xdf,pow_pos->xbk,pow_succ->xbb,pow_succ'->xel,pow_zero->xeg,strongRecOn->xds,sub_le->xfr,sub_self->xda,zero_add->xaN,zero_le->xah,zero_lt_succ->xfH,zero_mul->xcv
section
variable{a b:List Nat}{k fu x:Nat}
theorem zx{α β:Type}{f:(β->Option α)->β->Option α}(I:β->Prop)(m:β->Nat)(r:α)
 (step:∀s L,I s->(∀s',I s'->m s'<m s->L s'=some r)->f L s=some r):∀(n:Nat) (s:β),I s->m s<n->zg f n s=some r
 |0,s,_,h=>absurd h<|xbp _
 |n+1,s,hI,h=>step s _ hI fun s' ha hm=>zx I m r step n s' ha<|by omega
theorem zbq(h:zm a):a.take (yC<|nv a).length=yC (nv a):=by
 refine iW (h.take _) (zu _) (by rw[xav];have:=yS h;omega) ?_;rw[oD h,z7];exact xar<|(zJ _ _).1<|xab _
theorem du(hk:k+1<=a.length)(h0:a.getD k 0=0):nv (a.take k)=nv (a.take<|k+1):=by
 rw[qd,h0];simp
theorem gD(h:zm a)(hk:k+1<=a.length)(h0:a.getD k 0≠0):yC (nv<|a.take<|k+1)=a.take (k+1):=by grind [H2,zm.take,xav]
theorem yV(h:zm a)(hl:a.length<=17592186044416)(hf:a.length<fu):yL fu a=some (yC<|nv a):=by
 unfold yL;rw[za (v:=yC<|nv a)];refine zx (fun l=>zm l/\nv l=nv a/\l.length<=17592186044416) (fun l=>l.length) _ ?_ _ _ ⟨h,rfl,hl⟩ hf;rintro l L ⟨hL,hn,hk⟩ ih;unfold ZI;by_cases h0:0<(l.length:Int)
 ·obtain⟨k,ha⟩:∃k,l.length=k+1:=⟨l.length-1,by omega⟩;have e1:(l.length:Int)-1=(k:Int):=by omega
  rw[iq h0,e1,zb,yj,zf];by_cases h1:l.getD k 0=0
  ·rw[iq (by rw[h1]),zb,yE,yJ,zf];refine ih _ ⟨hL.take _,?_,by rw[xav];omega⟩ (by rw[xav];omega);rw[du (by omega) h1,<-ha,xcP,hn]
  ·rw[zy,<-hn];have:=gD hL (k:=k) (by omega) h1;rw[<-ha,xcP]at this;rw[this]
 ·rw[ir h0,<-hn];have:l=[]:=xbF.1 (by omega);rw[this];rfl
theorem xA(h:zm a)(hl:a.length<=17592186044416)(hf:a.length<fu):xv fu a=some (yC<|nv a):=by
 have:=yV h hl hf;unfold yL ZI at this;unfold xv bC;exact this
theorem YN(h:zm a)(hl:a.length<=17592186044416:=by omega)(hf:a.length<fu:=by omega):uU fu a=some (yC<|nv a):=by grind [uU,xD,yC,nv,za,xA,wC,yS]
theorem Kg(h:zm a)(hl:a.length<=17592186044416)(hf:a.length<fu):ZC fu a=some (yC<|nv a):=by
 unfold ZC;have h5:=yS h;rw[za (v:=((yC<|nv a).length:Int)),yE,wC h5,zf,zbq h,wC (by simp;omega),zf];rfl;refine zx (fun i:Int=>0<=i/\i<=a.length/\nv (a.take i.toNat)=nv a) (fun i=>i.toNat) _ ?_ _ _ ⟨by omega,by omega,by simp⟩ (by omega);rintro i L ⟨h0,h1,hn⟩ ih;obtain⟨k,rfl⟩:=xaA h0;unfold Uq;simp only[xaK]at*
 by_cases hk:0<(k:Int)
 ·obtain⟨j,rfl⟩:∃j,k=j+1:=⟨k-1,by omega⟩;have e1:((j+1:Nat):Int)-1=(j:Int):=by omega
  rw[iq hk,e1,zb,yj,zf];by_cases h2:a.getD j 0=0
  ·rw[iq (by rw[h2]),zb];refine ih _ ⟨by omega,by omega,?_⟩ (by omega);rw[xaK,du (by omega) h2,hn]
  ·rw[zy,<-hn,gD h (by omega) h2,xav];congr 1;omega
 ·rw[ir hk,<-hn];have:k=0:=by omega
  subst this;rfl
theorem Hv(x:Nat):x &&& 4294967295=x%4294967296:=Nat.and_two_pow_sub_one_eq_mod x 32
theorem BN:min (((32:Nat):Int)).toNat 64=32:=by decide
theorem Y4{y:Nat}(hx:x<18446744073709551616)(hy:y<18446744073709551616):vN fu x y=some (x*y/18446744073709551616,x*y%18446744073709551616):=by
 unfold vN;simp only[nm,Hv,BN];obtain⟨b1,b2,b3,b4⟩:=zff hx hy;have e:=zab x y;generalize hA:(x%4294967296)*(y%4294967296)=A at*
 generalize hB:(x/2^32)*(y%4294967296)=B at*
 generalize hC:(x%4294967296)*(y/2^32)=C at*
 generalize hD:(x/2^32)*(y/2^32)=D at*
 have hz:x*y<18446744073709551616*18446744073709551616:=xdK hx hy;generalize x*y=z at*
 congr 2;omega
theorem qK{n:Nat}{f:Int->Nat->Option (Nat×Nat)}{step:Nat->Nat->Nat×Nat}(hn:n<=17179869184)(hf:n<fu)(h:∀k,k<n->f (k:Int) (xZ step k).2=some (step k (xZ step k).2)):va fu n f=some (xZ step n):=by
 unfold va;rw[yE,yJ,zf,za (v:=((xZ step n).2,(xZ step n).1))];refine zx (fun s:Nat×Int×List Nat=>∃k:Nat,k<=n/\s=((xZ step k).2,(k:Int),(xZ step k).1++xaf (n-k) 0)) (fun s=>n-s.2.1.toNat) _ ?_ _ _ ⟨0,by omega,rfl⟩ (by simpa using hf);rintro s L ⟨k,hk,rfl⟩ ih;unfold Kq;simp only[xaZ];by_cases h1:(k:Int)<(n:Int)
 ·have hl:(xZ step k).1.length=k:=xI step k;rw[iq h1,za (h k<|by omega),zp (by simp[hl];omega),zf,zb];refine ih _ ⟨k+1,by omega,?_⟩ (by show n-((k:Int)+1).toNat<n-((k:Int)).toNat;omega);rw[zfs hl<|by omega];rfl
 ·rw[ir h1];obtain rfl:k=n:=by omega
  simp
theorem Xc(a:List Nat)(hl:a.length<=9223372036854775807):Xt fu a (k:Int)=some (a.getD k 0):=by grind [Xt,zp,zf,xaH]
theorem kE(ha:zm a)(hb:zm b)(hd:a.length<=8589934592:=by omega)(he:b.length<=8589934592:=by omega)(hf:max a.length b.length+1<fu:=by omega):
 kJ fu a b=some (yC<|nv a+nv b):=by
 unfold kJ;have e:max (a.length:Int) (b.length:Int)=((max a.length b.length:Nat):Int):=by omega
 have hc:∀k,(xZ (mF a b) k).2<=1:=by
  intro k
  induction k with
  |zero=>exact xah _
  |succ k ih=>exact Mv ha hb ih
 rw[zf,e,za<|qK (step:=mF a b) (by omega) (by omega) ?_]
 ·have hl:=xI (mF a b)<|max a.length b.length;show ck _ _=_;rw[wC (by simp[hl];omega),zf,za (yV ?_ (by simp[hl];omega)<|by simp[hl];omega),SM (by omega)<|by omega];exact(pk a b _).2.append<|zm.cons (by have:=hc<|max a.length b.length;omega) zm.nil
 ·intro k hk;unfold U2;rw[za (Xc a<|by omega),za (Xc b<|by omega),wC<|hc k];rfl
theorem WA(ha:zm a)(hb:zm b)(hd:a.length<=8589934592)(he:b.length<=8589934592)(hf:max a.length b.length+1<fu):
 W1 fu a b=some (if nv a<nv b then([],1)else(yC<|nv a-nv b,0)):=by
 unfold W1;have e:max (a.length:Int) (b.length:Int)=((max a.length b.length:Nat):Int):=by omega
 have hc:∀k,(xZ (Q3 a b) k).2<=1:=by
  intro k
  cases k with
  |zero=>exact xah _
  |succ k=>exact rN a b k _
 rw[zf,e,za<|qK (step:=Q3 a b) (by omega) (by omega) ?_]
 ·have hl:=xI (Q3 a b)<|max a.length b.length;have hs:=Cm ha hb (xee a.length b.length)<|xdL a.length b.length;simp only;by_cases h:nv a<nv b
  ·rw[iq (by have:=hs.2 h;omega),iq h]
  ·rw[ir (by intro h1;exact h<|hs.1<|by omega),ir h,za (yV (tv ha hb (xee a.length b.length)<|xdL a.length b.length).2.1 (by omega)<|by omega),RH ha hb (xee _ _) (xdL _ _) h]
 ·intro k hk;unfold ae;rw[za (Xc a<|by omega),za (Xc b<|by omega),wC<|hc k];rfl
theorem QD(ha:zm a)(hb:zm b)(hc:a.length<=8589934592)(hd:b.length<=8589934592)(hf:max a.length b.length+1<fu)(h:nv b<=nv a):
 YA fu a b=some (yC<|nv a-nv b):=by grind [YA,za,WA]
theorem MU{a:List Nat}{x:Nat}(ha:zm a)(hx:x<18446744073709551616):∀k,(xZ (JN a x) k).2<18446744073709551616
 |0=>xfH _
 |k+1=>LK ha hx<|MU ha hx k
theorem So{a c:Nat}(ha:a<18446744073709551616)(hx:x<18446744073709551616)(hc:c<18446744073709551616):
 ((a*x%18446744073709551616+c)%18446744073709551616,(a*x/18446744073709551616+(a*x%18446744073709551616+c)/18446744073709551616)%18446744073709551616)=((a*x+c)%18446744073709551616,(a*x+c)/18446744073709551616):=by
 have:=eD ha hx hc;generalize a*x=z at*
 congr 1<;>omega
theorem Jo(ha:zm a)(hx:x<18446744073709551616)(hb:a.length<=8589934592:=by omega)(hf:a.length<fu:=by omega):W3 fu a x=some (xY (a.length+1)<|nv a*x):=by
 unfold W3;rw[za<|qK (step:=JN a x) (by omega) hf ?_]
 ·have hl:=xI (JN a x) a.length;simp only;rw[wC (by simp[hl];omega),zf,GJ<|MU ha hx _]
 ·intro k hk;unfold UQ;rw[zp hk,zf,za<|Y4 (ha.getD k) hx];simp only[nm,xbT];exact congrArg some<|So (ha.getD k) hx<|MU ha hx k
theorem W9{n:Nat}(hn:n<=1099511627776:=by omega)(hl:a.length<=1099511627776:=by omega):uZ fu a (n:Int)=some (xaf n 0++a):=by grind [uZ,yE,wC,zf]
theorem Fq{n:Nat}{t3 t4 t6:List Nat}{i2:Int}(ha:zm a)(hb:zm b)(hk:k<b.length)(hn:n=a.length+b.length+1)(hj:n<=17179869184)(h6:t6=xY (a.length+1) (nv a*b.getD k 0))(hf:a.length+1<fu):
 zg (W7 fu (k:Int) t3 t4 i2 t6) fu (0,0,xY n<|nv a*nv (b.take k),t6)=some (xY n<|nv a*nv (b.take<|k+1)):=by
 have hl:t6.length=a.length+1:=by rw[h6,zQ]
 have hg:zm t6:=h6▸xG _ _;have hB:nv a*nv (b.take k)<18446744073709551616^n:=xan (Wq ha hb) (xay (by decide)<|by omega);have h0:nv (xY n<|nv a*nv (b.take k))=nv a*nv (b.take k):=by rw[ji,xar hB]
 refine zx (fun s:Nat×Int×List Nat×List Nat=>∃(c i:Nat) (o:List Nat),s=(c,(i:Int),o,t6)/\i<=t6.length/\c<=1/\zm o/\o.length=n/\nv o+18446744073709551616^(k+i)*c=nv a*nv (b.take k)+18446744073709551616^k*nv (t6.take i))
  (fun s=>a.length+1-s.2.1.toNat) _ ?_ _ _ ⟨0,0,_,rfl,by omega,by omega,xG _ _,zQ _ _,by rw[h0];simp[nv]⟩ (by simpa using hf)
 rintro s L ⟨c,i,o,rfl,hi,hc,hd,he,ho⟩ ih;unfold W7;simp only;by_cases h1:i<t6.length
 ·rw[zN,za rfl];simp only[if_true];have e:(k:Int)+(i:Int)=((k+i:Nat):Int):=by omega
  rw[zp h1,zf,e,zb,zb,yj,zf,wC hc,zf,zf,yj,zf,zb];refine ih _ ⟨_,i+1,_,rfl,by omega,?_,hd.set _ (xbi _<|by decide),by rw[xcK,he],?_⟩ (by show a.length+1-((i:Int)+1).toNat<a.length+1-(i:Int).toNat;omega)
  ·have:=hd.getD<|k+i;have:=hg.getD i;omega
  ·have:=zdf (o:=o) (o0:=xY n<|nv a*nv (b.take k)) (r:=t6) (j:=k) (i:=i) (c:=c) (by omega) (by rw[h0];exact ho);rw[h0]at this;exact this
 ·rw[zy,za rfl];simp only[xak,if_false];subst h6;refine congrArg some<|iW hd (xG _ _) (by rw[he,zQ]) ?_;rw[Fy ha hb (k:=k) (i:=i) (c:=c) (p:=o) (o:=xY n<|nv a*nv (b.take k)) (by omega) (by omega) h0 (by rw[h0];exact ho),ji,xar];exact xan (Wq ha hb)<|xay (by decide)<|by omega
theorem nM(ha:zm a)(hb:zm b)(hc:a.length<=4294967296)(hd:b.length<=4294967296)(hf:a.length+b.length+1<fu):
 WH fu a b=some (yC<|nv a*nv b):=by
 unfold WH;have e1:(a.length:Int)+(b.length:Int)=((a.length+b.length:Nat):Int):=by omega
 have e2:((a.length+b.length:Nat):Int)+1=((a.length+b.length+1:Nat):Int):=by omega
 have hB:nv a*nv b<18446744073709551616^(a.length+b.length+1):=by
  have:=Wq (k:=b.length) ha hb;rw[xcP]at this;exact xan this<|xay (by decide)<|by omega
 rw[e1,zb,e2,zb,yE,yJ,zf,za (v:=xY (a.length+b.length+1)<|nv a*nv b)]
 ·rw[za (yV (xG _ _) (by rw[zQ];omega)<|by rw[zQ];omega),ji,xar hB]
 ·refine zx (fun s:Int×List Nat=>∃k:Nat,k<=b.length/\s=((k:Int),xY (a.length+b.length+1)<|nv a*nv (b.take k))) (fun s=>b.length-s.1.toNat) _ ?_ _ _ ⟨0,by omega,by simp[nv,B6]⟩ (by simp;omega);rintro s L ⟨k,hk,rfl⟩ ih;unfold K5;simp only;by_cases h1:k<b.length
  ·rw[zN,za rfl];simp only[if_true];rw[zp h1,zf,za (Jo ha (hb.getD k) (by omega)<|by omega),za (Fq ha hb h1 rfl (by omega) rfl<|by omega),zb];exact ih _ ⟨k+1,by omega,rfl⟩ (by show b.length-((k:Int)+1).toNat<b.length-(k:Int).toNat;omega)
  ·rw[zy,za rfl];simp only[xak,if_false];obtain rfl:k=b.length:=by omega
   rw[xcP]
end
theorem Nq(n:Nat):xdd (n:Int) 2=((n/2:Nat):Int):=rfl
theorem UR(x h:Nat):(yC<|nv<|(yC x).take h).length<=h:=by grind [yS,zm.take,zu,xav]
theorem K9(x h:Nat):(yC<|nv<|(yC x).drop h).length<=(yC x).length-h:=by grind [yS,zm.drop,zu,xbO]
theorem WI:∀{fu:Nat}{a b:List Nat},zm a->zm b->a.length<=1073741824->b.length<=1073741824->4*(a.length+b.length)+64<=fu->W4 fu a b=some (yC<|nv a*nv b)
 |0,a,b,_,_,_,_,hf=>by lia
 |fu+1,a,b,ha,hb,hk,hl,hf=>by
  have h1:=yS ha;have h2:=yS hb;show bd _ _=_;rw[za (xA ha (by lia)<|by lia),za<|xA hb (by lia)<|by lia];have eA:nv (yC<|nv a)=nv a:=z7 _;have eB:nv (yC<|nv b)=nv b:=z7 _;generalize hx:nv a=x at*
  generalize hy:nv b=y at*
  generalize hp:(yC x).length=p at*
  generalize hq:(yC y).length=q at*
  have e1:min (p:Int) (q:Int)=((min p q:Nat):Int):=by lia
  rw[zf,e1];by_cases h8:((min p q:Nat):Int)<8
  ·rw[iq h8,za (nM (zu x) (zu y) (by lia) (by lia)<|by lia),eA,eB]
  ·rw[ir h8];have e2:max (p:Int) (q:Int)=((max p q:Nat):Int):=by lia
   rw[zf,e2,Nq,zb];obtain⟨h,hh⟩:∃h,h=max p q/2:=⟨_,rfl⟩;have e3:∀l:Nat,min (h:Int) (l:Int)=((min h l:Nat):Int):=by intro l;lia
   rw[<-hh];simp only[nm,e3,yE];rw[wC (by decide),yJ];have tx:(yC x).take (min h p)=(yC x).take h:=by rw[<-hp];exact Hg h
   have dx:(yC x).drop (min h p)=(yC x).drop h:=by rw[<-hp];exact IW h
   have ty:(yC y).take (min h q)=(yC y).take h:=by rw[<-hq];exact Hg h
   have dy:(yC y).drop (min h q)=(yC y).drop h:=by rw[<-hq];exact IW h
   rw[tx,ty,dx,dy];have lx0:=UR x h;have ly0:=UR y h;have lx1:((yC x).drop h).length=p-h:=by rw[xbO,hp]
   have ly1:((yC y).drop h).length=q-h:=by rw[xbO,hq]
   have lx2:=K9 x h;have ly2:=K9 y h;rw[za (xA ((zu x).take h) (by rw[xav];lia)<|by rw[xav];lia),yJ,yJ,za (xA ((zu y).take h) (by rw[xav];lia)<|by rw[xav];lia),yJ];have X1:=(zu x).drop h;obtain⟨m,hm⟩:∃m,m=max p q:=⟨_,rfl⟩;have f1:p<=m:=by lia
   have f2:q<=m:=by lia
   have f3:m+8<=p+q:=by lia
   have f4:2*h<=m:=by lia
   have f5:m<=2*h+1:=by lia
   clear hh hm h8 e1 e2 e3 tx ty dx dy;have g1:p-h<=m-h:=by lia
   have g2:q-h<=m-h:=by lia
   have g3:h<=m-h:=by lia
   replace lx2:=xam lx2<|hp.symm▸g1;replace ly2:=xam ly2<|hq.symm▸g2;have lx3:((yC x).drop h).length<=m-h:=lx1▸g1;have ly3:((yC y).drop h).length<=m-h:=ly1▸g2;clear lx1 ly1 g1 g2;have Y1:=(zu y).drop h;generalize he:nv ((yC x).take h)=x0 at*
   generalize hg:nv ((yC y).take h)=y0 at*
   generalize hi:(yC x).drop h=dX at*
   generalize hj:(yC y).drop h=dY at*
   generalize hc:nv dX=x1 at*
   generalize hd:nv dY=y1 at*
   have s1:=u9 (x:=x0) (y:=x1) (k:=m-h) (by lia) (by lia);have s2:=u9 (x:=y0) (y:=y1) (k:=m-h) (by lia) (by lia);have kle:=zd9 x0 x1 y0 y1;rw[za<|WI (fu:=fu) (zu x0) (zu y0) (by lia) (by lia)<|by lia];rw[za<|WI (fu:=fu) X1 Y1 (by lia) (by lia)<|by lia];rw[za<|kE (zu x0) X1,za<|kE (zu y0) Y1];rw[hc,hd,z7,z7];rw[za (WI (fu:=fu) (zu<|x0+x1) (zu<|y0+y1) (by lia) (by lia)<|by lia),z7,z7];have l3:=Xf s1 s2;have l1:=Xf lx0 ly0;have l2:=Xf (x:=x1) (y:=y1) (j:=m-h) (k:=m-h) (by lia) (by lia);have l4:=Vi<|xfr ((x0+x1)*(y0+y1))<|x0*y0;have l5:=Vi<|xfr ((x0+x1)*(y0+y1)-x0*y0)<|x1*y1;rw[za (QD (zu<|(x0+x1)*(y0+y1)) (zu<|x0*y0) (by lia) (by lia) (by lia)<|by rw[z7,z7];exact kle.1),z7,z7];rw[za (QD (zu<|(x0+x1)*(y0+y1)-x0*y0) (zu<|x1*y1) (by lia) (by lia) (by lia)<|by rw[z7,z7];exact kle.2),z7,z7];have mL:∀n z:Nat,zm (xaf n 0++yC z):=fun n z=>(zm.replicate n).append<|zu z;have ml:∀n z:Nat,(xaf n 0++yC z).length=n+(yC z).length:=fun n z=>by rw[xax,xaZ]
   rw[za<|W9,za (kE (zu _) (mL _ _) (by lia) (by rw[ml];lia)<|by rw[ml];lia),z7,rJ,z7];have e4:2*(h:Int)=((2*h:Nat):Int):=by lia
   rw[e4,zb,za<|W9];have l6:=IL h<|xam l5<|xam l4 l3;have l7:=u9 (x:=x0*y0) (y:=18446744073709551616^h*((x0+x1)*(y0+y1)-x0*y0-x1*y1)) (k:=3*(p+q)) (by clear l6;lia) (xam l6<|by clear l6;lia);have K:=zdb x y h he.symm (by rw[hi,hc]) hg.symm (by rw[hj,hd]);generalize 18446744073709551616^h*((x0+x1)*(y0+y1)-x0*y0-x1*y1)=z1 at*
   generalize hz:x0*y0+z1=z at*
   clear l6;rw[za (kE (zu z) (mL (2*h)<|x1*y1) (by clear K;lia) (by rw[ml];clear K;lia)<|by rw[ml];clear K;lia),z7,rJ,z7,K]
section
variable{k fu:Nat}{a:List Nat}
def blf:Nat->Nat->Nat
 |0,_=>0
 |f+1,n=>if n=0 then 0 else blf f (n/2)+1
def bl(n:Nat):Nat:=blf n n
theorem zbn:∀f f' n,n<=f->n<=f'->blf f n=blf f' n
 |0,f',n,h,h'=>by
  obtain rfl:n=0:=by lia
  cases f'<;>rfl
 |f+1,0,n,h,h'=>by
  obtain rfl:n=0:=by lia
  rfl
 |f+1,f'+1,n,h,h'=>by
  unfold blf;split
  ·rfl
  ·rw[zbn f f' (n/2) (by lia)<|by lia]
theorem ze3:bl 0=0:=rfl
theorem JR{n:Nat}(h:0<n:=by lia):bl n=bl (n/2)+1:=by
 obtain⟨m,rfl⟩:∃m,n=m+1:=⟨n-1,by lia⟩;show(if m+1=0 then 0 else blf m ((m+1)/2)+1)=_;rw[zy,zbn m ((m+1)/2) ((m+1)/2) (by lia)<|xab _];rfl
theorem Uv:∀(k:Nat) {n:Nat},2^k<=n->bl n=bl (n/2^k)+k
 |0,n,h=>by simp
 |k+1,n,h=>by
  have h2:0<2^k:=Nat.two_pow_pos k;rw[xbb]at h;rw[JR,Uv k (n:=n/2) (by lia),xaL,xbb,xaU 2];lia
theorem Qe{n:Nat}(h:n<2^k):bl n<=k:=by
 induction k generalizing n with
 |zero=>
  obtain rfl:n=0:=by lia
  exact xab _
 |succ k ih=>
  rcases xcu n with rfl|h0
  ·exact xah _
  ·rw[JR h0];have:=ih (n:=n/2) (by rw[xbb]at h;lia);lia
theorem sa(n:Nat):n<2^bl n:=by
 induction n using xds with
 |ind n ih=>
  rcases xcu n with rfl|h0
  ·decide
  ·rw[JR h0,xbb];have:=ih (n/2) (by lia);lia
theorem Bx:∀{n:Nat},n<256->xeZ n=bl n:=by decide+kernel
theorem vY{x:Nat}(hx:x<18446744073709551616):xw fu x=some ((bl x:Nat):Int):=by
 unfold xw;have e16:min (16:Int).toNat 64=16:=by decide
 have e8:min (8:Int).toNat 64=8:=by decide
 have e32:min (32:Int).toNat 64=32:=by decide
 simp only[nm,e32,e16,e8];have last:∀(d:Nat) (i:Int),d<65536->0<=i->i<=48->(if(256:Int)<=(d:Int)then ze (i+8) fun x2=>ze (x2+((xeZ (d/2^8%256):Nat):Int)) fun x3=>some x3 else ze (i+((xeZ (d%256):Nat):Int)) fun x4=>some x4)=some (i+((bl d:Nat):Int)):=by
  intro d i hd h0 h1;by_cases h:256<=d
  ·have b:=Qe (n:=d/2^8) (k:=8) (by lia);rw[zN,zb,xar (by lia),Bx (by lia),zb,Uv 8 (n:=d)<|by lia];congr 1;lia
  ·have b:=Qe (n:=d) (k:=8) (by lia);rw[zy,xar (by lia),Bx (by lia),zb]
 have mid:∀(d:Nat) (i:Int),d<4294967296->0<=i->i<=32->(bd (if(65536:Int)<=(d:Int)then ze (i+16) fun x1=>some (d/2^16,x1)else some (d,i)) fun(d2,i2)=>if(256:Int)<=(d2:Int)then ze (i2+8) fun x2=>ze (x2+((xeZ (d2/2^8%256):Nat):Int)) fun x3=>some x3 else ze (i2+((xeZ (d2%256):Nat):Int)) fun x4=>some x4)=some (i+((bl d:Nat):Int)):=by
  intro d i hd h0 h1;by_cases h:65536<=d
  ·rw[zN,zb,za rfl];simp only;rw[last _ _ (by lia) (by lia) (by lia),Uv 16 (n:=d)<|by lia];congr 1;lia
  ·rw[zy,za rfl];exact last _ _ (by lia) (by lia)<|by lia
 by_cases h:4294967296<=x
 ·rw[zN,za rfl];simp only;rw[mid _ _ (by lia) (by lia) (by lia),Uv 32 (n:=x)<|by lia];congr 1;lia
 ·rw[zy,za rfl];simp only;rw[mid _ _ (by lia) (by lia)<|by lia];congr 1;lia
theorem Gh{n:Nat}(h:0<n):bl n=64*((yC n).length-1)+bl ((yC n).getD ((yC n).length-1) 0):=by
 obtain⟨k,hk⟩:∃k,(yC n).length=k+1:=⟨(yC n).length-1,by have:=qf h;lia⟩;have h1:=(zJ (k+1) n).1 (by lia);have h2:¬n<18446744073709551616^k:=fun h=>by have:=(zJ k n).2 h;lia
 rw[hk,Y0,show k+1-1=k by lia];have e:18446744073709551616^k=2^(64*k):=by rw[xdf]
 have h3:n/18446744073709551616^k<18446744073709551616:=by rw[xbd<|xbk<|by decide];rw[xbb,xaU]at h1;exact h1
 rw[xar h3,e,Uv (64*k)<|by rw[<-e];lia];lia
theorem zco(h:zm a)(hk:a.length<=k):bl (nv a)<=64*k:=by
 refine Qe ?_;rw[xdf];exact xan (qT h)<|xay (by decide) hk
theorem YL(h:zm a)(hl:a.length<=1099511627776)(hf:a.length<fu):jZ fu a=some ((bl (nv a):Nat):Int):=by
 unfold jZ;rw[za<|xA h (xam hl<|by decide) hf];have hL:=yS h;have hb:=zco h hl;rcases xcu (nv a)with h0|h0
 ·rw[h0,QZ];rfl
 ·have h1:=qf h0;have hy:=(zu<|nv a).getD<|(yC<|nv a).length-1;have e:=Gh h0;obtain⟨k,hk⟩:∃k,(yC<|nv a).length=k+1:=⟨(yC<|nv a).length-1,by lia⟩;rw[hk]at e hy;simp only[xeu]at e hy;have e1:((k+1:Nat):Int)-1=(k:Int):=by lia
  rw[hk,zy,e1,zb,zb,zb,yj,zf,za<|vY hy,zb,e];congr 1
end
section
variable{x k fu:Nat}{r a b l d:List Nat}
def nw:List Nat->Nat
 |[]=>0
 |x::r=>x+4294967296*nw r
def QV:Nat->Nat->List Nat
 |0,_=>[]
 |k+1,n=>n%4294967296::QV k (n/4294967296)
def da:Nat->Nat->List Nat
 |0,_=>[]
 |f+1,n=>if n=0 then[]else n%4294967296::da f (n/4294967296)
def mQ(n:Nat):List Nat:=da n n
def B7:List Nat->List Nat
 |[]=>[]
 |x::r=>match B7 r with
  |[]=>if x=0 then[]else[x]
  |y::s=>x::y::s
def x9(l:List Nat):Prop:=∀x∈l,x<4294967296
theorem x9.nil:x9 []:=fun x hx=>absurd hx IR
theorem x9.cons(h:x<4294967296)(hr:x9 r):x9 (x::r):=fun y hy=>by
 rcases xac.1 hy with rfl|hy
 ·exact h
 ·exact hr y hy
theorem x9.head(h:x9 (x::r)):x<4294967296:=h x<|FS
theorem x9.tail(h:x9 (x::r)):x9 r:=fun y hy=>h y<|UV _ hy
theorem x9.append(ha:x9 a)(hb:x9 b):x9 (a++b):=fun x hx=>by
 rcases Nm.1 hx with h|h
 ·exact ha x h
 ·exact hb x h
theorem x9.take{a:List Nat}(h:x9 a)(k:Nat):x9 (a.take k):=fun x hx=>h x<|xdV hx
theorem x9.getD{a:List Nat}(h:x9 a)(k:Nat):a.getD k 0<4294967296:=by
 rw[H1];by_cases hk:k<a.length
 ·rw[xaa hk];exact h _<|xbn hk
 ·rw[xaH<|by omega];exact xfH _
theorem Lq:nw []=0:=rfl
theorem ux(x:Nat)(r:List Nat):nw (x::r)=x+4294967296*nw r:=rfl
theorem gX:∀(a b:List Nat),nw (a++b)=nw a+4294967296^a.length*nw b
 |[],b=>by simp[nw]
 |x::a,b=>by
  rw[xbI,ux,gX a b,ux,xaq,xbb,xbh];rw[xaU (4294967296^a.length) 4294967296,xaX,xcR]
theorem Kj:∀{l:List Nat},x9 l->nw l<4294967296^l.length
 |[],_=>by simp[nw]
 |x::r,h=>by
  have h1:=h.head;have h2:=Kj h.tail;rw[ux,xaq,xbb];omega
theorem Pv(l:List Nat)(x:Nat):nw (l++[x])=nw l+4294967296^l.length*x:=by
 rw[gX,ux,Lq];simp
theorem Zg:∀k n,(QV k n).length=k
 |0,_=>rfl
 |k+1,n=>by rw[QV,xaq,Zg]
theorem aG:∀k n,x9 (QV k n)
 |0,_=>x9.nil
 |k+1,n=>x9.cons (xbi _<|by decide)<|aG k _
theorem ov:∀k n,nw (QV k n)=n%4294967296^k
 |0,n=>by simp[QV,nw,Nat.mod_one]
 |k+1,n=>by rw[QV,ux,ov k,xbb,xaU<|4294967296^k,Nat.mod_mul]
theorem dH:∀{l:List Nat},x9 l->QV l.length (nw l)=l
 |[],_=>rfl
 |x::r,h=>by
  have h1:=h.head;rw[xaq,QV,ux,xbV,xar h1,xcC _ _ (by decide),xbv h1,xaN,dH h.tail]
theorem zbL(ha:x9 a)(hb:x9 b)(hl:a.length=b.length)(h:nw a=nw b):a=b:=by
 rw[<-dH ha,<-dH hb,hl,h]
theorem iB:∀k n,QV (k+1) n=QV k n++[n/4294967296^k%4294967296]
 |0,n=>by simp[QV]
 |k+1,n=>by rw[QV,iB k,QV,xbI,xaL,<-xel]
theorem BK:∀f n,x9 (da f n)
 |0,_=>x9.nil
 |f+1,n=>by
  rw[da];split
  ·exact x9.nil
  ·exact x9.cons (xbi _<|by decide)<|BK f _
theorem Q2(n:Nat):x9 (mQ n):=BK n n
theorem OU:∀f n,n<=f->nw (da f n)=n
 |0,n,h=>by rw[da,Lq];omega
 |f+1,n,h=>by
  rw[da];split
  ·rename_i h0;rw[Lq,h0]
  ·rename_i h0;have ha:n/4294967296<=f:=by
    have:=xeB (n:=n) (k:=4294967296) (by omega) (by decide);omega
   rw[ux,OU f _ ha,xfg]
theorem Vx(n:Nat):nw (mQ n)=n:=OU n n<|xab _
theorem NX:∀f f' n,n<=f->n<=f'->da f n=da f' n
 |0,f',n,h,h'=>by
  have:n=0:=by omega
  subst this;cases f'<;>simp[da]
 |f+1,0,n,h,h'=>by
  have:n=0:=by omega
  subst this;simp[da]
 |f+1,f'+1,n,h,h'=>by
  rw[da,da];split
  ·rfl
  ·rename_i h0;have:=xeB (n:=n) (k:=4294967296) (by omega) (by decide);rw[NX f f' _ (by omega)<|by omega]
theorem gn:mQ 0=[]:=rfl
theorem nY{n:Nat}(h:0<n):mQ n=n%4294967296::mQ (n/4294967296):=by
 have e:mQ n=da ((n-1)+1) n:=by unfold mQ;congr 1;omega
 have:=xeB (n:=n) (k:=4294967296) h (by decide);rw[e,da,zy];congr 1;exact NX _ _ _ (by omega)<|by omega
theorem Rn{n:Nat}(h0:0<n)(h:n<4294967296):mQ n=[n]:=by grind [nY,gn,xar,xbv]
theorem zey{n:Nat}:mQ n=[]↔n=0:=by
 constructor
 ·intro h;rw[<-Vx n,h];rfl
 ·rintro rfl;rfl
theorem Yv:∀(k n:Nat),(mQ n).length<=k↔n<4294967296^k
 |0,n=>by rw[Nat.le_zero,xbF,zey];simp;
 |k+1,n=>by
  by_cases h:n=0
  ·subst h;simp[gn];exact xbk<|by decide
  ·rw[nY (by omega),xaq,Nat.add_le_add_iff_right,Yv k,xbd (by decide),xbb]
theorem bJ:∀(l:List Nat) (k:Nat),k+1=l.length->l.getD k 0≠0->B7 l=l
 |[],_,h,_=>by simp at h
 |[x],0,_,h=>by simp at h;simp[B7,h]
 |[x],k+1,h,_=>by simp at h
 |x::y::r,0,h,_=>by simp at h
 |x::y::r,k+1,h,h0=>by
  have:=bJ (y::r) k (by simpa using h) (by simpa using h0);simp only[B7]at this⊢;rw[this]
theorem Ld:∀{l:List Nat},x9 l->B7 l=mQ (nw l)
 |[],_=>rfl
 |x::r,h=>by
  have ih:=Ld h.tail;have hx:=h.head;rw[B7,ih,ux];by_cases hr:nw r=0
  ·rw[hr,gn];by_cases h0:x=0
   ·simp[h0,gn]
   ·simp only[h0,if_false,xcN,xbT];rw[Rn (by omega) hx]
  ·have e1:=nY (n:=nw r) (by omega);have e2:=nY (n:=x+4294967296*nw r) (by omega);rw[xbV,xar hx,xcC _ _ (by decide),xbv hx,xaN]at e2;rw[e2,e1]
theorem Hy(hl:x9 l)(h:l=[]\/l.getD (l.length-1) 0≠0):mQ (nw l)=l:=by
 rw[<-Ld hl];rcases h with rfl|h
 ·rfl
 ·cases hn:l.length with
  |zero=>rw[xbt hn];rfl
  |succ k=>exact bJ l k hn.symm<|by rw[hn]at h;exact h
theorem Ov(hl:x9 l)(k:Nat):nw (l.take k)=nw l%4294967296^k:=by
 by_cases hk:k<=l.length
 ·have e:=gX (l.take k)<|l.drop k;rw[xbN,xav,xcM hk]at e;have:=Kj<|hl.take k;rw[xav,xcM hk]at this;rw[e,xbV,xar this]
 ·rw[xaQ (by omega),xar];exact xan (Kj hl)<|xay (by decide)<|by omega
theorem eW:∀{l:List Nat},x9 l->∀k,l.getD k 0=nw l/4294967296^k%4294967296
 |[],_,k=>by simp[nw]
 |x::r,h,0=>by rw[List.getD_cons_zero,ux,xeg,xdU,xbV,xar h.head]
 |x::r,h,k+1=>by rw[xem,eW h.tail k,ux,xel,<-xaL,xcC _ _ (by decide),xbv h.head,xaN]
theorem TB(h:x9 a):a.take (mQ<|nw a).length=mQ (nw a):=by
 have ha:(mQ<|nw a).length<=a.length:=(Yv _ _).2<|Kj h;refine zbL (h.take _) (Q2 _) (by rw[xav];omega) ?_;rw[Ov h,Vx];exact xar<|(Yv _ _).1<|xab _
theorem pF(k:Nat):(4294967296:Nat)^(2*k)=18446744073709551616^k:=by grind [xdf]
theorem SW(k:Nat):(4294967296:Nat)^(2*k+1)=18446744073709551616^k*4294967296:=by
 rw[xbb,pF]
theorem Wh(l:List Nat):∀k,nw (l.take<|k+1)=nw (l.take k)+4294967296^k*l.getD k 0:=by
 induction l with
 |nil=>intro k;simp[nw]
 |cons x r ih=>
  intro k
  cases k with
  |zero=>simp[nw]
  |succ k=>
   rw[xei,ux,ih k,xei,ux,xem,xbb,xbh];rw[xaU (4294967296^k) 4294967296,xaX,xcR]
theorem CP(hk:k+1<=a.length)(h0:a.getD k 0=0):nw (a.take k)=nw (a.take<|k+1):=by
 rw[Wh,h0];simp
theorem DF(h:x9 a)(hk:k+1<=a.length)(h0:a.getD k 0≠0):mQ (nw<|a.take<|k+1)=a.take (k+1):=by grind [Hy,x9.take,xav]
theorem Sc(h:x9 l):(mQ<|nw l).length<=l.length:=(Yv _ _).2<|Kj h
theorem UG(h:x9 a)(hl:a.length<=1099511627776)(hf:a.length<fu):Xh fu a=some (mQ<|nw a):=by
 unfold Xh;have h5:=Sc h;rw[za (v:=((mQ<|nw a).length:Int)),yE,wC h5,zf,TB h];refine zx (fun i:Int=>0<=i/\i<=a.length/\nw (a.take i.toNat)=nw a) (fun i=>i.toNat) _ ?_ _ _ ⟨by omega,by omega,by simp⟩ (by omega);rintro i L ⟨h0,h1,hn⟩ ih;obtain⟨k,rfl⟩:=xaA h0;unfold br;simp only[xaK]at*
 by_cases hk:0<(k:Int)
 ·obtain⟨j,rfl⟩:∃j,k=j+1:=⟨k-1,by omega⟩;have e1:((j+1:Nat):Int)-1=(j:Int):=by omega
  rw[iq hk,e1,zb,yj,zf];by_cases h2:a.getD j 0=0
  ·rw[iq (by rw[h2]),zb];refine ih _ ⟨by omega,by omega,?_⟩ (by omega);rw[xaK,CP (by omega) h2,hn]
  ·rw[zy,<-hn,DF h (by omega) h2,xav];congr 1;omega
 ·rw[ir hk,<-hn];have:k=0:=by omega
  subst this;rfl
theorem zaI(h:zm a)(hk:k<a.length):QV (2*k) (nv a)++[a.getD k 0 &&& 4294967295,a.getD k 0/2^32]=QV (2*(k+1)) (nv a):=by
 rw[show 2*(k+1)=(2*k+1)+1 by omega,iB,iB,xaj,VK h,Hv];congr 1;rw[SW,pF,<-xaL];generalize nv a/18446744073709551616^k=z;congr 1
 ·omega
 ·congr 1;omega
theorem Hh(h:zm a)(hl:a.length<=4294967296)(hf:2*a.length<fu):zg (Yp fu a) fu ([],0)=some (QV (2*a.length)<|nv a):=by
 refine zx (fun s:List Nat×Int=>∃k:Nat,k<=a.length/\s=(QV (2*k)<|nv a,(k:Int))) (fun s=>a.length-s.2.toNat) _ ?_ _ _ ⟨0,by omega,rfl⟩ (by show a.length-0<fu;omega);rintro s L ⟨k,hk,rfl⟩ ih;unfold Yp;simp only;by_cases h1:k<a.length
 ·rw[zN,zp h1,zf,zf,zp h1,zf,zf,BN,wC (by simp only[Zg,xaq,xbS];omega),zf,zb,zaI h h1];exact ih _ ⟨k+1,by omega,rfl⟩ (by show a.length-((k:Int)+1).toNat<a.length-(k:Int).toNat;omega)
 ·rw[zy];obtain rfl:k=a.length:=by omega
  rfl
theorem jI(h:zm a)(hl:a.length<=4294967296)(hf:2*a.length<fu):vk fu a=some (mQ<|nv a):=by grind [vk,nv,pF,qT,za,Hh,UG,aG,Zg,ov,xar]
theorem R5(h:x9 d)(k:Nat):d.getD (2*k) 0+d.getD (2*k+1) 0*2^32=nw d/18446744073709551616^k%18446744073709551616:=by
 rw[eW h,eW h,SW,<-xaL,pF];generalize nw d/18446744073709551616^k=z;omega
theorem Mw{n:Nat}(h:x9 d)(hl:d.length<=4294967296)(hn:n=(d.length+1)/2)(hf:d.length+1<fu):zg (XM fu d) fu ([],0)=some (xY n<|nw d):=by
 refine zx (fun s:List Nat×Int=>∃k:Nat,k<=n/\s=(xY k<|nw d,2*(k:Int))) (fun s=>2*n-s.2.toNat) _ ?_ _ _ ⟨0,by omega,rfl⟩ (by show 2*n-0<fu;omega);rintro s L ⟨k,hk,rfl⟩ ih;unfold XM;simp only;have e2:2*(k:Int)=((2*k:Nat):Int):=by omega
 have hp:=R5 h k;by_cases h1:2*k<d.length
 ·have d0:=h.getD<|2*k;have d1:=h.getD<|2*k+1;rw[e2,zN,zp h1,zf,zb];have e3:((2*k:Nat):Int)+1=((2*k+1:Nat):Int):=by omega
  have e4:((2*k:Nat):Int)+2=2*((k+1:Nat):Int):=by omega
  by_cases h3:2*k+1<d.length
  ·rw[zN,zb,e3,zp h3,zf,BN,zf,zf,wC (by simp only[zQ,xaq,xbS];omega),zf,zb,e4];refine ih _ ⟨k+1,by omega,?_⟩ (by show 2*n-(2*((k+1:Nat):Int)).toNat<2*n-(((2*k:Nat):Int)).toNat;omega);rw[Ja,<-hp,xar (by omega),xar<|by omega]
  ·rw[zy,wC (by simp only[zQ,xaq,xbS];omega),zf,zb,e4];refine ih _ ⟨k+1,by omega,?_⟩ (by show 2*n-(2*((k+1:Nat):Int)).toNat<2*n-(((2*k:Nat):Int)).toNat;omega);have z:d.getD (2*k+1) 0=0:=by rw[H1,xaH<|by omega];rfl
   rw[z,xcv,xbT]at hp;rw[Ja,<-hp]
 ·rw[zy];obtain rfl:k=n:=by omega
  rfl
theorem QP(h:x9 d)(hl:d.length<=4294967296)(hf:d.length+1<fu):um fu d=some (yC<|nw d):=by
 unfold um;obtain⟨n,hn⟩:∃n,n=(d.length+1)/2:=⟨_,rfl⟩;have ha:nw d<18446744073709551616^n:=by
  rw[<-pF];exact xan (Kj h)<|xay (by decide)<|by omega
 rw[za<|Mw h hl hn hf,za (Kg (xG _ _) (by rw[zQ];omega)<|by rw[zQ];omega),ji,xar ha]
end
theorem dR{a:List Nat}(h:zm a):(mQ<|nv a).length<=2*a.length:=by
 rw[Yv,pF];exact qT h
theorem J9{fu:Nat}{a b:List Nat}(ha:a.length<=1099511627776)(hf:a.length<fu):Wy fu a b=some (decide<|a=b):=by
 unfold Wy;by_cases hl:a.length=b.length
 ·rw[zN,za (v:=if a=b then .inl ()else .inr ())]
  ·by_cases h:a=b
   ·rw[iq h,decide_eq_true h]
   ·rw[ir h,decide_eq_false h]
  ·refine zx (fun i:Int=>∃k:Nat,i=(k:Int)/\k<=a.length/\a.take k=b.take k) (fun i=>a.length-i.toNat) _ ?_ _ _ ⟨0,rfl,by lia,rfl⟩ (by show a.length-0<fu;lia);rintro i L ⟨k,rfl,hk,ht⟩ ih;unfold Um;by_cases h1:k<a.length
   ·rw[zN,zp h1,zf,yj,zf];by_cases h2:a.getD k 0=b.getD k 0
    ·rw[zN,zb];refine ih _ ⟨k+1,by lia,by lia,?_⟩ (by show a.length-((k:Int)+1).toNat<a.length-(k:Int).toNat;lia);rw[xfs,xfs,ht,getD_some 0 h1,getD_some 0 (by lia:k<b.length),h2]
    ·rw[zy,ir<|fun h=>h2<|by rw[h]]
   ·rw[zy];obtain rfl:k=a.length:=by lia
    rw[xcP,xaQ<|by lia]at ht;rw[iq ht]
 ·rw[zy,decide_eq_false<|fun h=>hl<|by rw[h]]
section
variable{fu:Nat}{a b:Zr}{x:Int}
def zv(z:Zr):Int:=if z.1=true then-((nv z.2:Nat):Int)else((nv z.2:Nat):Int)
def yH(x:Int):Zr:=(decide<|x<0,yC x.natAbs)
theorem zw(x:Int):zv (yH x)=x:=by grind [yH,zv,z7]
theorem yT(x:Int):zm (yH x).2:=zu _
theorem kD(z:Zr):(zv z).natAbs=nv z.2:=by unfold zv;split<;>omega
theorem zcx(s:Bool)(n:Nat):(if s=true then if 0<(((yC n).length:Nat):Int)then some (true,yC n)else some (false,yC n)else some (false,yC n))=some (yH (if s=true then-(n:Int)else(n:Int))):=by grind [yH,C9,qf]
theorem yp{s:Bool}{a:List Nat}(h:zm a)(hl:a.length<=17592186044416)(hf:a.length<fu):yR fu s a=some (yH (if s=true then-((nv a:Nat):Int)else((nv a:Nat):Int))):=by
 unfold yR;rw[za<|YN h hl hf];exact zcx s _
theorem mo{z:Zr}(h:zm z.2)(hl:z.2.length<=17592186044416)(hf:z.2.length<fu):xF fu z=some (yH<|zv z):=by
 unfold xF;rw[za<|Kg h hl hf];exact zcx z.1 _
theorem KB{z:Zr}(h:zm z.2)(hl:z.2.length<=17592186044416)(hf:z.2.length<fu):qb fu z=some (yH<|zv z):=by
 unfold qb;rw[za<|yp h hl hf];rfl
theorem sM(h0:0<=x)(h:x<18446744073709551616):((gI x:Nat):Int)=x:=by unfold gI;omega
theorem se{x:Nat}(h:x<18446744073709551616):zm [x]:=zm.cons h zm.nil
theorem NA(x:Nat):nv [x]=x:=by simp[nv]
theorem JT(h:VE x)(hf:1<fu:=by omega):zW fu x=some (yH x):=by grind [zW,gI,mg,zf,za,yp,se,NA,sM]
theorem zeK(a b:Zr):(if(!(a.1==b.1))=true then-((nv a.2*nv b.2:Nat):Int)else((nv a.2*nv b.2:Nat):Int))=zv a*zv b:=by grind [zv,Int.neg_mul,xeC]
theorem a8(ha:zm a.2)(hb:zm b.2)(hc:a.2.length<=1073741824)(hd:b.2.length<=1073741824)(hf:4*(a.2.length+b.2.length)+64<=fu):zP fu a b=some (yH<|zv a*zv b):=by
 unfold zP;have hl:=Xf (yS ha)<|yS hb;rw[zf,za<|WI ha hb hc hd hf,za (yp (zu _) (by omega)<|by omega),z7,<-zeK]
theorem J8(hl:a.2.length<=1099511627776)(hf:a.2.length<fu):ZH fu a b=some (decide<|a=b):=by
 obtain⟨s,a⟩:=a;obtain⟨t,b⟩:=b;unfold ZH;rw[zf];cases s<;>cases t
 ·simp only[beq_self_eq_true,if_true];rw[za<|J9 hl hf];simp
 ·simp
 ·simp
 ·simp only[beq_self_eq_true,if_true];rw[za<|J9 hl hf];simp
theorem zdE{a:Int}{e b:Nat}(h:bl a.natAbs*e<=b*64):(yC (a^e).natAbs).length<=b+1:=by
 rw[zJ,Int.natAbs_pow];have h1:a.natAbs^e<=(2^bl a.natAbs)^e:=Nat.pow_le_pow_left (xcS<|sa _) e;rw[<-xdf]at h1;have h2:2^(bl a.natAbs*e)<=2^(64*b):=xay (by decide) (by omega);rw[xdf 2 64 b,show(2:Nat)^64=18446744073709551616 from rfl]at h2;have h3:18446744073709551616^b<18446744073709551616^(b+1):=xeM (by decide)<|xbY b;omega
theorem zbv(i:Nat)(h:i<=65536):eH (i:Int) 1=((i%2:Nat):Int):=by grind [eH,Ru,gI]
theorem zhR(i:Nat):xfT (i:Int) (2^(min (((1:Nat):Int)).toNat 64))=((i/2:Nat):Int):=by grind [xeJ]
theorem P4{n:Nat}{a:Int}(hn:n<=65536)(hb:bl a.natAbs*n<=262144)(hf:65600<fu):
 zg (JZ fu) fu ((n:Int),yH a,yH 1)=some (yH<|a^n):=by
 have hc:∀e,e<=n->(yC (a^e).natAbs).length<=4097:=fun e he=>zdE (b:=4096)<|xam (xaD _ he) hb;refine zx (fun s:Int×Zr×Zr=>∃i d e:Nat,s=((i:Int),yH<|a^d,yH<|a^e)/\e+d*i=n/\(0<i->d<=n)/\0<d) (fun s=>s.1.toNat) _ ?_ _ _ ⟨n,1,0,by simp[xbl],by omega,by omega,by omega⟩ (by show((n:Int)).toNat<fu;omega);rintro s L ⟨i,d,e,rfl,he,hd,hi⟩ ih;unfold JZ;simp only;have mul:∀p q,p<=n->q<=n->zP fu (yH<|a^p) (yH<|a^q)=some (yH<|a^(p+q)):=by
  intro p q hp hq;have h1:=hc p hp;have h2:=hc q hq;rw[a8 (yT _) (yT _) (by show(yC _).length<=_;omega) (by show(yC _).length<=_;omega) (by show 4*((yC _).length+(yC _).length)+64<=fu;omega),zw,zw,Int.pow_add]
 by_cases h0:0<i
 ·have ha:=hd h0;have hj:i<=n:=by
   have:=xdm i hi;omega
  have hg:d*i=d*(i/2)*2+d*(i%2):=by rw[xaX,<-xbh];congr 1;omega
  rw[zN,zf,zbv i<|by omega];by_cases h1:i%2=1
  ·rw[zN];rw[h1,xcG]at hg;rw[za<|mul e d (by omega) ha];by_cases h2:1<i
   ·have h3:d*1<=d*(i/2):=xaD d (by omega);rw[zN,za<|mul d d ha ha,zf,zhR];refine ih _ ⟨i/2,d+d,e+d,rfl,?_,by omega,by omega⟩ (by show((i/2:Nat):Int).toNat<(i:Int).toNat;omega);rw[xaV];omega
   ·rw[zy,zf,zhR];refine ih _ ⟨i/2,d,e+d,rfl,?_,by omega,by omega⟩ (by show((i/2:Nat):Int).toNat<(i:Int).toNat;omega);rw[show i/2=0 by omega,xcN]at hg⊢;omega
  ·rw[zy];rw[show i%2=0 by omega,xcN,xbT]at hg;by_cases h2:1<i
   ·have h3:d*1<=d*(i/2):=xaD d (by omega);rw[zN,za<|mul d d ha ha,zf,zhR];refine ih _ ⟨i/2,d+d,e,rfl,?_,by omega,by omega⟩ (by show((i/2:Nat):Int).toNat<(i:Int).toNat;omega);rw[xaV];omega
   ·omega
 ·rw[zy];obtain rfl:i=0:=by omega
  rw[xcN,xbT]at he;rw[he]
theorem Az{n:Nat}{z:Zr}(h:zm z.2)(hl:z.2.length<=1000000)(hn:n<=65536)(hf:1000100<fu):
 J1 fu z (n:Int)=some (if 262144<bl (nv z.2)*n then((false,[]),6)else(yH<|zv z^n,0)):=by
 unfold J1;have hb:=zco h hl;have hm:bl (nv z.2)*n<=64000000*65536:=xbH hb hn;have e:((bl (nv z.2):Nat):Int)*(n:Int)=((bl (nv z.2)*n:Nat):Int):=by simp
 rw[zy,zy,za rfl];simp only[xak,if_false];rw[za (YL h (by omega)<|by omega),e,zb];by_cases h1:262144<bl (nv z.2)*n
 ·rw[zN,iq h1]
 ·rw[zy,ir h1,za (JT (by decide)<|by omega),za (KB h (by omega)<|by omega),za<|P4 hn (by rw[kD];omega)<|by omega]
end
section
variable{d fu:Nat}{p:Int}
def vX(p:Nat):Prop:=∀d,2<=d->d*d<=p->p%d≠0
open Classical in
noncomputable def wz(p:Int):Bool:=decide<|2<=p/\p<=65521/\vX p.toNat
open Classical in
theorem FJ{p:Int}(h:2<=p/\p<=65521/\vX p.toNat):wz p=true:=by unfold wz;exact decide_eq_true h
open Classical in
theorem tN{p:Int}(h:¬(2<=p/\p<=65521/\vX p.toNat)):wz p=false:=by unfold wz;exact decide_eq_false h
theorem nU(d:Nat):(d:Int)*(d:Int)=((d*d:Nat):Int):=by simp
theorem PF{p:Nat}(h:p<=65521)(hd:d<=300:=by lia):d*d<=90000:=xam (xbH hd hd)<|by decide
theorem Pk{p:Nat}(h:p<=65521)(hd:d*d<=p):d<256:=by
 rcases xce d 256 with h1|h1
 ·exact h1
 ·have:=xbH h1 h1;lia
theorem MX{p:Nat}(h:p<=65521)(hf:400<fu):(vX p->zg (kQ fu (p:Int)) fu (true,2)=some true)/\(¬vX p->zg (kQ fu (p:Int)) fu (true,2)=some false):=by
 constructor
 ·intro hn;refine zx (fun i:Bool×Int=>∃d:Nat,i=(true,(d:Int))/\2<=d/\d<=256) (fun i=>300-i.2.toNat) _ ?_ _ _ ⟨2,rfl,by lia,by lia⟩ (by show 300-2<fu;lia);rintro i L ⟨d,rfl,h2,h3⟩ ih;unfold kQ;simp only[if_true];have hs:=PF h (d:=d);rw[nU,zb];by_cases h4:d*d<=p
  ·have h5:=hn d h2 h4;have:=Pk h h4;have e:xcc (p:Int) (d:Int)=((p%d:Nat):Int):=rfl;rw[zN,yJ,zf,e,zy,zb];exact ih _ ⟨d+1,rfl,by lia,by lia⟩ (by show 300-((d:Int)+1).toNat<300-(d:Int).toNat;lia)
  ·rw[zy]
 ·intro hn;obtain⟨d0,ha⟩:=xfI.1 hn;obtain⟨hb,ha⟩:=xft.1 ha;obtain⟨h4,h5⟩:=xft.1 ha;have h5:p%d0=0:=Classical.not_not.1 h5;have h6:=Pk h h4;refine zx (fun i:Bool×Int=>∃d:Nat,i=(true,(d:Int))/\2<=d/\d<=d0) (fun i=>300-i.2.toNat) _ ?_ _ _ ⟨2,rfl,by lia,by lia⟩ (by show 300-2<fu;lia);rintro i L ⟨d,rfl,h2,h3⟩ ih;unfold kQ;simp only[if_true];have hs:=PF h (d:=d);have hc:=xbH h3 h3;rw[nU,zb];have e:xcc (p:Int) (d:Int)=((p%d:Nat):Int):=rfl;rw[zN,yJ,zf,e];by_cases h7:p%d=0
  ·rw[zN]
  ·rw[zy,zb];refine ih _ ⟨d+1,rfl,by lia,?_⟩ (by show 300-((d:Int)+1).toNat<300-(d:Int).toNat;lia);rcases xce d d0 with h8|h8
   ·exact h8
   ·exact absurd (by rw[show d=d0 by lia];exact h5) h7
theorem zaR{p:Nat}(h:p<=65521)(hf:400<fu):(vX p->zg (ZW fu (p:Int)) fu 2=some (.inl ()))/\(¬vX p->zg (ZW fu (p:Int)) fu 2=some (.inr ())):=by
 constructor
 ·intro hn;refine zx (fun i:Int=>∃d:Nat,i=(d:Int)/\2<=d/\d<=256) (fun i=>300-i.toNat) _ ?_ _ _ ⟨2,rfl,by lia,by lia⟩ (by show 300-2<fu;lia);rintro i L ⟨d,rfl,h2,h3⟩ ih;unfold ZW;have hs:=PF h (d:=d);rw[nU,zb];by_cases h4:d*d<=p
  ·have h5:=hn d h2 h4;have:=Pk h h4;have e:xcc (p:Int) (d:Int)=((p%d:Nat):Int):=rfl;rw[zN,yJ,zf,e,zy,zb];exact ih _ ⟨d+1,by lia,by lia,by lia⟩ (by show 300-((d:Int)+1).toNat<300-(d:Int).toNat;lia)
  ·rw[zy]
 ·intro hn;obtain⟨d0,ha⟩:=xfI.1 hn;obtain⟨hb,ha⟩:=xft.1 ha;obtain⟨h4,h5⟩:=xft.1 ha;have h5:p%d0=0:=Classical.not_not.1 h5;have h6:=Pk h h4;refine zx (fun i:Int=>∃d:Nat,i=(d:Int)/\2<=d/\d<=d0) (fun i=>300-i.toNat) _ ?_ _ _ ⟨2,rfl,by lia,by lia⟩ (by show 300-2<fu;lia);rintro i L ⟨d,rfl,h2,h3⟩ ih;unfold ZW;have hs:=PF h (d:=d);have hc:=xbH h3 h3;rw[nU,zb];have e:xcc (p:Int) (d:Int)=((p%d:Nat):Int):=rfl;rw[zN,yJ,zf,e];by_cases h7:p%d=0
  ·rw[zN]
  ·rw[zy,zb];refine ih _ ⟨d+1,by lia,by lia,?_⟩ (by show 300-((d:Int)+1).toNat<300-(d:Int).toNat;lia);rcases xce d d0 with h8|h8
   ·exact h8
   ·exact absurd (by rw[show d=d0 by lia];exact h5) h7
theorem YI(hf:400<fu):jO fu p=some (wz p):=by
 unfold jO;have ha:zg (kQ fu p) fu (false,2)=some false:=by
  obtain⟨k,rfl⟩:∃k,fu=k+1:=⟨fu-1,by lia⟩;rfl
 by_cases h2:2<=p
 ·rw[iq h2];by_cases h3:p<=65521
  ·rw[iq h3,za rfl];obtain⟨q,rfl⟩:=xaA (by lia:0<=p);obtain⟨l1,l2⟩:=MX (fu:=fu) (p:=q) (by lia) hf;by_cases h4:vX q
   ·rw[za<|l1 h4,FJ (p:=(q:Int)) ⟨h2,h3,h4⟩]
   ·rw[za<|l2 h4,tN (p:=(q:Int))<|fun h=>h4 h.2.2]
  ·rw[ir h3,za rfl,za ha];rw[tN<|fun h=>h3 h.2.1]
 ·rw[ir h2,za rfl,za ha];rw[tN<|fun h=>h2 h.1]
theorem Ar(hf:400<fu):cR fu p=some (wz p):=by grind [cR,tN,vX,zaR,za,FJ,xaA]
noncomputable def fQ(p k:Int):Zr×Int:=if wz p=true/\1<=k/\k<=1000 then(yH<|p^k.toNat,0)else((false,[]),1)
theorem zn(h:wz p=true):2<=p/\p<=65521:=by
 refine xae fun hn=> ?_;rw[tN<|fun h=>hn ⟨h.1,h.2.1⟩]at h;cases h
theorem zho(h:wz p=true):bl (nv (yH p).2)<=16:=by
 have:=zn h;refine Qe ?_;show nv (yC p.natAbs)<_;rw[z7];lia
theorem zfh{x:Int}(h:x.natAbs<18446744073709551616):(yH x).2.length<=1:=by
 show(yC _).length<=1;rw[zJ];lia
theorem jB{k:Int}(hf:3000000<fu):vz fu p k=some (fQ p k):=by
 unfold vz fQ;rw[za<|YI<|by lia];by_cases h1:wz p=true
 ·have hr:=zn h1;rw[ir<|by simp[h1]];by_cases h2:k<1
  ·rw[iq h2,ir<|fun h=>by lia]
  ·rw[ir h2];by_cases h3:1000<k
   ·rw[iq h3,ir<|fun h=>by lia]
   ·obtain⟨n,rfl⟩:=xaA (by lia:0<=k);have hl:=zfh (x:=p) (by lia);have hb:bl (nv (yH p).2)*n<=16*1000:=xbH (zho h1) (by lia);rw[ir h3,if_pos ⟨h1,by lia,by lia⟩,za<|JT ⟨by lia,by lia⟩,za (Az (yT p) (by lia) (by lia)<|by lia),zy,zw];rfl
 ·rw[iq (by simp[h1]),ir<|fun h=>h1 h.1]
end
section
variable{fu k j:Nat}{a b:Zr}{x y:Int}
theorem K3{a b:Int}:jJ fu a b=some (qU a b):=by grind [jJ,uD,za,vQ,w4,jD,xak]
theorem QS{a b:Nat}:vS fu a b=some (qU a b):=by grind [vS,jg,za,vQ,w4,jD,xak]
theorem Jt{a b:List Nat}(ha:zm a)(hb:zm b)(he:a.length<=1000000:=by lia)(hg:b.length<=1000000:=by lia)(hf:2000000<fu:=by lia):WY fu a b=some (qU (nv a:Nat) (nv b:Nat)):=by
 unfold WY;have h1:=yS ha;have h2:=yS hb;rw[za (xA ha (by lia)<|by lia),za<|xA hb (by lia)<|by lia];generalize nv a=x at*
 generalize nv b=y at*
 by_cases h:(yC x).length=(yC y).length
 ·rw[zN,zb];by_cases hc:x=y
  ·subst hc;rw[za (v:=.inl ())]
   ·rw[jD rfl]
   ·refine zx (fun i:Int=>∃m:Nat,i=(m:Int)-1/\m<=(yC x).length) (fun i=>(i+1).toNat) _ ?_ _ _ ⟨_,rfl,xab _⟩ (by lia);rintro i L ⟨m,rfl,hm⟩ ih;unfold Ub;by_cases h0:m=0
    ·rw[zy]
    ·have e:(m:Int)-1=((m-1:Nat):Int):=by lia
     rw[zN,e,yj,zf,yj,zf,iq rfl,zb];exact ih _ ⟨m-1,rfl,by lia⟩<|by lia
  ·rw[za (v:=.inr<|qU x y)];refine zx (fun i:Int=>∃m:Nat,i=(m:Int)-1/\m<=(yC x).length/\x/18446744073709551616^m=y/18446744073709551616^m) (fun i=>(i+1).toNat) _ ?_ _ _ ⟨_,rfl,xab _,zaw h⟩ (by lia);rintro i L ⟨m,rfl,hm,ht⟩ ih;unfold Ub;by_cases h0:m=0
   ·subst h0;rw[xeg,xdU,xdU]at ht;exact absurd ht hc
   ·have e:(m:Int)-1=((m-1:Nat):Int):=by lia
    rw[zN,e,yj,zf,yj,zf];by_cases hd:(yC x).getD (m-1) 0=(yC y).getD (m-1) 0
    ·rw[iq (by rw[hd]),zb];exact ih _ ⟨m-1,rfl,by lia,zbi (by lia) ht hd⟩<|by lia
    ·rw[zy,yj,zf,yj,zf,za QS,Rk (by lia) ht hd]
 ·rw[zy,za K3,zfl h]
def KA(z:Zr):Prop:=zm z.2/\z.2.length<=100000
def Bz(k:Nat)(x:Int):Prop:=x.natAbs<18446744073709551616^k
theorem Bz.ok(h:Bz k x)(hk:k<=100000):KA (yH x):=⟨yT x,xam ((zJ _ _).2 h) hk⟩
theorem Bz.of{z:Zr}(h:zm z.2):Bz z.2.length (zv z):=by grind [Bz,kD,qT]
theorem Bz.mono(h:Bz j x)(hk:j<=k):Bz k x:=xan h<|xay (by decide) hk
theorem KA.bz{z:Zr}(h:KA z):Bz 100000 (zv z):=(Bz.of h.1).mono h.2
theorem Bz.neg(h:Bz k x):Bz k (-x):=by unfold Bz at*;rw[Int.natAbs_neg];exact h
theorem Bz.add(hx:Bz k x)(hy:Bz k y):Bz (k+1) (x+y):=by grind [Bz,Int.natAbs_add_le,xbb]
theorem Bz.sub(hx:Bz k x)(hy:Bz k y):Bz (k+1) (x-y):=by grind [Bz.add,Bz.neg,Int.sub_eq_add_neg]
theorem Bz.mul(hx:Bz j x)(hy:Bz k y):Bz (j+k) (x*y):=by unfold Bz at *;rw[xcg,xbZ];exact xdK hx hy
theorem Bz.le(hy:Bz k y)(h:x.natAbs<=y.natAbs):Bz k x:=xba h hy
theorem xz(z:Zr):(z.1=true/\zv z= -((nv z.2:Nat):Int))\/(z.1=false/\zv z=((nv z.2:Nat):Int)):=by grind [zv]
theorem uz{z:Zr}(h:KA z)(hf:3000000<=fu):qb fu z=some (yH<|zv z):=KB h.1 (by have:=h.2;lia) (by have:=h.2;lia)
theorem bK{z:Zr}(h:KA z)(hf:3000000<=fu):uK fu z=some (yH (-zv z)):=by
 unfold uK;have:=h.2;rw[za<|yp h.1 (by lia)<|by lia];rcases xz z with⟨h1,h2⟩|⟨h1,h2⟩<;>rw[h1,h2]<;>simp
theorem qt(ha:KA a)(hb:KA b)(hf:3000000<=fu):vu fu a b=some (yH<|zv a+zv b):=by
 unfold vu;have la:=ha.2;have lb:=hb.2;have hg:(yC<|nv a.2+nv b.2).length<=100001:=u9 (xam (yS ha.1) la)<|xam (yS hb.1) lb;rw[zf];by_cases hs:a.1=b.1
 ·rw[iq (by simp[hs]),za<|kE ha.1 hb.1,za (yp (zu _) (by lia)<|by lia),z7];rcases xz a with⟨h1,h2⟩|⟨h1,h2⟩<;>rcases xz b with⟨h3,h4⟩|⟨h3,h4⟩
  ·rw[h1,h2,h4,iq rfl];congr 2;lia
  ·rw[h1,h3]at hs;cases hs
  ·rw[h1,h3]at hs;cases hs
  ·rw[h1,h2,h4,ir<|by decide];congr 2
 ·rw[ir<|by simp[hs]];rw[za<|Jt ha.1 hb.1];by_cases hc:nv a.2<nv b.2
  ·have hd:(yC<|nv b.2-nv a.2).length<=100000:=xam (Vi<|xfr _ _)<|xam (yS hb.1) lb;rw[vQ (by lia),iq (by decide),za rfl];simp only;rw[za (WA hb.1 ha.1 (by lia) (by lia)<|by lia),zy];simp only;rw[za (yp (zu _) (by lia)<|by lia),z7];rcases xz a with⟨h1,h2⟩|⟨h1,h2⟩<;>rcases xz b with⟨h3,h4⟩|⟨h3,h4⟩<;>rw[h3,h2,h4]<;>simp_all
   ·congr 1;lia
   ·congr 1;lia
  ·have hd:(yC<|nv a.2-nv b.2).length<=100000:=xam (Vi<|xfr _ _)<|xam (yS ha.1) la;have he:¬qU ((nv a.2:Nat):Int) ((nv b.2:Nat):Int)<0:=by
    rcases xce (nv b.2) (nv a.2)with h|h
    ·rw[w4<|by lia];decide
    ·rw[jD<|by lia];decide
   rw[ir he,za rfl];simp only;rw[za (WA ha.1 hb.1 (by lia) (by lia)<|by lia),zy];simp only;rw[za (yp (zu _) (by lia)<|by lia),z7];rcases xz a with⟨h1,h2⟩|⟨h1,h2⟩<;>rcases xz b with⟨h3,h4⟩|⟨h3,h4⟩<;>rw[h1,h2,h4]<;>simp_all
   ·congr 1;lia
   ·congr 1;lia
theorem qv(ha:KA a)(hb:KA b)(hf:3000000<=fu):qo fu a b=some (yH<|zv a-zv b):=by
 unfold qo;have h1:=(Bz.neg hb.bz).ok<|xab _;rw[za<|bK hb hf,za<|qt ha h1 hf,zw];congr 2
theorem oq:0<(((yH x).2.length:Nat):Int)↔x≠0:=by grind [yH,yC,C9,qf,Int.natAbs]
theorem dK(x:Int):(yH x).1=true↔x<0:=by unfold yH;simp
theorem xe{z:Zr}(h:KA z)(hf:3000000<=fu):xu fu z=some (qU (zv z) 0):=by grind [xu,zv,za,uz,dK,r7,vQ,oq,jD,w4]
theorem Hr(x y:Int):qU (x-y) 0=qU x y:=by grind [vQ,jD,w4,xeI]
theorem uj(ha:KA a)(hb:KA b)(hf:3000000<=fu)(hl:a.2.length<=99999:=by lia)(hc:b.2.length<=99999:=by lia):jk fu a b=some (qU (zv a)<|zv b):=by
 unfold jk;have h1:=((Bz.of ha.1).mono hl).sub<|(Bz.of hb.1).mono hc;rw[za<|qv ha hb hf,za<|xe (h1.ok<|xab _) hf,zw,Hr]
theorem ya(ha:KA a)(hb:KA b)(hf:3000000<=fu):zP fu a b=some (yH<|zv a*zv b):=by
 have:=ha.2;have:=hb.2;exact a8 ha.1 hb.1 (by lia) (by lia)<|by lia
theorem z6(h:VE x)(hf:3000000<=fu:=by lia):zW fu x=some (yH x):=JT h
end
section
variable{fu k B i:Nat}{a x y b t:List Nat}
theorem xj:vA fu a (k:Int)=some (a.getD k 0):=by grind [vA,zp,zf,xaH]
theorem PG{x y:Nat}(hB:0<B)(h:x/B^(k+1)=y/B^(k+1))(hd:x/B^k%B<y/B^k%B):x<y:=by
 have h1:=W8 x B k hB;have h2:=W8 y B k hB;rw[h]at h1;refine xdz fun ha=> ?_;have:=Nat.div_le_div_right (c:=B^k) ha;omega
theorem zdL{x y:Nat}(hB:0<B)(h:x/B^(k+1)=y/B^(k+1))(hd:x/B^k%B=y/B^k%B):x/B^k=y/B^k:=by grind [W8]
theorem cB(ha:x9 a)(hb:x9 b)(he:a.length<=1000000)(hg:b.length<=1000000)(hf:2000000<fu):uH fu a b=some (qU (nw a:Nat) (nw b:Nat)):=by
 unfold uH;have e1:max (a.length:Int) (b.length:Int)=((max a.length b.length:Nat):Int):=by omega
 rw[zf,e1,zb];have t0:nw a/4294967296^(max a.length b.length)=nw b/4294967296^(max a.length b.length):=by
  have h1:nw a<4294967296^(max a.length b.length):=xan (Kj ha)<|xay (by decide)<|xee _ _;have h2:nw b<4294967296^(max a.length b.length):=xan (Kj hb)<|xay (by decide)<|xdL _ _;rw[xbv h1,xbv h2]
 have g1:∀k,a.getD k 0=nw a/4294967296^k%4294967296:=eW ha;have g2:∀k,b.getD k 0=nw b/4294967296^k%4294967296:=eW hb;by_cases hc:nw a=nw b
 ·rw[za (v:=.inl ())]
  ·rw[hc,jD rfl]
  ·refine zx (fun i:Int=>∃m:Nat,i=(m:Int)-1/\m<=max a.length b.length) (fun i=>(i+1).toNat) _ ?_ _ _ ⟨_,rfl,xab _⟩ (by omega);rintro i L ⟨m,rfl,hm⟩ ih;unfold Zm;by_cases h0:m=0
   ·rw[zy]
   ·have e:(m:Int)-1=((m-1:Nat):Int):=by omega
    rw[zN,e,za xj,za xj,g1,g2,hc,zy,za xj,za xj,g1,g2,hc,zy,zb];exact ih _ ⟨m-1,rfl,by omega⟩<|by omega
 ·rw[za (v:=.inr<|qU (nw a:Nat) (nw b:Nat))];refine zx (fun i:Int=>∃m:Nat,i=(m:Int)-1/\m<=max a.length b.length/\nw a/4294967296^m=nw b/4294967296^m) (fun i=>(i+1).toNat) _ ?_ _ _ ⟨_,rfl,xab _,t0⟩ (by omega);rintro i L ⟨m,rfl,hm,ht⟩ ih;unfold Zm;by_cases h0:m=0
  ·subst h0;rw[xeg,xdU,xdU]at ht;exact absurd ht hc
  ·have e:(m:Int)-1=((m-1:Nat):Int):=by omega
   have hd:nw a/4294967296^(m-1+1)=nw b/4294967296^(m-1+1):=by rw[show m-1+1=m by omega];exact ht
   rw[zN,e,za xj,za xj];by_cases h1:a.getD (m-1) 0<b.getD (m-1) 0
   ·rw[zN,vQ];rw[g1,g2]at h1;have:=PG (by decide) hd h1;omega
   ·rw[zy,za xj,za xj];by_cases h2:b.getD (m-1) 0<a.getD (m-1) 0
    ·rw[zN,w4];rw[g1,g2]at h2;have:=PG (by decide) hd.symm h2;omega
    ·rw[zy,zb];refine ih _ ⟨m-1,rfl,by omega,zdL (by decide) hd ?_⟩ (by omega);rw[<-g1,<-g2];omega
theorem DR{c:Nat}(ht:t.length=i)(h:nw t+4294967296^i*c=nw (x.take i)+nw (y.take i)):
 nw (t++[(x.getD i 0+y.getD i 0+c)%4294967296])+4294967296^(i+1)*((x.getD i 0+y.getD i 0+c)/4294967296)=nw (x.take<|i+1)+nw (y.take<|i+1):=by grind [Pv,Wh,xbb,xbB,xaX,xbh]
theorem sj(ha:zm a)(hb:zm b)(hg:a.length<=200000)(hj:b.length<=200000)(hf:2000000<fu):VX fu a b=some (yC<|nv a+nv b):=by
 unfold VX;rw[za (jI ha (by omega)<|by omega),za<|jI hb (by omega)<|by omega];have l1:=dR ha;have l2:=dR hb;have L1:=Q2<|nv a;have L2:=Q2<|nv b;have v1:=Vx<|nv a;have v2:=Vx<|nv b;generalize mQ (nv a)=x at*
 generalize mQ (nv b)=y at*
 obtain⟨n,hn⟩:∃n,n=max x.length y.length+1:=⟨_,rfl⟩;have hd:nw x+nw y<4294967296^n:=by
  have h1:nw x<4294967296^(max x.length y.length):=xan (Kj L1)<|xay (by decide)<|xee _ _;have h2:nw y<4294967296^(max x.length y.length):=xan (Kj L2)<|xay (by decide)<|xdL _ _;rw[hn,xbb];omega
 rw[za (v:=QV n<|nw x+nw y)]
 ·rw[za (QP (aG _ _) (by rw[Zg];omega)<|by rw[Zg];omega),ov,xar hd,v1,v2]
 ·refine zx (fun s:List Nat×Nat×Int=>∃(t:List Nat) (c i:Nat),s=(t,c,(i:Int))/\i<=n/\t.length=i/\x9 t/\c<=1/\nw t+4294967296^i*c=nw (x.take i)+nw (y.take i)) (fun s=>n-s.2.2.toNat) _ ?_ _ _ ⟨[],0,0,rfl,by omega,rfl,x9.nil,by omega,by simp[nw]⟩ (by show n-0<fu;omega);rintro s L ⟨t,c,i,rfl,hi,ht,hD,hc,hv⟩ ih;unfold bF;simp only;have e1:max (x.length:Int) (y.length:Int)=((max x.length y.length:Nat):Int):=by omega
  rw[zf,e1,zb];by_cases h1:i<n
  ·have b1:=L1.getD i;have b2:=L2.getD i;have e2:((x.getD i 0+y.getD i 0)%18446744073709551616+c)%18446744073709551616=x.getD i 0+y.getD i 0+c:=by omega
   rw[zN,za xj,za xj,zf,zf,zf,Hv,e2,wC (by simp[ht];omega),zf,zf,BN,zb];refine ih _ ⟨_,_,i+1,rfl,by omega,by simp[ht],hD.append<|x9.cons (xbi _<|by decide) x9.nil,by omega,DR ht hv⟩ (by show n-((i:Int)+1).toNat<n-(i:Int).toNat;omega)
  ·rw[zy];obtain rfl:i=n:=by omega
   rw[xaQ (by omega),xaQ<|by omega]at hv;have hp:0<4294967296^i:=xbk (by decide);have he:c=0:=by
    rcases xcu c with h|h
    ·exact h
    ·have:4294967296^i*1<=4294967296^i*c:=xaD _ h;omega
   subst he;rw[xcN,xbT]at hv;rw[<-hv,<-ht,dH hD]
theorem Af{b D:Nat}(ht:t.length=i)(hD:D+y.getD i 0+b=x.getD i 0+4294967296)(h:nw t+nw (y.take i)=nw (x.take i)+4294967296^i*b)(ha:D<8589934592):
 nw (t++[D%4294967296])+nw (y.take<|i+1)=nw (x.take<|i+1)+4294967296^(i+1)*(1-D/4294967296):=by
 rw[Pv,ht,Wh,Wh,xbb];have hd:D/4294967296=0\/D/4294967296=1:=by omega
 have e1:4294967296^i*(D%4294967296)+4294967296^i*y.getD i 0+4294967296^i*b+4294967296^i*4294967296*(D/4294967296)=4294967296^i*x.getD i 0+4294967296^i*4294967296:=by
  rw[xaX,<-xbh,<-xbh,<-xbh,<-xbh];congr 1;omega
 rcases hd with h0|h0<;>rw[h0]at e1⊢<;>omega
theorem mC(hx:x9 x)(hy:x9 y)(hl:x.length<=1000000)(hf:2000000<fu)(h:nw y<=nw x):Wk fu x y=some (mQ<|nw x-nw y):=by
 unfold Wk;have hX:=Kj hx;have ha:nw (y.take x.length)=nw y:=by rw[Ov hy,xar<|by omega]
 have key:∃t,x9 t/\t.length=x.length/\nw t=nw x-nw y/\zg (Vz fu x y) fu ([],0,0)=some t:=by
  refine⟨QV x.length<|nw x-nw y,aG _ _,Zg _ _,by rw[ov,xar<|by omega],?_⟩;refine zx (fun s:List Nat×Nat×Int=>∃(t:List Nat) (b i:Nat),s=(t,b,(i:Int))/\i<=x.length/\t.length=i/\x9 t/\b<=1/\nw t+nw (y.take i)=nw (x.take i)+4294967296^i*b) (fun s=>x.length-s.2.2.toNat) _ ?_ _ _ ⟨[],0,0,rfl,by omega,rfl,x9.nil,by omega,by simp[nw]⟩ (by show x.length-0<fu;omega);rintro s L ⟨t,b,i,rfl,hi,ht,hD,hb,hv⟩ ih;unfold Vz;simp only;by_cases h1:i<x.length
  ·have b1:=hx.getD i;have b2:=hy.getD i;obtain⟨D,hd⟩:∃D,D=x.getD i 0+4294967296-y.getD i 0-b:=⟨_,rfl⟩;have e2:(((x.getD i 0+4294967296)%18446744073709551616+18446744073709551616-y.getD i 0)%18446744073709551616+18446744073709551616-b)%18446744073709551616=D:=by omega
   have e3:(1+18446744073709551616-D/2^32)%18446744073709551616=1-D/4294967296:=by omega
   rw[zN,za xj,zf,za xj,zf,zf,zf,Hv,e2,wC (by simp[ht];omega),zf,zf,BN,zf,e3,zb];exact ih _ ⟨_,_,i+1,rfl,by omega,by simp[ht],hD.append<|x9.cons (xbi _<|by decide) x9.nil,by omega,Af ht (by omega) hv<|by omega⟩ (by show x.length-((i:Int)+1).toNat<x.length-(i:Int).toNat;omega)
  ·rw[zy];obtain rfl:i=x.length:=by omega
   rw[ha,xcP]at hv;have hT:=Kj hD;rw[ht]at hT;have hc:b=0:=by
    rcases xcu b with h|h
    ·exact h
    ·have:4294967296^x.length*1<=4294967296^x.length*b:=xaD _ h;omega
   subst hc;rw[xcN,xbT]at hv;rw[show nw x-nw y=nw t by omega,<-ht,dH hD]
 obtain⟨t,k1,k2,k3,k4⟩:=key;rw[za k4,za (UG k1 (by omega)<|by omega),k3]
theorem U1(ha:zm a)(hb:zm b)(hd:a.length<=200000)(he:b.length<=200000)(hf:2000000<fu):
 Xe fu a b=some (if nv a<nv b then([],1)else(yC<|nv a-nv b,0)):=by
 unfold Xe;rw[za (jI ha (by omega)<|by omega),za<|jI hb (by omega)<|by omega];have l1:=dR ha;have l2:=dR hb;have L1:=Q2<|nv a;have L2:=Q2<|nv b;rw[za<|cB L1 L2 (by omega) (by omega) hf,Vx,Vx];by_cases h:nv a<nv b
 ·rw[vQ (by omega),iq (by decide),iq h]
 ·have hc:¬qU ((nv a:Nat):Int) ((nv b:Nat):Int)<0:=by
   rcases xce (nv b) (nv a)with h|h
   ·rw[w4<|by omega];decide
   ·rw[jD<|by omega];decide
  have l3:(mQ<|nv a-nv b).length<=2*a.length:=by
   rw[Yv,pF];exact xba (xfr _ _)<|qT ha
  rw[ir hc,ir h,za (mC L1 L2 (by omega) hf<|by rw[Vx,Vx];omega),Vx,Vx,za (QP (Q2 _) (by omega)<|by omega),Vx]
theorem vf{z:Zr}(h:zm z.2)(hl:z.2.length<=200000)(hf:3000000<=fu):xF fu z=some (yH<|zv z):=mo h (by omega)<|by omega
theorem zcA(s:Bool)(n:Nat):zv (s,yC n)=if s=true then-(n:Int)else(n:Int):=by unfold zv;rw[z7]
theorem o5{z:Zr}(h:KA z)(hf:3000000<=fu):Qb fu z=some (yH (-zv z)):=by
 unfold Qb;have:=h.2;rw[za<|vf (z:=(!z.1,z.2)) h.1 (by show z.2.length<=_;omega) hf];rcases xz z with⟨h1,h2⟩|⟨h1,h2⟩
 ·rw[h2];unfold zv;simp[h1]
 ·rw[h2];unfold zv;simp[h1]
theorem ry{a b:Zr}(ha:KA a)(hb:KA b)(hf:3000000<=fu):Qg fu a b=some (yH<|zv a+zv b):=by
 unfold Qg;have la:=ha.2;have lb:=hb.2;have he:(yC<|nv a.2+nv b.2).length<=100001:=u9 (xam (yS ha.1) la)<|xam (yS hb.1) lb;rw[zf];by_cases hs:a.1=b.1
 ·rw[iq (by simp[hs]),za (sj ha.1 hb.1 (by omega) (by omega)<|by omega),za<|vf (z:=(a.1,yC<|nv a.2+nv b.2)) (zu _) (by show(yC _).length<=_;omega) hf,zcA];rcases xz a with⟨h1,h2⟩|⟨h1,h2⟩<;>rcases xz b with⟨h3,h4⟩|⟨h3,h4⟩
  ·rw[h1,h2,h4,iq rfl];congr 2;omega
  ·rw[h1,h3]at hs;cases hs
  ·rw[h1,h3]at hs;cases hs
  ·rw[h1,h2,h4,ir<|by decide];congr 2
 ·rw[ir (by simp[hs]),za<|U1 ha.1 hb.1 (by omega) (by omega)<|by omega];by_cases hc:nv a.2<nv b.2
  ·have hd:(yC<|nv b.2-nv a.2).length<=100000:=xam (Vi<|xfr _ _)<|xam (yS hb.1) lb;rw[iq hc];simp only;rw[ir (by decide),za (U1 hb.1 ha.1 (by omega) (by omega)<|by omega),zy];simp only;rw[za<|vf (z:=(b.1,yC<|nv b.2-nv a.2)) (zu _) (by show(yC _).length<=_;omega) hf,zcA];rcases xz a with⟨h1,h2⟩|⟨h1,h2⟩<;>rcases xz b with⟨h3,h4⟩|⟨h3,h4⟩
   ·rw[h1,h3]at hs;exact absurd rfl hs
   ·rw[h3,h2,h4,ir<|by decide];congr 2;omega
   ·rw[h3,h2,h4,iq rfl];congr 2;omega
   ·rw[h1,h3]at hs;exact absurd rfl hs
  ·have hd:(yC<|nv a.2-nv b.2).length<=100000:=xam (Vi<|xfr _ _)<|xam (yS ha.1) la;rw[ir hc];simp only;rw[iq trivial,za<|vf (z:=(a.1,yC<|nv a.2-nv b.2)) (zu _) (by show(yC _).length<=_;omega) hf,zcA];rcases xz a with⟨h1,h2⟩|⟨h1,h2⟩<;>rcases xz b with⟨h3,h4⟩|⟨h3,h4⟩
   ·rw[h1,h3]at hs;exact absurd rfl hs
   ·rw[h1,h2,h4,iq rfl];congr 2;omega
   ·rw[h1,h2,h4,ir<|by decide];congr 2;omega
   ·rw[h1,h3]at hs;exact absurd rfl hs
theorem oT{a b:Zr}(ha:KA a)(hb:KA b)(hf:3000000<=fu):Qc fu a b=some (yH<|zv a-zv b):=by
 unfold Qc;have h1:=(Bz.neg hb.bz).ok<|xab _;rw[za<|o5 hb hf,za<|ry ha h1 hf,zw];congr 2
theorem Ka{z:Zr}(h:KA z)(hf:3000000<=fu):ZX fu z=some (qU (zv z) 0):=by
 unfold ZX;have:=h.2;rw[za<|vf h.1 (by omega) hf];by_cases h1:zv z<0
 ·rw[iq<|(dK _).2 h1,vQ h1]
 ·rw[ir<|fun e=>h1<|(dK _).1 e];by_cases h2:zv z=0
  ·rw[ir<|fun e=>oq.1 e h2,jD h2]
  ·rw[iq<|oq.2 h2,w4<|by omega]
theorem sJ{a b:Zr}(ha:KA a)(hb:KA b)(hf:3000000<=fu)(hl:a.2.length<=99999)(hc:b.2.length<=99999):Qo fu a b=some (qU (zv a)<|zv b):=by
 unfold Qo;have h1:=((Bz.of ha.1).mono hl).sub<|(Bz.of hb.1).mono hc;rw[za<|oT ha hb hf,za<|Ka (h1.ok<|xab _) hf,zw,Hr]
end
section
variable{b v1 v0 u w q r fu x y s lo:Nat}
theorem TT(ha:q*v1+r=u)(h:q*v0<=b*r+w):q*(v1*b+v0)<=u*b+w:=by grind [xbh,xaX,xaV,xaU]
theorem Rq(ha:q*v1+r=u)(h:b*r+w<q*v0):u*b+w<q*(v1*b+v0):=by grind [xbh,xaX,xaV,xaU]
theorem gQ(hv:0<v1*b+v0)(ha:q*v1+r=u)(hb:(u*b+w)/(v1*b+v0)<=q:=by lia)(h:q*v0<=b*r+w:=by lia):q=(u*b+w)/(v1*b+v0):=
 xcU ((xcw hv).2<|TT ha h) hb
theorem zbz(hv:0<v1*b+v0)(ha:q*v1+r=u)(h:b*r+w<q*v0):(u*b+w)/(v1*b+v0)<=q-1/\0<q/\(q-1)*v1+(r+v1)=u:=by
 have h0:0<q:=by
  rcases xcu q with h0|h0
  ·subst h0;lia
  ·exact h0
 have h1:=(xbd hv).2<|Rq ha h;refine⟨by lia,h0,?_⟩;obtain⟨p,rfl⟩:∃p,q=p+1:=⟨q-1,by lia⟩;rw[xaV]at ha;simp only[xeu];lia
theorem Mr(hu:u<v1*b+v0)(ha:v0<b)(hb:q*v1+r=u)(hr:b<=r):q<b:=by
 refine xdz fun h=> ?_;have:b*v1<=q*v1:=xaw _ h;rw[xaU b]at this;lia
theorem LD(hq:q<b)(ha:v0<b)(hr:b<=r):q*v0<=b*r+w:=by
 have h1:q*v0<=b*b:=xbH (xcS hq)<|xcS ha;have h2:b*b<=b*r:=xaD _ hr;lia
theorem JU(hu:u<v1*b+v0)(hw:w<b:=by lia):(u*b+w)/(v1*b+v0)<b:=by
 have hv:0<v1*b+v0:=by lia
 rw[xbd hv];have:(u+1)*b<=(v1*b+v0)*b:=xaw _ hu;rw[xaV]at this;rw[xaU b];lia
theorem tL{β:Type}(mk:Nat->Nat->β)(ms:β->Nat)(hc:∀q r,ms (mk q r)=2-r/2147483648){f:(β->Option Nat)->β->Option Nat}(h1:2147483648<=v1)(h2:v1<4294967296)(h0:v0<4294967296)(hu:u<v1*4294967296+v0)(hw:w<4294967296)(hf:10<fu)(he:∀(q r:Nat) (L:β->Option Nat),q<18446744073709551616->r<4294967296->q*v0<18446744073709551616\/4294967296<=q->
 f L (mk q r)=if 4294967296<=q then(if 4294967296<=r+v1 then some (q-1)else L (mk (q-1)<|r+v1))else if 4294967296*r+w<q*v0 then(if 4294967296<=r+v1 then some (q-1)else L (mk (q-1)<|r+v1))else some q):
 zg f fu (mk (u/v1)<|u%v1)=some ((u*4294967296+w)/(v1*4294967296+v0)):=by
 have hv:0<v1*4294967296+v0:=by lia
 have hQ:=JU hu hw;have hi:u/v1<18446744073709551616:=by
  rw[xbd<|by lia];have:v1*4294967296+v0<18446744073709551616*1:=by lia
  have h3:18446744073709551616*1<=18446744073709551616*v1:=xaD _ (by lia);lia
 refine zx (fun s:β=>∃q r,s=mk q r/\q<18446744073709551616/\r<4294967296/\q*v1+r=u/\(u*4294967296+w)/(v1*4294967296+v0)<=q) ms _ ?_ _ _ ⟨_,_,rfl,hi,?_,?_,?_⟩<|by rw[hc];lia
 ·rintro s L ⟨q,r,rfl,hq,hr,hg,hj⟩ ih;have hk:q*v0<18446744073709551616\/4294967296<=q:=by
   rcases xce q 4294967296 with h|h
   ·left;exact xdK (a:=q) (b:=v0) (c:=4294967296) (d:=4294967296) h h0
   ·exact .inr h
  rw[he q r L hq hr hk];by_cases hb:4294967296<=q
  ·rw[iq hb];have hd:(q-1)*v1+(r+v1)=u:=by
    obtain⟨p,rfl⟩:∃p,q=p+1:=⟨q-1,by lia⟩;rw[xaV]at hg;simp only[xeu];lia
   by_cases ha:4294967296<=r+v1
   ·rw[iq ha,<-gQ hv hd (by lia)<|LD (Mr hu h0 hd ha) h0 ha]
   ·rw[ir ha];exact ih _ ⟨_,_,rfl,by lia,by lia,hd,by lia⟩<|by rw[hc,hc];lia
  ·rw[ir hb];by_cases ht:4294967296*r+w<q*v0
   ·obtain⟨d1,d2,d3⟩:=zbz hv hg ht;rw[iq ht];by_cases ha:4294967296<=r+v1
    ·rw[iq ha,<-gQ hv d3 d1<|LD (Mr hu h0 d3 ha) h0 ha]
    ·rw[ir ha];exact ih _ ⟨_,_,rfl,by lia,by lia,d3,d1⟩<|by rw[hc,hc];lia
   ·rw[ir ht,<-gQ hv hg hj]
 ·have:=xbi u (show 0<v1 by lia);lia
 ·rw[xaU];exact xbB u v1
 ·rw[xcw<|by lia];have h3:(u*4294967296+w)/(v1*4294967296+v0)*(v1*4294967296+v0)<=u*4294967296+w:=xdo _ _;generalize(u*4294967296+w)/(v1*4294967296+v0)=Q at*
  rw[xbh,<-xaX]at h3;generalize Q*v1=A at*
  lia
theorem Lz(h:y<2^s):x*2^s|||y=x*2^s+y:=by grind [xaU,Nat.two_pow_add_eq_or_of_lt]
theorem HR(h0:0<y)(h:y<18446744073709551616):bl y<=64/\9223372036854775808<=y*2^(64-bl y)/\y*2^(64-bl y)<18446744073709551616:=by
 have h1:bl y<=64:=Qe (k:=64) (by simpa using h);have h2:=sa y;refine⟨h1,?_,?_⟩
 ·have hp:1<=bl y:=by rw[JR h0];lia
  have ha:2^(bl y-1)<=y:=by
   refine xbw fun hb=> ?_;have:=Qe hb;lia
  have e:(9223372036854775808:Nat)=2^(bl y-1)*2^(64-bl y):=by rw[<-xbZ,show bl y-1+(64-bl y)=63 by lia]
  rw[e];exact xaw _ ha
 ·have e:(18446744073709551616:Nat)=2^bl y*2^(64-bl y):=by rw[<-xbZ,show bl y+(64-bl y)=64 by lia]
  rw[e];exact xbW h2<|xbk<|by decide
theorem FK(ha:lo<18446744073709551616)(hs:s<=64):lo*2^s=lo/2^(64-s)*18446744073709551616+lo*2^s%18446744073709551616/\lo/2^(64-s)<2^s:=by
 have e:(18446744073709551616:Nat)=2^(64-s)*2^s:=by rw[<-xbZ,show 64-s+s=64 by lia]
 have hp:0<2^s:=xbk (by decide);have e2:lo*2^s/18446744073709551616=lo/2^(64-s):=by rw[e,xfB _ _ hp]
 have h:=xbB (lo*2^s) 18446744073709551616;rw[e2]at h;refine⟨by lia,?_⟩;rw[xbd (xbk<|by decide),xaU,<-e];exact ha
theorem cF{w1 w0:Nat}(hy:0<y)(hb:0<b)(ha:w0<b):((x*b+w1)*b+w0)/y=(x*b+w1)/y*b+((x*b+w1)%y*b+w0)/y/\((x*b+w1)*b+w0)%y=((x*b+w1)%y*b+w0)%y:=by
 generalize x*b+w1=X;have h:=xbB X y;have e:X*b+w0=X%y*b+w0+y*(X/y*b):=by
  conv=>lhs;rw[<-h]
  rw[xaV,xaX];lia
 rw[e];constructor
 ·rw[xcC _ _ hy];lia
 ·rw[xbV]
theorem zjH{a:Nat}(ha:a<4294967296)(hb:b<4294967296):(a*4294967296%18446744073709551616+b)%18446744073709551616=a*4294967296+b:=by lia
theorem qW(hx:x<18446744073709551616):xh fu x=some ((64-bl x:Nat):Int):=by
 unfold xh;have h:bl x<=64:=Qe (k:=64) (by simpa using hx);rw[za<|vY hx,zb];congr 1;lia
theorem Xa{hi:Nat}(hn:lo<18446744073709551616)(hy:y<18446744073709551616)(hh:hi<y)(hf:10<fu):
 qg fu hi lo y=some ((hi*18446744073709551616+lo)/y,(hi*18446744073709551616+lo)%y):=by
 unfold qg;rw[zy,zy];by_cases h0:hi=0
 ·subst h0;rw[iq rfl,yJ,zf,yJ,zf,xcv,xaN]
 ·rw[zy,za<|qW hy];obtain⟨n1,n2,n3⟩:=HR (y:=y) (by lia) hy;obtain⟨s,hs⟩:∃s,s=64-bl y:=⟨_,rfl⟩;rw[<-hs]at n2 n3⊢;have hk:s<=64:=by lia
  have eu:gI (s:Int)=s:=by have:=sM (x:=(s:Int)) (by lia) (by lia);lia
  have em:min (s:Int).toNat 64=s:=by lia
  have e8:(64+18446744073709551616-s)%18446744073709551616=64-s:=by lia
  have em2:min (((64-s:Nat):Nat):Int).toNat 64=64-s:=by lia
  obtain⟨Y,hY⟩:∃Y,Y=y*2^s:=⟨_,rfl⟩;rw[<-hY]at n2 n3;obtain⟨w1,w2⟩:=FK hn hk;have hp:0<2^s:=xbk (by decide);have hx:hi*2^s+2^s<=Y:=by
   have:(hi+1)*2^s<=y*2^s:=xaw _ hh;rw[xaV,xcm]at this;rw[hY];exact this
  simp only[nm,eu,em,e8,em2,Hv,BN];rw[<-hY,xar n3,xar (show hi*2^s<18446744073709551616 by lia),Lz w2];obtain⟨u,hu⟩:∃u,u=hi*2^s+lo/2^(64-s):=⟨_,rfl⟩;obtain⟨t,ht⟩:∃t,t=lo*2^s%18446744073709551616:=⟨_,rfl⟩;have hv:t<18446744073709551616:=by rw[ht];exact xbi _<|by decide
  rw[<-hu,<-ht];have hd:u<Y:=by lia
  have ho:(hi*18446744073709551616+lo)*2^s=u*18446744073709551616+t:=by
   rw[xaV,w1,hu,<-ht,xaV,Nat.mul_right_comm];lia
  have he:Y=Y/4294967296*4294967296+Y%4294967296:=by lia
  have a1:2147483648<=Y/4294967296:=by lia
  have a2:Y/4294967296<4294967296:=by lia
  have a0:Y%4294967296<4294967296:=by lia
  have step:∀{u w:Nat},u<Y->w<4294967296->(u*4294967296+w)/(Y/4294967296*4294967296+Y%4294967296)=(u*4294967296+w)/Y:=by intro u w _ _;rw[<-he]
  have ew:Y/2^32=Y/4294967296:=rfl;have et:t/2^32=t/4294967296:=rfl;rw[ew,et,yJ];have m15:∀{u:Nat},u<Y->(u+18446744073709551616-u/(Y/4294967296)*(Y/4294967296)%18446744073709551616)%18446744073709551616=u%(Y/4294967296):=by
   intro u hu;have h1:=xbB u<|Y/4294967296;rw[xaU]at h1;have h2:u/(Y/4294967296)*(Y/4294967296)<=u:=by lia
   rw[xar (show u/(Y/4294967296)*(Y/4294967296)<18446744073709551616 by lia)];lia
  have body:∀{q r w:Nat},q<18446744073709551616->r<4294967296->w<4294967296->(q*(Y%4294967296)<18446744073709551616\/4294967296<=q)->∀(A B C:Option Nat),(4294967296<=r+Y/4294967296->A=some (q-1))->(¬4294967296<=r+Y/4294967296->A=B)->C=some q->
   (if((4294967296:Nat):Int)<=(q:Int)then A else if(((4294967296*r%18446744073709551616+w)%18446744073709551616:Nat):Int)<((q*(Y%4294967296)%18446744073709551616:Nat):Int)then A else C)=
   if 4294967296<=q then(if 4294967296<=r+Y/4294967296 then some (q-1)else B)else if 4294967296*r+w<q*(Y%4294967296)then(if 4294967296<=r+Y/4294967296 then some (q-1)else B)else some q:=by
   intro q r w hq hr hw hg A B C h1 h2 h3;have hA:A=if 4294967296<=r+Y/4294967296 then some (q-1)else B:=by
    split
    ·next h=>exact h1 h
    ·next h=>exact h2 h
   rw[<-hA,h3];by_cases hb:4294967296<=q
   ·rw[zN,iq hb]
   ·have e3:(q*(Y%4294967296))%18446744073709551616=q*(Y%4294967296):=xar<|hg.resolve_right hb;have e4:(4294967296*r%18446744073709551616+w)%18446744073709551616=4294967296*r+w:=by lia
    rw[zy,ir hb,e3,e4];by_cases h4:4294967296*r+w<q*(Y%4294967296)
    ·rw[zN,iq h4]
    ·rw[zy,ir h4]
  have L0:zg (qE fu (Y/4294967296) (Y%4294967296)<|t/4294967296) fu (u/(Y/4294967296),u%(Y/4294967296))=some ((u*4294967296+t/4294967296)/Y):=by
   rw[<-step hd (by lia:t/4294967296<4294967296)];refine tL (fun q r=>(q,r)) (fun s=>2-s.2/2147483648) (fun _ _=>rfl) (w:=t/4294967296) a1 a2 a0 (by rw[<-he];exact hd) (by lia) hf ?_;intro q r L hq hr hg;have e1:(r+Y/4294967296)%18446744073709551616=r+Y/4294967296:=by lia
   by_cases hc:q=0
   ·subst hc;unfold qE;simp only[nm,xcv,Nat.zero_mod];rw[zy,zy,zy,zy]
   have e2:(q+18446744073709551616-1)%18446744073709551616=q-1:=by lia
   refine Eq.trans ?_<|body hq hr (by lia) hg (if 4294967296<=r+Y/4294967296 then some (q-1)else L (q-1,r+Y/4294967296)) _ _ (fun h=>iq h) (fun h=>ir h) rfl;unfold qE;simp only[nm,e1,e2];have e5:∀(X:Option Nat),(if((4294967296:Nat):Int)<=((r+Y/4294967296:Nat):Int)then some (q-1)else X)=if 4294967296<=r+Y/4294967296 then some (q-1)else X:=by
    intro X;by_cases h:4294967296<=r+Y/4294967296
    ·rw[zN,iq h]
    ·rw[zy,ir h]
   rw[e5]
  have rem:∀{x q:Nat},x/Y=q->∀{m:Nat},m=x%18446744073709551616->(m+18446744073709551616-q*Y%18446744073709551616)%18446744073709551616=x%Y:=by
   intro x q hq m hm;have h1:=xbB x Y;rw[hq,xaU]at h1;have h2:=xbi x (show 0<Y by lia);lia
  rw[m15 hd,za L0,rem rfl (x:=u*4294967296+t/4294967296)<|by lia];obtain⟨u2,hj⟩:∃u2,u2=(u*4294967296+t/4294967296)%Y:=⟨_,rfl⟩;have ha:u2<Y:=by rw[hj];exact xbi _<|by lia
  rw[<-hj,yJ,m15 ha];have L1:zg (qA fu (Y/4294967296) (Y%4294967296)<|t%4294967296) fu (u2%(Y/4294967296),u2/(Y/4294967296))=some ((u2*4294967296+t%4294967296)/Y):=by
   rw[<-step ha (by lia:t%4294967296<4294967296)];refine tL (fun q r=>(r,q)) (fun s=>2-s.1/2147483648) (fun _ _=>rfl) (w:=t%4294967296) a1 a2 a0 (by rw[<-he];exact ha) (by lia) hf ?_;intro q r L hq hr hg;have e1:(r+Y/4294967296)%18446744073709551616=r+Y/4294967296:=by lia
   by_cases hc:q=0
   ·subst hc;unfold qA;simp only[nm,xcv,Nat.zero_mod];rw[zy,zy,zy,zy]
   have e2:(q+18446744073709551616-1)%18446744073709551616=q-1:=by lia
   refine Eq.trans ?_<|body hq hr (by lia) hg (if 4294967296<=r+Y/4294967296 then some (q-1)else L (r+Y/4294967296,q-1)) _ _ (fun h=>iq h) (fun h=>ir h) rfl;unfold qA;simp only[nm,e1,e2];have e5:∀(X:Option Nat),(if((4294967296:Nat):Int)<=((r+Y/4294967296:Nat):Int)then some (q-1)else X)=if 4294967296<=r+Y/4294967296 then some (q-1)else X:=by
    intro X;by_cases h:4294967296<=r+Y/4294967296
    ·rw[zN,iq h]
    ·rw[zy,ir h]
   rw[e5]
  rw[za L1,rem rfl (x:=u2*4294967296+t%4294967296)<|by lia];have hl:=JU (b:=4294967296) (v1:=Y/4294967296) (v0:=Y%4294967296) (u:=u) (w:=t/4294967296) (by rw[<-he];exact hd);rw[step hd<|by lia]at hl;have hc:=JU (b:=4294967296) (v1:=Y/4294967296) (v0:=Y%4294967296) (u:=u2) (w:=t%4294967296) (by rw[<-he];exact ha);rw[step ha<|by lia]at hc;obtain⟨k1,k2⟩:=cF (x:=u) (b:=4294967296) (y:=Y) (w1:=t/4294967296) (w0:=t%4294967296) (by lia) (by decide) (by lia);rw[<-hj]at k1 k2;have eU:(u*4294967296+t/4294967296)*4294967296+t%4294967296=(hi*18446744073709551616+lo)*2^s:=by rw[ho];lia
  rw[eU,hY,xfB _ _ hp,<-hY]at k1;rw[eU,hY,xeD,<-hY]at k2;rw[k1,<-k2,Nat.mul_div_cancel _ hp];rw[zjH hl hc]
end
section
variable{x fu s:Nat}{a:List Nat}
theorem N7{m:Nat}{l:List Nat}:(xaf (m+1) 0++l).set m x=xaf m 0++(x::l):=by
 rw[List.replicate_succ',xaj];rw[xfA _ _<|by simp];simp
theorem BF(k n:Nat):xY (k+1) n=n%18446744073709551616::xY k (n/18446744073709551616):=rfl
theorem eN{q r:Nat}(h:r<18446744073709551616):(q*18446744073709551616+r)%18446744073709551616=r/\(q*18446744073709551616+r)/18446744073709551616=q:=by lia
theorem gR(A m:Nat):A/18446744073709551616^m=A/18446744073709551616^(m+1)*18446744073709551616+A/18446744073709551616^m%18446744073709551616:=by grind [W8]
theorem pJ(ha:zm a)(hx:x<18446744073709551616)(h0:0<x)(hl:a.length<=1000000)(hf:2000000<fu):Xp fu a x=some (yC<|nv a/x,nv a%x):=by
 unfold Xp;rw[yE,yJ,zf,zb];have hA:=qT ha;have key:zg (QJ fu a x) fu (0,(a.length:Int)-1,xaf a.length 0)=some (nv a%x,xY a.length<|nv a/x):=by
  refine zx (fun s:Nat×Int×List Nat=>∃m:Nat,m<=a.length/\s=(nv a/18446744073709551616^m%x,(m:Int)-1,xaf m 0++xY (a.length-m) (nv a/18446744073709551616^m/x))) (fun s=>(s.2.1+1).toNat) _ ?_ _ _ ⟨a.length,xab _,?_⟩ (by show((a.length:Int)-1+1).toNat<fu;lia)
  ·rintro s L ⟨m,hm,rfl⟩ ih;unfold QJ;simp only
   cases m with
   |zero=>
    rw[zy,xeg,xdU];simp
   |succ m=>
    have e:((m+1:Nat):Int)-1=(m:Int):=by lia
    have hb:=ha.getD m;have hd:nv a/18446744073709551616^(m+1)%x<x:=xbi _ h0;have hy:a.getD m 0=nv a/18446744073709551616^m%18446744073709551616:=VK ha m;have hs:=gR (nv a) m;rw[<-hy]at hs;rw[zN,e,yj,zf,za<|Xa hb hx hd<|by lia];obtain⟨k1,k2⟩:=cF (x:=0) (b:=18446744073709551616) (y:=x) (w1:=nv a/18446744073709551616^(m+1)) (w0:=a.getD m 0) h0 (by decide) hb;rw[xcv,xaN,<-hs]at k1 k2;rw[zp (by simp;lia),zf,zb,N7,<-k2];refine ih _ ⟨m,by lia,?_⟩ (by show((m:Int)-1+1).toNat<(((m+1:Nat):Int)-1+1).toNat;lia);have hq:(nv a/18446744073709551616^(m+1)%x*18446744073709551616+a.getD m 0)/x<18446744073709551616:=by
     rw[xbd h0];have:(nv a/18446744073709551616^(m+1)%x+1)*18446744073709551616<=x*18446744073709551616:=xaw _ hd;rw[xaU 18446744073709551616 x];lia
    have e2:a.length-m=(a.length-(m+1))+1:=by lia
    rw[k1,e2,BF];congr 3;rw[(eN hq).1,(eN hq).2]
  ·rw[xbv hA,Nat.zero_div,Nat.zero_mod,xda];simp[xY]
 rw[za key];have hc:nv a/x<18446744073709551616^a.length:=xba (xea _ _) hA;simp only;rw[za (yV (xG _ _) (by rw[zQ];lia)<|by rw[zQ];lia),ji,xar hc]
theorem By(hs:s<=64):(18446744073709551616:Nat)=2^(64-s)*2^s:=by rw[<-xbZ,show 64-s+s=64 by lia]
theorem HS{y c:Nat}(hy:y<18446744073709551616)(hs:s<64)(hc:c<2^s):y*2^s%18446744073709551616|||c=(y*2^s+c)%18446744073709551616/\y/2/2^(63-s)=(y*2^s+c)/18446744073709551616/\(y*2^s+c)/18446744073709551616<2^s:=by
 obtain⟨w1,w2⟩:=FK hy<|xcS hs;have hp:0<2^s:=xbk (by decide);have e:=By<|xcS hs;have e3:y*2^s%18446744073709551616=y%2^(64-s)*2^s:=by rw[e,xeD]
 have h1:y%2^(64-s)*2^s+2^s<=18446744073709551616:=by
  rw[e];have:=xaw (2^s)<|xbi y<|xbk (n:=64-s) (show 0<2 by decide);rw[Nat.succ_mul]at this;exact this
 have e4:y/2/2^(63-s)=y/2^(64-s):=by rw[xaL,show 64-s=63-s+1 by lia,xbb,xaU 2]
 refine⟨?_,?_,?_⟩
 ·rw[e3,Lz hc];rw[e3]at w1;generalize y%2^(64-s)*2^s=A at*
  generalize y*2^s=Z at*
  generalize y/2^(64-s)=W at*
  lia
 ·rw[e4];rw[e3]at w1;generalize y%2^(64-s)*2^s=A at*
  generalize y*2^s=Z at*
  generalize y/2^(64-s)=W at*
  lia
 ·rw[e3]at w1;generalize y%2^(64-s)*2^s=A at*
  generalize y*2^s=Z at*
  generalize y/2^(64-s)=W at*
  lia
theorem cn{a:List Nat}{s:Nat}(ha:zm a)(hs:s<64):∀k,(xZ (JN a<|2^s) k).2<2^s
 |0=>xbk<|by decide
 |k+1=>(HS (ha.getD k) hs<|cn ha hs k).2.2
theorem pB:(2:Nat)^64=18446744073709551616:=by decide
theorem WO{n:Nat}(ha:zm a)(hl:a.length<=1000000:=by lia)(hn:n<=262144:=by lia)(hf:2000000<fu:=by lia):Yx fu a (n:Int)=some (yC<|nv a*2^n,0):=by
 unfold Yx;obtain⟨s,hs⟩:∃s,s=n%64:=⟨_,rfl⟩;have hb:s<64:=by lia
 rw[zy,zy,za<|qK (step:=JN a<|2^s) (by lia) (by lia) ?_]
 ·have he:=cn ha hb a.length;have hd:2^s<18446744073709551616:=by rw[<-pB];exact xeM (by decide) hb
  have e1:xdd (n:Int) 64=((n/64:Nat):Int):=rfl;simp only;rw[wC (by have:=xI (JN a<|2^s) a.length;simp[this];lia),zf,wC (by decide),e1,zb,GJ<|by lia];rw[za (W9 (by lia)<|by rw[zQ];lia),za (yV ((zm.replicate _).append<|xG _ _) (by simp[zQ];lia)<|by simp[zQ];lia),rJ,ji,xar<|tI ha hd];congr 3;rw[<-pB,<-xdf,xaU<|2^_,xaX,<-xbZ];congr 2;lia
 ·intro k hk;have hc:=cn ha hb k;obtain⟨l1,l2,l3⟩:=HS (ha.getD k) hb hc;unfold KE;have e1:xcc (n:Int) 64=((n%64:Nat):Int):=rfl;have m1:min (((1:Nat):Int)).toNat 64=1:=by decide
  have m2:min ((n%64:Nat):Int).toNat 64=s:=by lia
  have m3:(63:Int)-((n%64:Nat):Int)=((63-s:Nat):Int):=by lia
  have m4:min ((63-s:Nat):Int).toNat 64=63-s:=by lia
  rw[zp hk,zf,wC (by decide),zf,e1,yJ,zf,m2,zf,zp hk,zf,zf,m1,wC (by decide),zf,m3,zb,yJ,zf,m4,l1];rw[show(2:Nat)^1=2 from rfl,l2];rfl
theorem Bf{step:Nat->Nat->Nat×Nat}{X:Nat}(h:∀k,step k 0=(X/18446744073709551616^k%18446744073709551616,0)):∀n,xZ step n=(xY n X,0)
 |0=>rfl
 |n+1=>by
  have ih:=Bf h n;unfold xZ;rw[ih,h,Ja]
theorem zac{A k:Nat}(hs:s<64):A/18446744073709551616^k%18446744073709551616/2^s|||A/18446744073709551616^(k+1)%18446744073709551616*2%18446744073709551616*2^(63-s)%18446744073709551616=A/2^s/18446744073709551616^k%18446744073709551616:=by
 have e:=By<|xcS hs;have hp:0<2^s:=xbk (by decide);have ha:0<2^(64-s):=xbk (by decide);have h1:=gR A k;have e0:A/18446744073709551616^(k+1)=A/18446744073709551616^k/18446744073709551616:=by rw[xbb,xaL]
 rw[xaL,xaU<|2^s,<-xaL];rw[e0]at h1⊢;generalize A/18446744073709551616^k=X at*
 have e1:X/18446744073709551616%18446744073709551616*2%18446744073709551616*2^(63-s)%18446744073709551616=X/18446744073709551616%2^s*2^(64-s):=by
  rw[Nat.mod_mul_mod,xaX,<-xel,show(63-s).succ=64-s by lia];rw[Nat.mod_mul_mod];generalize X/18446744073709551616=V;conv=>lhs;rw[e,xaU (2^(64-s))<|2^s]
  rw[xeD]
 have e2:X%18446744073709551616/2^s<2^(64-s):=by
  rw[xbd hp,<-e];exact xbi _<|by decide
 rw[e1,Nat.or_comm,Lz e2];have e3:X/2^s=X/18446744073709551616*2^(64-s)+X%18446744073709551616/2^s:=by
  have h2:=xbB X 18446744073709551616;have h3:X=X%18446744073709551616+2^s*(X/18446744073709551616*2^(64-s)):=by
   have:2^s*(X/18446744073709551616*2^(64-s))=18446744073709551616*(X/18446744073709551616):=by rw[e,xaU<|X/_,<-xaX,xaU<|2^s]
   lia
  conv=>lhs;rw[h3]
  rw[xcC _ _ hp];lia
 rw[e3];have e4:X/18446744073709551616*2^(64-s)=X/18446744073709551616%2^s*2^(64-s)+18446744073709551616*(X/18446744073709551616/2^s):=by
  have h2:=xbB (X/18446744073709551616)<|2^s;conv=>lhs;rw[<-h2]
  rw[xaV,e,xaU (2^(64-s))<|2^s,xaX,xaX,xaU (2^(64-s))<|_/_];lia
 have h5:X/18446744073709551616%2^s*2^(64-s)+2^(64-s)<=18446744073709551616:=by
  generalize X/18446744073709551616=V;rw[e,xaU (2^(64-s))<|2^s];have:=xaw (2^(64-s))<|xbi V hp;rw[Nat.succ_mul]at this;exact this
 have h6:X/18446744073709551616%2^s*2^(64-s)+X%18446744073709551616/2^s<18446744073709551616:=by
  clear e4 e3 e1 e0 h1;generalize X/18446744073709551616%2^s*2^(64-s)=Z at*
  generalize X%18446744073709551616/2^s=V at*
  lia
 rw[e4,Nat.add_right_comm,xbV,xar h6]
theorem gH{n:Nat}(ha:zm a)(hl:a.length<=1000000)(hn:n<=1000000000)(hf:2000000<fu):QY fu a (n:Int)=some (yC<|nv a/2^n):=by
 unfold QY;have e0:max (n:Int) 0=(n:Int):=by lia
 have e1:xdd (n:Int) 64=((n/64:Nat):Int):=rfl;have e2:xcc (n:Int) 64=((n%64:Nat):Int):=rfl;have hA:=qT ha;have hb:2^n=18446744073709551616^(n/64)*2^(n%64):=by
  rw[<-pB,<-xdf,<-xbZ];congr 1;lia
 rw[zf,e0,wC (by decide),e1,zb];by_cases h:a.length<=n/64
 ·rw[zN];have:nv a/2^n=0:=by rw[hb,<-xaL,xbv<|xan hA<|xay (by decide) h,Nat.zero_div]
  rw[this];rfl
 ·rw[zy,wC (by decide),zb,yE,yJ,zf,wC (by decide),zf,e2];have hd:=ha.drop<|n/64;have hv:nv (a.drop<|n/64)=nv a/18446744073709551616^(n/64):=C2 ha _;obtain⟨D,hD⟩:∃D,D=a.drop (n/64):=⟨_,rfl⟩;rw[<-hD]at hd hv⊢;have he:D.length<=1000000:=by rw[hD,xbO];lia
  obtain⟨s,hs⟩:∃s,s=n%64:=⟨_,rfl⟩;have hc:s<64:=by lia
  have qj:=Bf (step:=fun k _=>(nv D/2^s/18446744073709551616^k%18446744073709551616,0)) (X:=nv D/2^s)<|fun _=>rfl;rw[<-hs,za<|qK (step:=fun k _=>(nv D/2^s/18446744073709551616^k%18446744073709551616,0)) (by lia) (by lia) ?_]
  ·rw[qj];simp only;rw[za (yV (xG _ _) (by rw[zQ];lia)<|by rw[zQ];lia),ji,xar<|xba (xea _ _)<|qT hd,hv,hb,<-xaL,hs]
  ·intro k hk;rw[qj];unfold Uf;have m1:min (((1:Nat):Int)).toNat 64=1:=by decide
   have m2:min (s:Int).toNat 64=s:=by lia
   have m3:(63:Int)-(s:Int)=((63-s:Nat):Int):=by lia
   have m4:min ((63-s:Nat):Int).toNat 64=63-s:=by lia
   have m5:(k:Int)+1=((k+1:Nat):Int):=by lia
   rw[zp hk,zf,yJ,zf,m2,m5,zb,za (Xc D<|by lia),zf,m1,m3,zb,yJ,zf,m4,zf,VK hd,VK hd,show(2:Nat)^1=2 from rfl,zac hc]
end
section
variable{fu u v1 v0 v d x:Nat}
theorem LR{w:Nat}(h1:9223372036854775808<=v1)(h2:v1<18446744073709551616)(h0:v0<18446744073709551616)(hu:u<v1*18446744073709551616+v0)(hw:w<18446744073709551616)(hq:u/v1<18446744073709551616)(hf:10<fu):
 zg (QF fu w v1 v0) fu (u/v1,u%v1)=some ((u*18446744073709551616+w)/(v1*18446744073709551616+v0)):=by
 have hv:0<v1*18446744073709551616+v0:=by lia
 refine zx (fun s:Nat×Nat=>∃q r,s=(q,r)/\q<18446744073709551616/\r<18446744073709551616/\q*v1+r=u/\(u*18446744073709551616+w)/(v1*18446744073709551616+v0)<=q) (fun s=>2-s.2/9223372036854775808) _ ?_ _ _ ⟨_,_,rfl,hq,?_,?_,?_⟩ (by show 2-u%v1/9223372036854775808<fu;lia)
 ·rintro s L ⟨q,r,rfl,hq,hr,ha,hb⟩ ih;have hz:q*v0<18446744073709551616*18446744073709551616:=xdK hq h0;have dec:∀(hc:18446744073709551616*r+w<q*v0),(if((0:Nat):Int)<(((r+v1+0)/18446744073709551616:Nat):Int)then some ((q+18446744073709551616-1)%18446744073709551616)else L ((q+18446744073709551616-1)%18446744073709551616,(r+v1+0)%18446744073709551616))=some ((u*18446744073709551616+w)/(v1*18446744073709551616+v0)):=by
   intro hc;obtain⟨d1,d2,d3⟩:=zbz hv ha hc;have e2:(q+18446744073709551616-1)%18446744073709551616=q-1:=by lia
   rw[e2];by_cases hd:18446744073709551616<=r+v1
   ·rw[zN,<-gQ hv d3 d1<|LD (Mr hu h0 d3 hd) h0 hd]
   ·rw[zy];exact ih _ ⟨_,_,rfl,by lia,by lia,by rw[show(r+v1+0)%18446744073709551616=r+v1 by lia];exact d3,d1⟩ (by show 2-(r+v1+0)%18446744073709551616/9223372036854775808<2-r/9223372036854775808;lia)
  unfold QF;simp only;rw[za<|Y4 hq h0];simp only[nm];by_cases c1:q*v0/18446744073709551616<r
  ·rw[zN,<-gQ hv ha hb]
  ·rw[zy];by_cases c2:q*v0/18446744073709551616=r
   ·rw[zN];by_cases c3:q*v0%18446744073709551616<=w
    ·rw[zN,<-gQ hv ha hb]
    ·rw[zy,yJ];exact dec<|by lia
   ·rw[zy,yJ];exact dec<|by lia
 ·have:=xbi u (show 0<v1 by lia);lia
 ·rw[xaU];exact xbB u v1
 ·rw[xcw<|by lia];have h3:(u*18446744073709551616+w)/(v1*18446744073709551616+v0)*(v1*18446744073709551616+v0)<=u*18446744073709551616+w:=xdo _ _;generalize(u*18446744073709551616+w)/(v1*18446744073709551616+v0)=Q at*
  rw[xbh,<-xaX]at h3;generalize Q*v1=A at*
  lia
theorem sF{u2 u1 u0:Nat}(h1:9223372036854775808<=v1)(h2:v1<18446744073709551616)(h0:v0<18446744073709551616)(b1:u1<18446744073709551616)(b0:u0<18446744073709551616)(hf:10<fu):
 VR fu u2 u1 u0 v1 v0=some (if v1<=u2 then 18446744073709551615 else((u2*18446744073709551616+u1)*18446744073709551616+u0)/(v1*18446744073709551616+v0)):=by
 unfold VR;by_cases h:v1<=u2
 ·rw[zN,iq h]
 ·have hq:(u2*18446744073709551616+u1)/v1<18446744073709551616:=by
   rw[xbd<|by lia];have:(u2+1)*18446744073709551616<=v1*18446744073709551616:=xaw _ (by lia);rw[xaU 18446744073709551616 v1];lia
  rw[zy,ir h,za<|Xa b1 h2 (by lia) hf];simp only;rw[za<|LR h1 h2 h0 ?_ b0 hq hf];have:(u2+1)*18446744073709551616<=v1*18446744073709551616:=xaw _ (by lia);lia
theorem zeA{q:Nat}(hd:0<d)(hv:0<v/d)(h:q*v<=u):q<=u/d/(v/d):=by
 refine(xcw hv).2<|(xcw hd).2 ?_;refine xam ?_ h;rw[xaX];exact xaD _<|xdo v d
theorem zef{B:Nat}(hd:0<d)(hx:x*(v/d)<=u/d)(hB:x<=B)(hv:B*d<=v):x*v<=u+v:=by
 have h1:x*v<=x*(v/d*d+d):=xaD _ (by have h:=xbB v d;have:=xbi v hd;rw[xaU d]at h;lia);have h2:x*(v/d*d+d)=x*(v/d)*d+x*d:=by rw[xbh,xaX]
 have h3:x*(v/d)*d<=u:=xam (xaw _ hx)<|xdo u d;have h4:x*d<=B*d:=xaw _ hB;lia
theorem Nx{U V D:Nat}(hD:0<D)(hV:9223372036854775808*(18446744073709551616*D)<=V)(he:V<18446744073709551616*(18446744073709551616*D))(hU:U<V*18446744073709551616)(hx:x=if V/D/18446744073709551616<=U/D/18446744073709551616/18446744073709551616 then 18446744073709551615 else U/D/(V/D)):U/V<=x/\x<=U/V+1/\x<18446744073709551616:=by
 have ha:0<V:=by
  have:0<9223372036854775808*(18446744073709551616*D):=by lia
  lia
 have hq:U/V<18446744073709551616:=by rw[xbd ha,xaU];exact hU
 have hf:9223372036854775808*18446744073709551616<=V/D:=by rw[xcw hD,xaX];exact hV
 have up:∀{x:Nat},x*V<=U+V->x<=U/V+1:=fun{x} h=>by
  have:x<=(U+V)/V:=(xcw ha).2 h;rw[Nat.add_div_right _ ha]at this;exact this
 by_cases h:V/D/18446744073709551616<=U/D/18446744073709551616/18446744073709551616
 ·rw[iq h]at hx;subst hx;refine⟨by lia,up ?_,by decide⟩;have e1:V/D/18446744073709551616=V/(D*18446744073709551616):=xaL ..;have e2:U/D/18446744073709551616/18446744073709551616=U/(D*18446744073709551616*18446744073709551616):=by rw[xaL,xaL,<-xaX]
  rw[e1,e2]at h;have hE:0<D*18446744073709551616:=by lia
  have k1:=xdo U<|D*18446744073709551616*18446744073709551616;have k2:V<(V/(D*18446744073709551616)+1)*(D*18446744073709551616):=by
   have h1:=xbB V<|D*18446744073709551616;have h2:=xbi V hE;rw[xaV,xcm,xaU];lia
  have k3:V/(D*18446744073709551616)*(D*18446744073709551616*18446744073709551616)<=U:=xam (xaw _ h) k1;rw[<-xaX]at k3;have k4:18446744073709551615*V<=18446744073709551615*((V/(D*18446744073709551616)+1)*(D*18446744073709551616)):=xaD _<|xcS k2;rw[xaV,xcm]at k4;generalize V/(D*18446744073709551616)*(D*18446744073709551616)=A at*
  lia
 ·rw[ir h]at hx;have hc:x<=18446744073709551616:=by
   rw[hx];have hb:U/D/18446744073709551616/18446744073709551616<V/D/18446744073709551616:=xdz h;have h1:U/D<(V/D)*18446744073709551616+18446744073709551616*18446744073709551616:=by lia
   have:U/D<=18446744073709551616*(V/D)+(V/D):=by lia
   refine Nat.le_of_lt_succ<|(xbd<|by lia).2 ?_;rw[Nat.succ_mul];lia
  have hd:U/V<=x:=by
   rw[hx];exact zeA hD (by lia)<|xdo U V
  have hb:x<18446744073709551616:=by
   rw[hx,xbd<|by lia];have hb:U/D/18446744073709551616/18446744073709551616<V/D/18446744073709551616:=xdz h;lia
  refine⟨hd,up<|zef hD (B:=18446744073709551616) ?_ hc ?_,hb⟩
  ·rw[hx];exact xdo _ _
  ·lia
end
section
variable{fu V k y:Nat}{s:Int}{v t:List Nat}
theorem Ax{n P x0:Nat}(hv:zm v)(ha:v.length=n)(hV:nv v=V)(ht:zm t)(hi:t.length=n+1)(hP:nv t=P)(hc:0<V)(h1:P/V<=x0)(h2:x0<=P/V+1)(h3:x0<18446744073709551616)(hn:n<=500000)(hf:2000000<fu):
 zg (U5 fu v) fu (s,(n:Int),x0,t)=some (s,(n:Int),P/V,t):=by
 have hd:V<18446744073709551616^n:=by rw[<-hV,<-ha];exact qT hv
 refine zx (fun q:Int×Int×Nat×List Nat=>∃x,q=(s,(n:Int),x,t)/\P/V<=x/\x<=P/V+1/\x<18446744073709551616) (fun q=>q.2.2.1-P/V) _ ?_ _ _ ⟨x0,rfl,h1,h2,h3⟩ (by show x0-P/V<fu;lia);rintro q L ⟨x,rfl,g1,g2,g3⟩ ih;unfold U5;simp only;have hr:V*x<18446744073709551616^(n+1):=by
  rw[xbb]
  calc V*x<=V*18446744073709551616:=xaD _ (by lia)
   _<_:=xbW hd<|by decide
 rw[za<|Jo hv g3,za (Jt (xG _ _) ht<|by rw[zQ];lia),ji,hV,ha,xar hr,hP];have hj:=xbB P V;have hk:=xbi P hc;by_cases h:x=P/V
 ·have hl:V*x<=P:=by rw[h];lia
  have he:¬(0:Int)<qU ((V*x:Nat):Int) (P:Int):=by
   rcases xce (V*x) P with hh|hh
   ·rw[vQ<|by lia];decide
   ·rw[jD<|by lia];decide
  rw[ir he,h]
 ·have hx:x=P/V+1:=by lia
  have hg:P<V*x:=by rw[hx,xbh,xcG];lia
  have hm:0<x:=by rw[hx];exact Nat.succ_pos _
  have hb:(P:Int)<((V*x:Nat):Int):=Int.ofNat_lt.2 hg;rw[w4 hb,iq (by decide),zf,show(x+18446744073709551616-1)%18446744073709551616=x-1 by lia];exact ih _ ⟨x-1,rfl,by lia,by lia,by lia⟩ (by show x-1-P/V<x-P/V;lia)
theorem zdc{j:Nat}(ht:zm t)(hl:t.length<=k)(hj:k<=j):(t++xaf j 0).take k=xY k (nv t):=by
 refine iW ((ht.append<|zm.replicate _).take _) (xG _ _) (by rw[zQ,xav,xax,xaZ];lia) ?_;rw[oD<|ht.append<|zm.replicate _,jt,Wz,xcN,xbT,ji]
theorem Sm{n lq U0:Nat}{L:List Nat×Int×List Nat×List Nat->Option (List Nat×List Nat)}(hv:zm v)(hl:v.length=n)(hV:nv v=V)(hQ:2<=n)(hc:9223372036854775808*18446744073709551616^(n-1)<=V)(ht:zm t)(hR:t.length=lq+n)(hk:k<lq)(hb:lq+n<=500000)(hf:2000000<fu)(hT:nv t=U0/18446744073709551616^(k+1)%V*18446744073709551616^(k+1)+U0%18446744073709551616^(k+1)):
 ∃t',zm t'/\t'.length=lq+n/\nv t'=U0/18446744073709551616^k%V*18446744073709551616^k+U0%18446744073709551616^k/\
  Y3 fu s v L (v,(k:Int),t,xaf (k+1) 0++xY (lq-(k+1)) (U0/18446744073709551616^(k+1)/V))=L (v,(k:Int)-1,t',xaf k 0++xY (lq-k) (U0/18446744073709551616^k/V)):=by
 have hd:V<18446744073709551616^n:=by rw[<-hV,<-hl];exact qT hv
 have hu:0<18446744073709551616^k:=xbk (by decide);have he:0<V:=by
  have:0<18446744073709551616^(n-1):=xbk (by decide);lia
 obtain⟨T,hn⟩:∃T,T=U0/18446744073709551616^(k+1)%V:=⟨_,rfl⟩;obtain⟨ak,ho⟩:∃ak,ak=U0/18446744073709551616^k%18446744073709551616:=⟨_,rfl⟩;have hp:ak<18446744073709551616:=by rw[ho];exact xbi _<|by decide
 have hH:T<V:=by rw[hn];exact xbi _ he
 obtain⟨P,hP⟩:∃P,P=T*18446744073709551616+ak:=⟨_,rfl⟩;have hw:=gR U0 k;rw[<-ho]at hw;obtain⟨k1,k2⟩:=cF (x:=0) (b:=18446744073709551616) (y:=V) (w1:=U0/18446744073709551616^(k+1)) (w0:=ak) he (by decide) hp;rw[xcv,xaN,<-hw,<-hn,<-hP]at k1 k2;have hx:U0%18446744073709551616^(k+1)=ak*18446744073709551616^k+U0%18446744073709551616^k:=by rw[xbb,Nat.mod_mul,ho,xaU];lia
 have hm:P<V*18446744073709551616:=by
  have:(T+1)*18446744073709551616<=V*18446744073709551616:=xaw _ hH;lia
 have hy:nv t=P*18446744073709551616^k+U0%18446744073709551616^k:=by rw[hT,<-hn,hx,hP,xaV,xbb,xaU<|18446744073709551616^k,xaX];lia
 have hA:=xbi U0 hu;have hq:nv t/18446744073709551616^k=P:=by rw[hy,xdD,Nat.add_mul_div_right _ _ hu,xbv hA,xaN]
 have hI:nv t%18446744073709551616^k=U0%18446744073709551616^k:=by rw[hy,xdD,Nat.add_mul_mod_self_right,Nat.mod_mod]
 obtain⟨D,hD⟩:∃D,D=18446744073709551616^(n-2):=⟨_,rfl⟩;have hJ:0<D:=by rw[hD];exact xbk<|by decide
 have en1:18446744073709551616^(n-1)=18446744073709551616*D:=by rw[hD,<-xel,show(n-2).succ=n-1 by lia]
 have en:18446744073709551616^n=18446744073709551616*(18446744073709551616*D):=by rw[<-en1,<-xel,show(n-1).succ=n by lia]
 rw[en1]at hc;have ha:=hd;rw[en]at ha;have gt:∀j,t.getD (k+j) 0=P/18446744073709551616^j%18446744073709551616:=fun j=>by rw[VK ht,xbZ,<-xaL,hq]
 have gv:∀j,v.getD j 0=V/18446744073709551616^j%18446744073709551616:=fun j=>by rw[VK hv,hV]
 have ePn:P/18446744073709551616^n=P/D/18446744073709551616/18446744073709551616:=by rw[en,xaL,xaL];congr 1;lia
 have ePn1:P/18446744073709551616^(n-1)=P/D/18446744073709551616:=by rw[en1,xaL,xaU D]
 have eVn1:V/18446744073709551616^(n-1)=V/D/18446744073709551616:=by rw[en1,xaL,xaU D]
 have hK:P/D/18446744073709551616/18446744073709551616<18446744073709551616:=by
  rw[<-ePn,xbd (xbk<|by decide),xaU];exact Nat.lt_trans hm<|xbW hd<|by decide
 have hB:V/D/18446744073709551616<18446744073709551616:=by
  rw[<-eVn1,xbd (xbk<|by decide),en1];exact ha
 have hr:9223372036854775808<=V/D/18446744073709551616:=by
  rw[<-eVn1,xcw (xbk<|by decide),en1];exact hc
 have m1:t.getD (k+n) 0=P/D/18446744073709551616/18446744073709551616:=by rw[gt,ePn,xar hK]
 have m2:t.getD (k+n-1) 0=P/D/18446744073709551616%18446744073709551616:=by rw[show k+n-1=k+(n-1)by lia,gt,ePn1]
 have m3:t.getD (k+n-2) 0=P/D%18446744073709551616:=by rw[show k+n-2=k+(n-2)by lia,gt,<-hD]
 have m4:v.getD (n-1) 0=V/D/18446744073709551616:=by rw[gv,eVn1,xar hB]
 have m5:v.getD (n-2) 0=V/D%18446744073709551616:=by rw[gv,<-hD]
 have eg:((P/D/18446744073709551616/18446744073709551616*18446744073709551616+P/D/18446744073709551616%18446744073709551616)*18446744073709551616+P/D%18446744073709551616)/(V/D/18446744073709551616*18446744073709551616+V/D%18446744073709551616)=P/D/(V/D):=by
  generalize P/D=p;generalize V/D=w;rw[show(p/18446744073709551616/18446744073709551616*18446744073709551616+p/18446744073709551616%18446744073709551616)*18446744073709551616+p%18446744073709551616=p by lia,show w/18446744073709551616*18446744073709551616+w%18446744073709551616=w by lia]
 obtain⟨x0,hC⟩:∃x0,x0=if V/D/18446744073709551616<=P/D/18446744073709551616/18446744073709551616 then 18446744073709551615 else P/D/(V/D):=⟨_,rfl⟩;obtain⟨n1,n2,n3⟩:=Nx hJ hc ha hm hC;have hE:zm (xdt (k+n+1-k)<|xdA k t):=(ht.drop k).take _;have hg:(xdt (k+n+1-k)<|xdA k t).length=n+1:=by rw[xav,xbO];lia
 have hs:P<18446744073709551616^(n+1):=by
  rw[xbb];exact Nat.lt_trans hm<|xbW hd<|by decide
 have hi:nv (xdt (k+n+1-k)<|xdA k t)=P:=by rw[oD<|ht.drop k,C2 ht,hq,show k+n+1-k=n+1 by lia,xar hs]
 have hj:P/V<18446744073709551616:=by rw[xbd he,xaU];exact hm
 have hF:V*(P/V)<=P:=Nat.mul_div_le P V;have hG:nv (xY (n+1)<|V*(P/V))=V*(P/V):=by rw[ji,xar<|by lia]
 have hL:P-V*(P/V)=P%V:=by have:=xbB P V;lia
 have hN:=xbi P he;have hO:(yC<|P%V).length<=n:=(zJ _ _).2 (by lia);refine⟨xdt k t++xY (n+1) (P%V)++xdA (k+(n+1)) t,((ht.take _).append<|xG _ _).append<|ht.drop _,?_,?_,?_⟩
 ·rw[xax,xax,xav,zQ,xbO];lia
 ·have hz:nv (xdA (k+(n+1)) t)=0:=by rw[C2 ht,xbZ,<-xaL,hq,xbv hs]
  have hM:P%V<18446744073709551616^(n+1):=xba (Nat.mod_le _ _) hs;rw[jt,hz,xcN,xbT,jt,oD ht,hI,ji,xar hM,xav,show min k t.length=k by lia,<-k2,xaU];lia
 ·unfold Y3;simp only;have c1:(k:Int)+(v.length:Int)=((k+n:Nat):Int):=by lia
  have c2:((k+n:Nat):Int)-1=((k+n-1:Nat):Int):=by lia
  have c3:((k+n:Nat):Int)-2=((k+n-2:Nat):Int):=by lia
  have c4:(v.length:Int)-1=((n-1:Nat):Int):=by lia
  have c5:(v.length:Int)-2=((n-2:Nat):Int):=by lia
  have c6:((k+n:Nat):Int)+1=((k+n+1:Nat):Int):=by lia
  rw[zN,c1,zb,yj,zf,zb,c2,zb,yj,zf,zb,c3,zb,yj,zf,c4,zb,yj,zf,c5,zb,yj,zf];rw[m1,m2,m3,m4,m5,za (sF hr hB (xbi _<|by decide) (xbi _<|by decide) (xbi _<|by decide)<|by lia),eg,<-hC];rw[zb,c6,zb,yE,yE,wC ⟨by lia,by lia⟩,zf,wC (by rw[hg];simp;lia),zf,xbA];rw[hl,za<|Ax hv hl hV hE hg hi he n1 n2 n3 (by lia) hf];simp only;have c7:(n:Int)+1=((n+1:Nat):Int):=by lia
  rw[zp (by simp;lia),zf,N7,yE,yJ,za<|Jo hv hj,hl,hV,za (QD hE (xG _ _) (by lia) (by rw[zQ];lia) (by rw[hg,zQ];lia)<|by rw[hi,hG];exact hF),hi,hG,hL];rw[c7,zb,yE,yJ,zf,zb,yE,wC (by simp),zf,zdc (zu _) (by lia)<|xab _,z7,zf,zb];have ecp:bu k (t.length-k) t (xY (n+1)<|P%V)=xdt k t++xY (n+1) (P%V)++xdA (k+(n+1)) t:=by
   unfold bu;rw[zQ,show min (n+1) (t.length-k)=n+1 by lia,xaQ (l:=xY (n+1)<|P%V)<|by rw[zQ];exact xab _]
  rw[ecp];have e2:lq-k=(lq-(k+1))+1:=by lia
  have e3:xY (lq-k) (U0/18446744073709551616^k/V)=P/V::xY (lq-(k+1)) (U0/18446744073709551616^(k+1)/V):=by rw[e2,BF,k1,(eN hj).1,(eN hj).2]
  rw[e3]
theorem Mb(h:0<y):2^(bl y-1)<=y:=by
 refine xbw fun ha=> ?_;have h1:=Qe ha;have h2:1<=bl y:=by rw[JR h];lia
 lia
theorem zd4{n s:Nat}(hy:0<y)(hn:n=(yC y).length)(hs:s=64-bl ((yC y).getD (n-1) 0)):s<=63/\9223372036854775808*18446744073709551616^(n-1)<=y*2^s/\y*2^s<18446744073709551616^n/\(yC<|y*2^s).length=n:=by
 have hc:=qf hy;have hb:=Gh hy;rw[<-hn]at hb;have ht:(yC y).getD (n-1) 0≠0:=by rw[hn];exact Tr hy
 have ha:=(zu y).getD<|n-1;obtain⟨b1,_,_⟩:=HR (y:=(yC y).getD (n-1) 0) (by lia) ha;have b2:1<=bl ((yC y).getD (n-1) 0):=by rw[JR];lia
 have e1:18446744073709551616^n=2^bl y*2^s:=by
  rw[<-pB,<-xdf,<-xbZ];congr 1;lia
 have e2:9223372036854775808*18446744073709551616^(n-1)=2^(bl y-1)*2^s:=by
  rw[<-pB,<-xdf,<-xbZ,show(9223372036854775808:Nat)=2^63 by decide,<-xbZ];congr 1;lia
 have g1:9223372036854775808*18446744073709551616^(n-1)<=y*2^s:=by rw[e2];exact xaw _<|Mb hy
 have g2:y*2^s<18446744073709551616^n:=by rw[e1];exact xbW (sa y)<|xbk<|by decide
 refine⟨by lia,g1,g2,xcU ((zJ _ _).2 g2)<|xbw fun h=> ?_⟩;have:=(zJ (n-1)<|y*2^s).1 (by lia);have hp:0<18446744073709551616^(n-1):=xbk (by decide);lia
theorem dZ{a b:List Nat}(ha:zm a)(hb:zm b)(hC:a.length<=200000)(hD:b.length<=200000)(hf:3000000<=fu):
 Q0 fu a b=some (if nv b=0 then([],[],3)else(yC<|nv a/nv b,yC<|nv a%nv b,0)):=by
 unfold Q0;have h1:=yS ha;have h2:=yS hb;rw[za (xA ha (by lia)<|by lia),za<|xA hb (by lia)<|by lia];generalize nv a=x at*
 generalize nv b=y at*
 by_cases h0:y=0
 ·subst h0;rw[iq rfl];rfl
 ·have hE:=qf (n:=y) (by lia);rw[zy,za rfl,ir h0];simp only[xak,if_false];rw[za<|Jt (zu x)<|zu y,z7,z7];by_cases hg:x<y
  ·rw[vQ (by lia),iq (by decide),za rfl];simp only[if_true];rw[za<|YN<|zu x,z7,xbv hg,xar hg];rfl
  ·have hv:¬qU (x:Int) (y:Int)<0:=by
    rcases xce y x with h|h
    ·rw[w4<|by lia];decide
    ·rw[jD<|by lia];decide
   rw[ir hv,za rfl];simp only[xak,if_false];obtain⟨n,hn⟩:∃n,n=(yC y).length:=⟨_,rfl⟩;have hi:=(zu y).getD<|n-1;by_cases hA:n=1
   ·have hw:(yC y).getD 0 0=y:=by
     rw[Y0,xeg,xdU,xar];have:=(zJ 1 y).1 (by lia);simpa using this
    have hj:y<18446744073709551616:=by have:=(zJ 1 y).1 (by lia);simpa using this
    rw[zN,show(0:Int)=((0:Nat):Int)from rfl,yj,zf,hw,za (pJ (zu x) hj (by lia) (by lia)<|by lia),z7];simp only;have hm:=xbi x (show 0<y by lia);rw[za (yV (se<|by lia) (by simp)<|by simp;lia),NA]
   ·obtain⟨s,hs⟩:∃s,s=64-bl ((yC y).getD (n-1) 0):=⟨_,rfl⟩;obtain⟨s63,v1,v2,v3⟩:=zd4 (by lia) hn hs;obtain⟨V,hV⟩:∃V,V=y*2^s:=⟨_,rfl⟩;obtain⟨U,hU⟩:∃U,U=x*2^s:=⟨_,rfl⟩;obtain⟨lx,hx⟩:∃lx,lx=(yC x).length:=⟨_,rfl⟩;have hB:n<=lx:=by rw[hn,hx];exact Vi<|by lia
    have hk:x<18446744073709551616^lx:=(zJ lx x).1 (by lia);have hl:2^s<=9223372036854775808:=by
     rw[show(9223372036854775808:Nat)=2^63 by decide];exact xay (by decide) s63
    have hy:U<18446744073709551616^(lx+1):=by
     rw[hU,xbb];exact xan (xbW hk<|xbk<|by decide)<|xaD _<|by lia
    have hF:(yC U).length<=lx+1:=(zJ _ _).2 hy;rw[<-hV]at v1 v2 v3;have e1:((((yC y).length:Nat):Int))-1=((n-1:Nat):Int):=by lia
    rw[zy,e1,zb,yj,zf,za<|qW hi,<-hs,za<|WO<|zu y,z7,<-hV];simp only;rw[za<|WO<|zu x,z7,<-hU];simp only;have e2:((((yC x).length:Nat):Int))+1=((lx+1:Nat):Int):=by lia
    have e3:((lx+1:Nat):Int)-(((yC U).length:Nat):Int)=((lx+1-(yC U).length:Nat):Int):=by lia
    rw[e2,zb,e3,zb,yE,yJ,zf];obtain⟨t8,hc⟩:∃t8,t8=yC U++xaf (lx+1-(yC U).length) 0:=⟨_,rfl⟩;have t8L:zm t8:=by rw[hc];exact(zu U).append<|zm.replicate _
    have t8l:t8.length=lx+1:=by rw[hc,xax,xaZ];lia
    have t8v:nv t8=U:=by rw[hc,jt,Wz,xcN,xbT,z7]
    obtain⟨lq,hG⟩:∃lq,lq=lx+1-n:=⟨_,rfl⟩;have e4:(t8.length:Int)-(((yC V).length:Nat):Int)=(lq:Int):=by lia
    rw[<-hc,e4,zb,yE,yJ,zf,xaZ,zb];have ho:0<V:=by
     have:0<18446744073709551616^(n-1):=xbk (by decide);lia
    have hz:0<18446744073709551616^lq:=xbk (by decide);have hq:U<18446744073709551616^lq*V:=by
     have k1:18446744073709551616^lq*(9223372036854775808*18446744073709551616^(n-1))<=18446744073709551616^lq*V:=xaD _ v1;have k2:18446744073709551616^lq*(9223372036854775808*18446744073709551616^(n-1))=18446744073709551616^lx*9223372036854775808:=by
      rw[xaU 9223372036854775808,<-xaX,<-xbZ];congr 2;lia
     have k3:U<18446744073709551616^lx*9223372036854775808:=by
      rw[hU];exact xan (xbW hk<|xbk<|by decide)<|xaD _ hl
     lia
    have hr:U/18446744073709551616^lq<V:=by rw[xbd hz,xaU];exact hq
    have key:∃t,zm t/\t.length=lq+n/\nv t=U%V/\zg (Y3 fu (s:Int)<|yC V) fu (yC V,(lq:Int)-1,t8,xaf lq 0)=some (t,xY lq<|U/V):=by
     refine⟨xY (lq+n)<|U%V,xG _ _,zQ _ _,?_,?_⟩
     ·rw[ji,xar];have h5:=xbi U ho;exact xan (Nat.lt_trans h5 v2)<|xay (by decide)<|by lia
     ·refine zx (fun q:List Nat×Int×List Nat×List Nat=>∃(m:Nat) (t:List Nat),m<=lq/\zm t/\t.length=lq+n/\nv t=U/18446744073709551616^m%V*18446744073709551616^m+U%18446744073709551616^m/\q=(yC V,(m:Int)-1,t,xaf m 0++xY (lq-m) (U/18446744073709551616^m/V))) (fun q=>(q.2.1+1).toNat) _ ?_ _ _ ⟨lq,t8,xab _,t8L,by lia,?_,?_⟩ (by show((lq:Int)-1+1).toNat<fu;lia)
      ·rintro q L ⟨m,t,hm,ht,hu,hd,rfl⟩ ih
       cases m with
       |zero=>
        unfold Y3;simp only;rw[zy];rw[xeg,xcG,Nat.mod_one,xbT,xdU]at hd;have:=aF ht;rw[hu,hd]at this;rw[this];simp
       |succ m=>
        obtain⟨t',g1,g2,g3,g4⟩:=Sm (fu:=fu) (k:=m) (s:=(s:Int)) (L:=L) (zu V) v3 (z7 V) (by lia) v1 ht hu (by lia) (by lia) (by lia) hd;rw[show((m+1:Nat):Int)-1=(m:Int)by lia,g4];exact ih _ ⟨m,t',by lia,g1,g2,g3,rfl⟩ (by show((m:Int)-1+1).toNat<(((m+1:Nat):Int)-1+1).toNat;lia)
      ·rw[t8v,xar hr,xaU];exact(xbB U _).symm
      ·rw[xbv hr,xda];simp[xY]
    obtain⟨t,g1,g2,g3,g4⟩:=key;rw[za g4];simp only;have he:U/V<18446744073709551616^lq:=by rw[xbd ho];exact hq
    have hp:0<2^s:=xbk (by decide);rw[za (yV (xG _ _) (by rw[zQ];lia)<|by rw[zQ];lia),ji,xar he,za (gH g1 (by lia) (by lia)<|by lia),g3];rw[hU,hV,xfB _ _ hp,xeD,Nat.mul_div_cancel _ hp]
end
section
variable{k fu:Nat}{x y:Int}{a b m:Zr}
def gK(z:Zr):Prop:=zm z.2/\z.2.length<=40000
theorem gK.ok{z:Zr}(h:gK z):KA z:=⟨h.1,xam h.2<|by decide⟩
theorem Bz.okS(h:Bz k x)(hk:k<=40000):gK (yH x):=⟨yT x,xam ((zJ _ _).2 h) hk⟩
theorem Bz.len(h:Bz k x):(yH x).2.length<=k:=(zJ _ _).2 h
theorem PS{q r:Int}(hy:y≠0)(h:y*q+r=x)(h0:0<=r:=by lia)(h1:r<(y.natAbs:Int):=by lia):x/y=q/\x%y=r:=by grind [xeI,Int.ediv_emod_unique',Int.ediv_emod_unique]
def zcO(x y:Int):Zr×Zr×Int:=if y=0 then((false,[]),(false,[]),3)else(yH<|x/y,yH<|x%y,0)
theorem za9{q0 r0:Nat}(hb:nv b.2≠0)(hq:q0=nv a.2/nv b.2)(hr:r0=nv a.2%nv b.2):
 (¬(a.1=true/\0<r0)->zv a/zv b=(if(!(a.1==b.1))=true then-(q0:Int)else(q0:Int))/\zv a%zv b=(r0:Int))/\
 (a.1=true/\0<r0->zv a/zv b=(if(!(a.1==b.1))=true then-((q0+1:Nat):Int)else((q0+1:Nat):Int))/\zv a%zv b=((nv b.2-r0:Nat):Int)):=by
 have hd:=xbB (nv a.2)<|nv b.2;have hm:=xbi (nv a.2) (show 0<nv b.2 by lia);rw[<-hq,<-hr]at hd;rw[<-hr]at hm;have hz:zv b≠0:=by have:=kD b;lia
 have ha:=kD b;have hc:((nv b.2:Nat):Int)*(q0:Int)+(r0:Int)=((nv a.2:Nat):Int):=by rw[<-hd];simp
 refine⟨fun h=> ?_,fun h=> ?_⟩
 ·refine PS hz ?_;rcases xz a with⟨h1,h2⟩|⟨h1,h2⟩<;>rcases xz b with⟨h3,h4⟩|⟨h3,h4⟩<;>rw[h1,h3,h2,h4]
  ·have:r0=0:=xes fun hp=>h ⟨h1,hp⟩;subst this;simp only[beq_self_eq_true,xdM,xak,if_false];rw[Int.neg_mul];lia
  ·have:r0=0:=xes fun hp=>h ⟨h1,hp⟩;subst this;rw[iq (by decide),xeC];lia
  ·rw[iq (by decide),Int.neg_mul_neg];lia
  ·rw[ir<|by decide];lia
 ·refine PS hz ?_;obtain⟨h1,hp⟩:=h;have e1:((nv b.2-r0:Nat):Int)=((nv b.2:Nat):Int)-(r0:Int):=by lia
  have e2:((nv b.2:Nat):Int)*(((q0+1:Nat)):Int)=((nv b.2:Nat):Int)*(q0:Int)+((nv b.2:Nat):Int):=by rw[xdZ,xeX];simp
  rcases xz a with⟨_,h2⟩|⟨h,_⟩
  ·rcases xz b with⟨h3,h4⟩|⟨h3,h4⟩<;>rw[h1,h3,h2,h4,e1]
   ·rw[ir (by decide),Int.neg_mul,e2];lia
   ·rw[iq (by decide),xeC,e2];lia
  ·rw[h1]at h;cases h
theorem Py:zv b=0↔nv b.2=0:=by
 have:=kD b;lia
theorem QK(ha:gK a)(hb:gK b)(hf:3000000<=fu):Yo fu a b=some (zcO (zv a)<|zv b):=by
 unfold Yo zcO;have la:=ha.2;have lb:=hb.2;rw[za<|dZ ha.1 hb.1 (by lia) (by lia) hf];by_cases h0:nv b.2=0
 ·rw[iq h0,iq<|Py.2 h0];rfl
 ·rw[ir h0,ir<|fun h=>h0<|Py.1 h];simp only[if_true];obtain⟨q0,hq⟩:∃q0,q0=nv a.2/nv b.2:=⟨_,rfl⟩;obtain⟨r0,hr⟩:∃r0,r0=nv a.2%nv b.2:=⟨_,rfl⟩;have lq:(yC q0).length<=40000:=by
   refine xam ((zJ a.2.length q0).2 ?_) la;rw[hq];exact xba (xea _ _)<|qT ha.1
  have hd:r0<nv b.2:=by rw[hr];exact xbi _<|by lia
  have lr:(yC r0).length<=40000:=xam ((zJ b.2.length r0).2<|Nat.lt_trans hd<|qT hb.1) lb;have lr2:(yC<|nv b.2-r0).length<=40000:=xam ((zJ b.2.length _).2<|xba (xfr _ _)<|qT hb.1) lb;obtain⟨k1,k2⟩:=za9 h0 hq hr;rw[<-hq,<-hr];have lq2:(yC<|q0+1).length<=40001:=u9 (y:=1) lq (by decide);by_cases hc:a.1=true/\0<r0
  ·obtain⟨w1,w2⟩:=k2 hc;have:=qf hc.2;rw[iq hc.1,zN,za (v:=(yC<|q0+1,yC<|nv b.2-r0))]
   ·rw[w1,w2];simp only;rw[zf,za (yp (zu _) (by lia)<|by lia),za (yp (zu _) (by lia)<|by lia),z7,z7];rfl
   ·rw[za (kE (zu _) (se<|by decide) (by lia) (by simp)<|by simp;lia),z7,NA,za (WA hb.1 (zu _) (by lia) (by lia)<|by lia),z7,zy]
  ·obtain⟨w1,w2⟩:=k1 hc;rw[za (v:=(yC q0,yC r0))]
   ·rw[w1,w2];simp only;rw[zf,za (yp (zu _) (by lia)<|by lia),za (yp (zu _) (by lia)<|by lia),z7,z7];rfl
   ·by_cases h1:a.1=true
    ·have:r0=0:=xes fun hp=>hc ⟨h1,hp⟩;subst this;rw[iq h1,ir<|by decide]
    ·rw[ir h1]
def B4(x m:Int):Zr×Int:=if m<=0 then((false,[]),1)else(yH<|x%m,0)
def near(x m:Int):Int:=if m<x%m+x%m then x%m-m else x%m
def SU(x m:Int):Zr×Int:=if m<=0 then((false,[]),1)else(yH<|near x m,0)
theorem Bz.emod{m:Int}(hm:Bz k m)(h0:0<m):Bz k (x%m):=by
 have h1:=xcV x (show m≠0 by lia);have h2:=xdy x h0;exact hm.le<|by lia
theorem Bz.near{k:Nat}{x m:Int}(hm:Bz k m)(h0:0<m):Bz k (near x m):=by
 have h1:=xcV x (show m≠0 by lia);have h2:=xdy x h0;refine hm.le ?_;unfold Go.Proofs.YtmggkmchbdanfaaGreat.near;split<;>lia
theorem CW:qU x 0<=0↔x<=0:=by grind [vQ,jD,w4,xeI]
theorem Ga:0<qU x y↔y<x:=by grind [vQ,jD,w4,xeI]
theorem wM:qU x y=0↔x=y:=by grind [vQ,jD,w4,xeI]
theorem uu(ha:gK a)(hm:gK m)(hf:3000000<=fu):vO fu a m=some (B4 (zv a)<|zv m):=by grind [vO,zcO,B4,zv,za,xe,gK.ok,CW,QK]
theorem nP(ha:gK a)(hm:gK m)(hf:3000000<=fu):ZF fu a m=some (SU (zv a)<|zv m):=by
 unfold ZF SU;rw[za<|uu ha hm hf];unfold B4;by_cases h:zv m<=0
 ·rw[iq h,iq h];simp
 ·have hb:Bz 40000 (zv a%zv m):=Bz.emod ((Bz.of hm.1).mono hm.2) (by lia);rw[ir h,ir h];simp only[if_true];have hl:=hm.2;have h2:=(hb.add hb).ok (by lia);have h3:=(hb.add hb).len;rw[za<|qt (hb.okS<|by lia).ok (hb.okS<|by lia).ok hf,zw,za<|uj h2 hm.ok hf,zw];unfold near;by_cases hc:zv m<zv a%zv m+zv a%zv m
  ·rw[iq<|Ga.2 hc,iq hc,za<|qv (hb.okS<|by lia).ok hm.ok hf,zw]
  ·rw[ir<|fun e=>hc<|Ga.1 e,ir hc]
end
section
variable{f g:Nat->Int}{j m k fu:Nat}{p:List Zr}
def zi(n:Nat)(f:Nat->Int):List Zr:=(xbc n).map fun k=>yH<|f k
def cf(p:List Zr)(k:Nat):Int:=zv<|p.getD k (false,[])
def dg(f:Nat->Int):Nat->Nat
 |0=>0
 |n+1=>if f n=0 then dg f n else n+1
def vP(n:Nat)(f:Nat->Int):List Zr:=zi (dg f n) f
def y9(k:Nat)(p:List Zr):Prop:=∀z∈p,zm z.2/\z.2.length<=k
def Zl(f:Nat->Int)(j:Nat)(v:Int):Nat->Int:=fun k=>if k=j then v else f k
theorem VG(p:List Zr)(k:Nat):zv (p.getD k (false,[]))=cf p k:=rfl
theorem yI(n:Nat)(f:Nat->Int):(zi n f).length=n:=by unfold zi;simp
theorem YK{n:Nat}(h:j<n):(zi n f).getD j (false,[])=yH (f j):=by simp_all [zi]
theorem xb{n:Nat}(h:∀k,k<n->f k=g k):zi n f=zi n g:=by simp_all [zi]
theorem KR{n:Nat}{v:Int}:(zi n f).set j (yH v)=zi n (Zl f j v):=by
 refine xcy fun i=> ?_;unfold zi Zl;rw[xeb];by_cases h:j=i
 ·subst h;rw[iq rfl,xaP,xcA,xaT];by_cases hj:j<n
  ·rw[iq hj,xby hj];simp
  ·rw[ir hj,xaH<|by simp;lia];rfl
 ·rw[ir h,xaT,xaT];by_cases hi:i<n
  ·rw[xby hi];simp[Ne.symm h]
  ·rw[xaH<|by simp;lia];rfl
theorem zda:yH 0=(false,[]):=rfl
theorem b7(n:Nat):xaf n (false,[])=zi n (fun _=>0):=by grind [zi,zda,List.map_const',xcA]
theorem zdV{n:Nat}:zi n f++[yH<|f n]=zi (n+1) f:=by grind [zi,xdu]
theorem Gn{n:Nat}(h:j<n):cf (zi n f) j=f j:=by unfold cf;rw[YK h,zw]
theorem ye(h:p.length<=j):cf p j=0:=by
 unfold cf;rw[H1,xaH h];rfl
theorem EW{n:Nat}(h:∀k,n<=k->f k=0)(j:Nat):cf (zi n f) j=f j:=by grind [Gn,ye,yI]
theorem vZ(f:Nat->Int):∀n,dg f n<=n
 |0=>xab _
 |n+1=>by unfold dg;split;exact xam (vZ f n)<|xcd _;exact xab _
theorem J4(f:Nat->Int):∀n k,dg f n<=k->k<n->f k=0
 |0,k,_,h=>absurd h<|xbp _
 |n+1,k,h1,h2=>by
  unfold dg at h1;split at h1
  ·rename_i h0;by_cases hk:k=n
   ·rw[hk];exact h0
   ·exact J4 f n k h1<|by lia
  ·lia
theorem Vf(f:Nat->Int):∀n,dg f n≠0->f (dg f n-1)≠0
 |0,h=>absurd rfl h
 |n+1,h=>by
  unfold dg at h⊢;split
  ·rename_i h0;rw[iq h0]at h;exact Vf f n h
  ·rename_i h0;exact h0
theorem ax{n d:Nat}(h1:d<=n)(h2:∀k,d<=k->k<n->f k=0)(h3:d=0\/f (d-1)≠0):dg f n=d:=by
 have a:=vZ f n;rcases Nat.lt_trichotomy (dg f n) d with h|h|h
 ·rcases h3 with h3|h3
  ·lia
  ·exact absurd (J4 f n (d-1) (by lia)<|by lia) h3
 ·exact h
 ·exact absurd (h2 (dg f n-1) (by lia)<|by lia)<|Vf f n<|by lia
theorem aw{n:Nat}(hf:∀k,n<=k->f k=0)(hg:∀k,m<=k->g k=0)(h:∀k,f k=g k):vP n f=vP m g:=by
 have e:dg f n=dg g m:=by
  refine ax ?_ ?_ ?_
  ·refine xbw fun ha=> ?_;have:=Vf g m (by lia);rw[<-h,hf _<|by lia]at this;exact this rfl
  ·intro k h1 h2;rw[h];by_cases hk:k<m
   ·exact J4 g m k h1 hk
   ·exact hg k<|by lia
  ·by_cases h0:dg g m=0
   ·exact .inl h0
   ·right;rw[h];exact Vf g m h0
 unfold vP;rw[e];exact xb fun k _=>h k
theorem xJ(n:Nat)(f:Nat->Int):(vP n f).length=dg f n:=yI _ _
theorem jy{n:Nat}(h:∀k,n<=k->f k=0)(j:Nat):cf (vP n f) j=f j:=by
 refine EW (fun k hk=> ?_) j;by_cases hn:k<n
 ·exact J4 f n k hk hn
 ·exact h k<|by lia
theorem y9.get(h:y9 k p)(j:Nat):zm (p.getD j (false,[])).2/\(p.getD j (false,[])).2.length<=k:=by
 rw[H1];by_cases hj:j<p.length
 ·rw[xaa hj];exact h _<|xbn hj
 ·rw[xaH<|by lia];exact⟨zm.nil,xah _⟩
theorem y9.okZ(h:y9 k p)(hk:k<=100000)(j:Nat):KA (p.getD j (false,[])):=⟨(h.get j).1,xam (h.get j).2 hk⟩
theorem y9.okS(h:y9 k p)(hk:k<=40000)(j:Nat):gK (p.getD j (false,[])):=⟨(h.get j).1,xam (h.get j).2 hk⟩
theorem y9.bz(h:y9 k p)(j:Nat):Bz k (cf p j):=(Bz.of (h.get j).1).mono (h.get j).2
theorem y9.mono(h:y9 j p)(hk:j<=k):y9 k p:=fun z hz=>⟨(h z hz).1,xam (h z hz).2 hk⟩
theorem Bz.zero(k:Nat):Bz k 0:=xbk<|by decide
theorem Qy{n:Nat}(h:∀j,Bz k<|f j):y9 k (zi n f):=fun z hz=>by
 unfold zi at hz;obtain⟨j,_,rfl⟩:=xal.1 hz;exact⟨yT _,(h j).len⟩
theorem oE{a1:Int->Zr->Option Zr}(hl:p.length<=1000000)(hf:2000000<fu)(h:∀j:Nat,j<p.length->a1 (j:Int) (p.getD j (false,[]))=some (yH<|g j)):
 zB fu p a1=some (zi p.length g):=by
 unfold zB;rw[yE,yJ,zf,b7,za];refine zx (fun s:Int×List Zr=>∃i:Nat,i<=p.length/\s=((i:Int),zi p.length (fun k=>if k<i then g k else 0))) (fun s=>p.length-s.1.toNat) _ ?_ _ _ ⟨0,xah _,by rw[xb (g:=fun k=>if k<0 then g k else 0)<|fun k _=>by rw[zy]];rfl⟩ (by show p.length-0<fu;lia);rintro s L ⟨i,hi,rfl⟩ ih;unfold wc;simp only;by_cases h1:i<p.length
 ·rw[zN,za rfl];simp only[if_true];rw[zp h1,zf,za<|h i h1,zp (by rw[yI];exact h1),zf,KR,zb];refine ih _ ⟨i+1,by lia,?_⟩ (by show p.length-((i:Int)+1).toNat<p.length-(i:Int).toNat;lia);congr 1;refine xb fun k hk=> ?_;unfold Zl;by_cases e:k=i
  ·rw[iq e,zN,e]
  ·rw[ir e];show(if k<i then g k else 0)=_;by_cases e2:k<i
   ·rw[iq e2,zN]
   ·rw[ir e2,zy]
 ·rw[zy,za rfl];simp only[xak,if_false];congr 1;exact xb fun k hk=>by rw[zN]
theorem K2(h:f m=0):dg f (m+1)=dg f m:=by conv=>lhs;unfold dg;rw[iq h]
theorem UI(h:f m≠0):dg f (m+1)=m+1:=by conv=>lhs;unfold dg;rw[ir h]
theorem Ck(h:j<m):(p.take m).getD j (false,[])=p.getD j (false,[]):=by grind
theorem zC(h:y9 k p)(hk:k<=100000)(hl:p.length<=1000000)(hf:3000000<=fu):zH fu p=some (vP p.length<|cf p):=by
 unfold zH;have hd:=vZ (cf p) p.length;rw[za (v:=p.take<|dg (cf p) p.length)]
 ·have ha:(p.take<|dg (cf p) p.length).length=dg (cf p) p.length:=by rw[xav];lia
  rw[za<|oE (g:=cf p) (by lia) (by lia) ?_,ha]
  ·rfl
  ·intro j hj;rw[ha]at hj;unfold Vr;rw[Ck hj,za<|uz (h.okZ hk j) hf];rfl
 ·refine zx (fun t:List Zr=>∃m,m<=p.length/\t=p.take m/\dg (cf p) m=dg (cf p) p.length) (fun t=>t.length) _ ?_ _ _ ⟨p.length,xab _,xcP.symm,rfl⟩ (by lia);rintro t L ⟨m,hm,rfl,hg⟩ ih;have ha:(p.take m).length=m:=by rw[xav];lia
  unfold KM
  cases m with
  |zero=>
   rw[zy,<-hg];rfl
  |succ m=>
   rw[zN,ha,show((m+1:Nat):Int)-1=(m:Int)by lia,zb,yj,zf,Ck (by lia),za<|xe (h.okZ hk m) hf,VG];by_cases h0:cf p m=0
   ·rw[iq<|wM.2 h0,zb,yE,yJ,zf,List.take_take,show min m (m+1)=m by lia];exact ih _ ⟨m,by lia,rfl,by rw[<-K2 h0,hg]⟩<|by rw[ha,xav];lia
   ·rw[ir<|fun e=>h0<|wM.1 e,<-hg,UI h0]
theorem Kk(h:y9 k p)(hk:k<=100000)(hl:p.length<=1000000)(hf:3000000<=fu):kN fu p=some (vP p.length<|cf p):=by
 unfold kN;have hd:=vZ (cf p) p.length;rw[za (v:=((dg (cf p) p.length:Nat):Int))]
 ·rw[za (v:=vP p.length<|cf p)];unfold vP;refine zx (fun s:List Zr×Int=>∃i:Nat,i<=dg (cf p) p.length/\s=(zi i<|cf p,(i:Int))) (fun s=>p.length-s.2.toNat) _ ?_ _ _ ⟨0,xah _,rfl⟩ (by show p.length-0<fu;lia);rintro s L ⟨i,hi,rfl⟩ ih;unfold KK;simp only;by_cases h1:i<dg (cf p) p.length
  ·rw[zN,yj,zf,za<|vf (h.get i).1 (by have:=(h.get i).2;lia) hf,wC (by rw[yI];simp;lia),zf,zb];exact ih _ ⟨i+1,by lia,by rw[<-zdV];rfl⟩ (by show p.length-((i:Int)+1).toNat<p.length-(i:Int).toNat;lia)
  ·rw[zy];obtain rfl:i=dg (cf p) p.length:=by lia
   rfl
 ·refine zx (fun i:Int=>∃m:Nat,i=(m:Int)/\m<=p.length/\dg (cf p) m=dg (cf p) p.length) (fun i=>i.toNat) _ ?_ _ _ ⟨p.length,rfl,xab _,rfl⟩ (by lia);rintro i L ⟨m,rfl,hm,hg⟩ ih;unfold U9
  cases m with
  |zero=>rw[zy,<-hg];rfl
  |succ m=>
   rw[zN,show((m+1:Nat):Int)-1=(m:Int)by lia,zb,yj,zf,za<|Ka (h.okZ hk m) hf,VG];by_cases h0:cf p m=0
   ·rw[iq<|wM.2 h0,zb];exact ih _ ⟨m,rfl,by lia,by rw[<-K2 h0,hg]⟩<|by lia
   ·rw[ir<|fun e=>h0<|wM.1 e,<-hg,UI h0]
end
section
variable{a b:List Zr}{k fu:Nat}{h g:Nat->Zr}
theorem KC(h:max a.length b.length<=k):cf a k+cf b k=0:=by grind [ye]
theorem Nk(ha:y9 k a)(hb:y9 k b)(hk:k<=100000)(hf:3000000<=fu)(hc:b.length<=1000000)(j:Nat)(hj:j<b.length):
 jv fu (j:Int) (b.getD j (false,[])) a=some (if j<a.length then yH (cf a j+cf b j)else b.getD j (false,[])):=by grind [jv,zp,zf,za,qt,y9.okZ,VG,xfa]
def lQ(a b:List Zr):List Zr:=(xbc b.length).map fun j=>if j<a.length then yH (cf a j+cf b j)else b.getD j (false,[])
theorem zcl{n:Nat}{j:Nat}(hj:j<n):((xbc n).map h).getD j (false,[])=h j:=by grind [xby]
theorem map_set{n i:Nat}:((xbc n).map h).set i (g i)=(xbc n).map (fun k=>if k=i then g k else h k):=by
 refine xcy fun m=> ?_;rw[xeb];by_cases e:i=m
 ·subst e;rw[iq rfl,xaP,xcA,xaT];by_cases hj:i<n
  ·rw[iq hj,xby hj];simp
  ·rw[ir hj,xaH<|by simp;lia];rfl
 ·rw[ir e,xaT,xaT];by_cases hi:m<n
  ·rw[xby hi];simp[Ne.symm e]
  ·rw[xaH<|by simp;lia];rfl
theorem SF{p:List Zr}{a1:Int->Zr->Option Zr}(hl:p.length<=1000000)(hf:2000000<fu)(h:∀j:Nat,j<p.length->a1 (j:Int) (p.getD j (false,[]))=some (g j)):
 zB fu p a1=some ((xbc p.length).map g):=by
 unfold zB;have e0:xaf p.length ((false,[]):Zr)=(xbc p.length).map (fun k=>if k<0 then g k else(false,[])):=by
  rw[b7];unfold zi;exact xci fun k _=>by rw[ir<|xbp k];rfl
 rw[yE,yJ,zf,e0,za];refine zx (fun s:Int×List Zr=>∃i:Nat,i<=p.length/\s=((i:Int),(xbc p.length).map (fun k=>if k<i then g k else(false,[])))) (fun s=>p.length-s.1.toNat) _ ?_ _ _ ⟨0,xah _,rfl⟩ (by show p.length-0<fu;lia);rintro s L ⟨i,hi,rfl⟩ ih;unfold wc;simp only;by_cases h1:i<p.length
 ·rw[zN,za rfl];simp only[if_true];rw[zp h1,zf,za<|h i h1,zp (by simp;exact h1),zf,map_set,zb];refine ih _ ⟨i+1,by lia,?_⟩ (by show p.length-((i:Int)+1).toNat<p.length-(i:Int).toNat;lia);congr 1;refine xci fun k hk=> ?_;by_cases e:k=i
  ·rw[iq e,zN,e]
  ·rw[ir e];by_cases e2:k<i
   ·rw[iq e2,zN]
   ·rw[ir e2,zy]
 ·rw[zy,za rfl];simp only[xak,if_false];congr 1;refine xci fun k hk=> ?_;have:=xbf.1 hk;rw[zN]
theorem zbx(ha:y9 k a)(hb:y9 k b)(hk:k+1<=100000)(hd:b.length<=1000000)(hf:3000000<=fu)(hl:a.length<=b.length):
 bd (zB fu b<|fun zx0 zx1=>jv fu zx0 zx1 a) (fun t1=>bd (zH fu t1) fun t2=>some t2)=some (vP (max a.length b.length)<|fun j=>cf a j+cf b j):=by
 have hL:(lQ a b).length=b.length:=by unfold lQ;simp
 have hg:∀j,j<b.length->(lQ a b).getD j (false,[])=if j<a.length then yH (cf a j+cf b j)else b.getD j (false,[]):=fun j hj=>by unfold lQ;rw[zcl hj]
 have hc:∀j,cf (lQ a b) j=cf a j+cf b j:=fun j=>by
  by_cases hj:j<b.length
  ·conv=>lhs;unfold cf
   rw[hg j hj];by_cases h:j<a.length
   ·rw[iq h,zw]
   ·rw[ir h,ye (p:=a) (by lia),xcD];rfl
  ·rw[ye (by lia),ye (by lia),ye<|by lia];rfl
 have ho:y9 (k+1) (lQ a b):=fun z hz=>by
  unfold lQ at hz;obtain⟨j,hj,rfl⟩:=xal.1 hz;split
  ·exact⟨yT _,((ha.bz j).add<|hb.bz j).len⟩
  ·exact(hb.mono<|xcd k).get j
 rw[za<|SF (g:=fun j=>if j<a.length then yH (cf a j+cf b j)else b.getD j (false,[])) hd (by lia) fun j hj=>Nk ha hb (by lia) hf hd j hj];show bd (zH fu<|lQ a b) _=_;rw[za<|zC ho hk (by lia) hf,hL];congr 1;refine aw (fun j hj=>ye<|by lia) (fun j hj=>KC hj) hc
theorem U4(ha:y9 k a)(hb:y9 k b)(hk:k+1<=100000)(hc:a.length<=1000000)(hd:b.length<=1000000)(hf:3000000<=fu):
 w6 fu a b=some (vP (max a.length b.length)<|fun j=>cf a j+cf b j):=by grind [w6,cf,zbx,Nat.max_comm,xfa]
theorem JV{c:Int}(h:a.length<=k):cf a k*c=0:=by rw[ye h,xaS]
theorem KA.of{z:Zr}(h:zm z.2/\z.2.length<=k)(hk:k<=100000):KA z:=⟨h.1,xam h.2 hk⟩
theorem qL{l:Nat}{c:Zr}(ha:y9 k a)(hc:zm c.2/\c.2.length<=l)(hk:k+l<=100000)(hb:a.length<=1000000)(hf:3000000<=fu):
 vc fu a c=some (vP a.length<|fun j=>cf a j*zv c):=by
 unfold vc;have ho:y9 (k+l) (zi a.length<|fun j=>cf a j*zv c):=Qy fun j=>(ha.bz j).mul<|(Bz.of hc.1).mono hc.2;rw[za<|oE (g:=fun j=>cf a j*zv c) hb (by lia) ?_]
 ·rw[za<|zC ho hk (by rw[yI];lia) hf,yI];congr 1;exact aw (fun j hj=>ye<|by rw[yI];lia) (fun j hj=>JV hj)<|fun j=>EW (fun j hj=>JV hj) j
 ·intro j hj;unfold XP;rw[za<|ya (ha.okZ (by lia) j) (KA.of hc<|by lia) hf,VG]
def aU(a b:List Zr):List Zr:=vP (max a.length b.length)<|fun j=>cf a j-cf b j
theorem xa{n:Nat}{f:Nat->Int}(h:∀j,Bz k<|f j):y9 k (vP n f):=Qy h
theorem za3{m:Nat}(hm:m=dg (fun j=>cf b j* -1) b.length):vP (max a.length (vP b.length<|fun j=>cf b j* -1).length) (fun j=>cf a j+cf (vP b.length<|fun j=>cf b j* -1) j)=aU a b:=by
 have e:∀j,cf (vP b.length<|fun j=>cf b j* -1) j=cf b j* -1:=jy fun j hj=>JV hj;have hd:=vZ (fun j=>cf b j* -1) b.length;refine aw (fun j hj=>KC hj) (fun j hj=> ?_)<|fun j=> ?_
 ·rw[ye (by lia),ye<|by lia];rfl
 ·rw[e];lia
theorem Bz.one:∀{k:Nat},1<=k->Bz k (-1):=by grind [Bz,Bz.mono]
theorem jQ(ha:y9 k a)(hb:y9 k b)(hk:k+2<=100000)(hc:a.length<=1000000)(he:b.length<=1000000)(hf:3000000<=fu):
 q8 fu a b=some (aU a b):=by
 unfold q8;have hd:=vZ (fun j=>cf b j* -1) b.length;rw[za (z6<|by decide),za<|qL (l:=1) hb ⟨yT _,(Bz.one<|xab _).len⟩ (by lia) he hf,zw,za<|U4 (k:=k+1) (ha.mono<|by lia) (xa fun j=>(hb.bz j).mul<|Bz.one<|xab _) (by lia) hc (by rw[xJ];lia) hf,za3 rfl]
end
section
variable{kb ka:Nat}{b a:List Zr}
def L6(b:List Zr)(i k:Nat):Int:=if i<=k then cf b (k-i)else 0
def XF(a b:List Zr):Nat->Nat->Int
 |0,_=>0
 |n+1,k=>XF a b n k+cf a n*L6 b n k
def uF(a b:List Zr)(i j k:Nat):Int:=XF a b i k+if i<=k/\k<i+j then cf a i*cf b (k-i)else 0
def yQ(a b:List Zr):List Zr:=vP (a.length+b.length)<|XF a b a.length
theorem TU(hb:y9 kb b)(i k:Nat):Bz kb (L6 b i k):=by grind [L6,Bz.zero,y9.bz]
theorem oH{ka kb:Nat}{a b:List Zr}(ha:y9 ka a)(hb:y9 kb b):∀n k,Bz (ka+kb+n) (XF a b n k)
 |0,k=>Bz.zero _
 |n+1,k=>by
  unfold XF;have h:=((ha.bz n).mul<|TU hb n k).mono (show ka+kb<=ka+kb+n by lia);exact Bz.add (oH ha hb n k) h
theorem ND(ha:y9 ka a)(hb:y9 kb b)(i j k:Nat):Bz (ka+kb+i+1) (uF a b i j k):=by
 unfold uF;refine Bz.add (oH ha hb i k) ?_;split
 ·exact((ha.bz i).mul<|hb.bz _).mono<|by lia
 ·exact Bz.zero _
theorem HG{a b:List Zr}{k:Nat}:∀{n},n+b.length<=k+1->XF a b n k=0
 |0,_=>rfl
 |n+1,h=>by
  unfold XF L6;rw[HG (by lia),zN,ye (p:=b) (by lia),xau];rfl
theorem gW{k:Nat}(h:a.length+b.length<=k):XF a b a.length k=0:=HG<|by lia
theorem E5(a b:List Zr)(i k:Nat):uF a b i 0 k=XF a b i k:=by
 unfold uF;rw[zy,xbD]
theorem Fh(a b:List Zr)(i k:Nat):uF a b i b.length k=XF a b (i+1) k:=by
 rw[show XF a b (i+1) k=XF a b i k+cf a i*L6 b i k from rfl];unfold uF L6;congr 1;by_cases h:i<=k
 ·rw[iq h];by_cases h2:k<i+b.length
  ·rw[if_pos ⟨h,h2⟩]
  ·rw[ir<|fun e=>h2 e.2,ye (p:=b) (by lia),xau]
 ·rw[ir<|fun e=>h e.1,ir h,xau]
theorem E8(a b:List Zr)(i j k:Nat):Zl (uF a b i j) (i+j) (uF a b i j (i+j)+cf a i*cf b j) k=uF a b i (j+1) k:=by
 unfold Zl;by_cases h:k=i+j
 ·subst h;rw[iq rfl];unfold uF;rw[zy,if_pos ⟨by lia,by lia⟩,show i+j-i=j by lia,xbD]
 ·rw[ir h];unfold uF;congr 1;by_cases h2:i<=k/\k<i+j
  ·rw[iq h2,if_pos ⟨h2.1,by lia⟩]
  ·rw[ir h2,zy]
theorem xi{fu:Nat}(ha:y9 ka a)(hb:y9 kb b)(hk:ka+kb+a.length+1<=100000)(hc:b.length<=100000)(hf:3000000<=fu):y7 fu a b=some (yQ a b):=by
 unfold y7;rw[zb,show(a.length:Int)+(b.length:Int)=((a.length+b.length:Nat):Int)by lia,yE,yJ,zf,b7];obtain⟨n,hn⟩:∃n,n=a.length+b.length:=⟨_,rfl⟩;rw[<-hn,za (v:=zi n<|XF a b a.length)]
 ·rw[za<|zC (Qy<|oH ha hb a.length) (by lia) (by rw[yI];lia) hf,yI];congr 1;unfold yQ;exact aw (fun j hj=>ye<|by rw[yI];lia) (fun j hj=>gW hj)<|fun j=>EW (fun j hj=>gW<|by lia) j
 ·refine zx (fun s:Int×List Zr=>∃i:Nat,i<=a.length/\s=((i:Int),zi n<|XF a b i)) (fun s=>a.length-s.1.toNat) _ ?_ _ _ ⟨0,xah _,rfl⟩ (by show a.length-0<fu;lia);rintro s L ⟨i,hi,rfl⟩ ih;unfold bH;simp only;by_cases h1:i<a.length
  ·rw[zN,za rfl];simp only[if_true];rw[zp h1,zf,za (v:=zi n<|XF a b<|i+1),zb]
   ·exact ih _ ⟨i+1,by lia,rfl⟩ (by show a.length-((i:Int)+1).toNat<a.length-(i:Int).toNat;lia)
   ·refine zx (fun s:Int×List Zr×Zr=>∃j:Nat,j<=b.length/\s=((j:Int),zi n<|uF a b i j,a.getD i (false,[]))) (fun s=>b.length-s.1.toNat) _ ?_ _ _ ⟨0,xah _,by rw[xb fun k _=>(E5 a b i k).symm];rfl⟩ (by show b.length-0<fu;lia);rintro s L2 ⟨j,hj,rfl⟩ ih2;unfold bN;simp only;by_cases h2:j<b.length
    ·rw[zN,za rfl];simp only[if_true];have e:(i:Int)+(j:Int)=((i+j:Nat):Int):=by lia
     have hp:=ND ha hb i j<|i+j;rw[zp h2,zf,e,zb,zb,zp (by rw[yI];lia),zf,YK (by lia),za<|ya (ha.okZ (by lia) i) (hb.okZ (by lia) j) hf,VG,VG,za<|qt (hp.ok<|by lia) (((ha.bz i).mul<|hb.bz j).ok<|by lia) hf,zw,zw,zp (by rw[yI];lia),zf,KR,zb];exact ih2 _ ⟨j+1,by lia,by rw[xb fun k _=>E8 a b i j k];rfl⟩ (by show b.length-((j:Int)+1).toNat<b.length-(j:Int).toNat;lia)
    ·rw[zy,za rfl];simp only[xak,if_false];obtain rfl:j=b.length:=by lia
     rw[xb fun k _=>Fh a b i k]
  ·rw[zy,za rfl];simp only[xak,if_false];obtain rfl:i=a.length:=by lia
   rfl
theorem YW(ha:y9 ka a)(hb:y9 kb b):y9 (ka+kb+a.length) (yQ a b):=xa<|oH ha hb a.length
theorem OC(a b:List Zr)(k:Nat):cf (yQ a b) k=XF a b a.length k:=jy (fun j hj=>gW hj) k
theorem kh(a b:List Zr):(yQ a b).length<=a.length+b.length:=by unfold yQ;rw[xJ];exact vZ _ _
end
section
variable{f g:Nat->Int}{fu k:Nat}{a:List Zr}{m:Zr}{a2:Zr->Zr->Option (Zr×Int)}
theorem tE{f g:Nat->Int}:∀{n},(∀k,k<n->f k=g k)->dg f n=dg g n
 |0,_=>rfl
 |n+1,h=>by
  unfold dg;rw[h n (by lia),tE fun k hk=>h k<|by lia]
theorem iF{n:Nat}(h:∀k,k<n->f k=g k):vP n f=vP n g:=by grind [vP,tE,vZ,xb]
theorem tH{n:Nat}:vP n (cf<|zi n f)=vP n f:=iF fun k hk=>Gn hk
theorem Fz{l:Nat}{c:Int}(hm:gK m)(h0:0<zv m)(ha:a.length<=1000000)(hl:l<=100000)(hg:∀j,Bz l<|g j)(hf:3000000<=fu)(h:∀j,j<a.length->a2 (a.getD j (false,[])) m=some (yH<|g j,c)):
 vB fu a m a2=some (vP a.length g,0):=by
 unfold vB;rw[za<|xe hm.ok hf,ir (fun e=>by have:=CW.1 e;lia),yE,yJ,zf,b7,za (v:=zi a.length g)]
 ·rw[za<|zC (Qy hg) hl (by rw[yI];lia) hf,yI,tH]
 ·refine zx (fun s:Int×List Zr=>∃i:Nat,i<=a.length/\s=((i:Int),zi a.length (fun k=>if k<i then g k else 0))) (fun s=>a.length-s.1.toNat) _ ?_ _ _ ⟨0,xah _,by rw[xb (g:=fun k=>if k<0 then g k else 0)<|fun k _=>by rw[zy]];rfl⟩ (by show a.length-0<fu;lia);rintro s L ⟨i,hi,rfl⟩ ih;unfold Q8;simp only;by_cases h1:i<a.length
  ·rw[zN,za rfl];simp only[if_true];rw[zp h1,zf,za<|h i h1];simp only;rw[zp (by rw[yI];exact h1),zf,KR,zb];refine ih _ ⟨i+1,by lia,?_⟩ (by show a.length-((i:Int)+1).toNat<a.length-(i:Int).toNat;lia);congr 1;refine xb fun k hk=> ?_;unfold Zl;by_cases e:k=i
   ·rw[iq e,zN,e]
   ·rw[ir e];show(if k<i then g k else 0)=_;by_cases e2:k<i
    ·rw[iq e2,zN]
    ·rw[ir e2,zy]
  ·rw[zy,za rfl];simp only[xak,if_false];congr 1;exact xb fun k hk=>by rw[zN]
theorem B3(hm:gK m)(h0:zv m<=0)(hf:3000000<=fu):vB fu a m a2=some ([],1):=by grind [vB,za,xe,gK.ok,CW]
def wA(a:List Zr)(m:Int):List Zr:=vP a.length<|fun j=>cf a j%m
def dS(a:List Zr)(m:Int):List Zr:=vP a.length<|fun j=>near (cf a j) m
def P3(a:List Zr)(m:Int):List Zr×Int:=if m<=0 then([],1)else(wA a m,0)
def Np(a:List Zr)(m:Int):List Zr×Int:=if m<=0 then([],1)else(dS a m,0)
theorem gK.bz{z:Zr}(h:gK z):Bz 40000 (zv z):=(Bz.of h.1).mono h.2
theorem Ke(ha:y9 k a)(hk:k<=40000)(hm:gK m)(hc:a.length<=1000000)(hf:3000000<=fu):Z1 fu a m=some (P3 a<|zv m):=by
 unfold Z1 P3;by_cases h0:zv m<=0
 ·rw[za<|B3 hm h0 hf,iq h0]
 ·obtain⟨K,hK⟩:∃K,K=40000:=⟨_,rfl⟩;have hb:Bz K (zv m):=by rw[hK];exact hm.bz
  rw[ir h0,za<|Fz (c:=0) (g:=fun j=>cf a j%zv m) hm (by lia) hc (show K<=100000 by lia) (fun j=>hb.emod<|by lia) hf fun j hj=> ?_]
  ·rfl
  ·show vO fu _ _=_;rw[uu (ha.okS hk j) hm hf];unfold B4;rw[ir h0];rfl
theorem iG(ha:y9 k a)(hk:k<=40000)(hm:gK m)(hc:a.length<=1000000)(hf:3000000<=fu):YR fu a m=some (Np a<|zv m):=by
 unfold YR Np;by_cases h0:zv m<=0
 ·rw[za<|B3 hm h0 hf,iq h0]
 ·obtain⟨K,hK⟩:∃K,K=40000:=⟨_,rfl⟩;have hb:Bz K (zv m):=by rw[hK];exact hm.bz
  rw[ir h0,za<|Fz (c:=0) (g:=fun j=>near (cf a j)<|zv m) hm (by lia) hc (show K<=100000 by lia) (fun j=>hb.near<|by lia) hf fun j hj=> ?_]
  ·rfl
  ·show ZF fu _ _=_;rw[nP (ha.okS hk j) hm hf];unfold SU;rw[ir h0];rfl
theorem mz{ka kb:Nat}{b:List Zr}(ha:y9 ka a)(hb:y9 kb b)(hk:ka+kb+a.length+1<=40000)(hc:b.length<=40000)(hm:gK m)(hf:3000000<=fu):WE fu a b m=some (P3 (yQ a b)<|zv m):=by
 unfold WE;have:=kh a b;rw[za<|xi ha hb (by lia) (by lia) hf,za<|Ke (YW ha hb) (by lia) hm (by lia) hf]
end
section
theorem HO(n:Nat)(f:Nat->Int):vP (vP n f).length (cf<|vP n f)=vP n f:=by
 have e:∀k,k<dg f n->cf (vP n f) k=f k:=fun k hk=>Gn hk;have h:dg (cf<|vP n f) (vP n f).length=dg f n:=by
  rw[xJ];refine ax (xab _) (fun k h1 h2=>by lia) ?_;by_cases h0:dg f n=0
  ·exact .inl h0
  ·right;rw[e _<|by lia];exact Vf f n h0
 show zi (dg (cf<|vP n f) (vP n f).length) (cf<|vP n f)=vP n f;rw[h];exact xb e
theorem za0{p:List Zr}(h:p=vP p.length (cf p)):p=zi p.length (cf p):=by grind [vP,cf,dg,xJ]
theorem ZB{p:List Zr}(h:p=vP p.length (cf p))(h0:p.length≠0):cf p (p.length-1)≠0:=by grind [cf,dg,xJ,Vf]
theorem La{p:List Zr}(h:p=vP p.length (cf p)){j:Nat}(hj:j<p.length:=by lia):p.getD j (false,[])=yH (cf p j):=by grind [za0,YK]
theorem uC(n:Nat)(f:Nat->Int):vP n f=vP (vP n f).length (cf<|vP n f):=(HO n f).symm
theorem C6{p:List Zr}(h:p=vP p.length (cf p)){l:Nat}(hz:∀k,l<=k->cf p k=0):p.length<=l:=by
 refine xbw fun ha=> ?_;exact ZB h (by lia)<|hz _<|by lia
def dvF(r d:List Zr)(m:Int)(qn:Nat):Nat->Nat->Int
 |0=>cf r
 |s+1=>fun k=>dvF r d m qn s k-(dvF r d m qn s (qn-(s+1)+(d.length-1))%m)*L6 d (qn-(s+1)) k
def tX(r d:List Zr)(m:Int)(qn i:Nat):Nat->Int:=dvF r d m qn<|qn-i
def Lr(r d:List Zr)(m:Int)(qn i:Nat):Int:=tX r d m qn (i+1) (i+(d.length-1))%m
section
variable{r d:List Zr}{m:Int}{qn:Nat}
theorem nW:tX r d m qn qn=cf r:=by unfold tX;rw[xda];rfl
theorem tc{i:Nat}(h:i<qn)(k:Nat):tX r d m qn i k=tX r d m qn (i+1) k-Lr r d m qn i*L6 d i k:=by
 unfold Lr tX;obtain⟨s,hs⟩:∃s,s=qn-(i+1):=⟨_,rfl⟩;rw[show qn-i=s+1 by lia,<-hs];show dvF r d m qn s k-(dvF r d m qn s (qn-(s+1)+(d.length-1))%m)*L6 d (qn-(s+1)) k=_;rw[show qn-(s+1)=i by lia]
theorem Fa{K:Nat}(hr:y9 K r)(hd:y9 K d)(hm:Bz K m)(h0:0<m):∀s k,Bz (2*K+s) (dvF r d m qn s k)
 |0,k=>(hr.bz k).mono<|by lia
 |s+1,k=>by
  have h:=((Bz.emod (x:=dvF r d m qn s<|qn-(s+1)+(d.length-1)) hm h0).mul<|TU hd (qn-(s+1)) k).mono (show K+K<=2*K+s by lia);exact Bz.sub (Fa hr hd hm h0 s k) h
theorem L3{K:Nat}(hm:Bz K m)(h0:0<m)(i:Nat):Bz K (Lr r d m qn i):=Bz.emod hm h0
end
theorem Zn{fu k:Nat}{a:List Zr}{m:Zr}(ha:y9 k a)(hk:k<=40000)(hm:gK m)(h0:0<zv m)(hb:a.length<=1000000:=by lia)(hf:3000000<=fu:=by lia):yX fu a m=some (wA a<|zv m):=by grind [yX,P3,za,Ke]
theorem Jy{K:Nat}{a:List Zr}{m:Int}(hm:Bz K m)(h0:0<m):y9 K (wA a m):=xa fun j=>Bz.emod hm h0
theorem ZV(a:List Zr)(m:Int):(wA a m).length<=a.length:=by unfold wA;rw[xJ];exact vZ _ _
theorem jE(a:List Zr)(m:Int)(k:Nat):cf (wA a m) k=cf a k%m:=jy (fun j hj=>by rw[ye hj,xag]) k
theorem Jc(a:List Zr)(m:Int):wA a m=vP (wA a m).length (cf<|wA a m):=uC _ _
def dvQ(r d:List Zr)(m:Int)(qn:Nat):Nat->Int:=fun k=>if k<qn then Lr r d m qn k else 0
def AQ(r d:List Zr)(m:Int):List Zr:=vP (r.length+1-d.length)<|fun k=>dvQ r d m (r.length+1-d.length) k%m
def YZ(r d:List Zr)(m:Int):List Zr:=vP r.length<|fun k=>tX r d m (r.length+1-d.length) 0 k%m
def iL(r d:List Zr)(m:Int)(qn i j:Nat):Nat->Int:=fun k=>tX r d m qn (i+1) k-if i<=k/\k<i+j then Lr r d m qn i*cf d (k-i)else 0
theorem R9{r d:List Zr}{m:Int}{qn i k:Nat}:iL r d m qn i 0 k=tX r d m qn (i+1) k:=by
 unfold iL;rw[zy,xcE]
theorem RV{r d:List Zr}{m:Int}{qn i:Nat}(h:i<qn)(k:Nat):iL r d m qn i d.length k=tX r d m qn i k:=by
 rw[tc h];unfold iL L6;congr 1;by_cases h:i<=k
 ·rw[iq h];by_cases h2:k<i+d.length
  ·rw[if_pos ⟨h,h2⟩]
  ·rw[ir<|fun e=>h2 e.2,ye (p:=d) (by lia),xau]
 ·rw[ir<|fun e=>h e.1,ir h,xau]
theorem R7(r d:List Zr)(m:Int)(qn i j k:Nat):Zl (iL r d m qn i j) (i+j) (iL r d m qn i j (i+j)-Lr r d m qn i*cf d j) k=iL r d m qn i (j+1) k:=by
 unfold Zl;by_cases h:k=i+j
 ·subst h;rw[iq rfl];unfold iL;rw[zy,if_pos ⟨by lia,by lia⟩,show i+j-i=j by lia,xcE]
 ·rw[ir h];unfold iL;congr 1;by_cases h2:i<=k/\k<i+j
  ·rw[iq h2,if_pos ⟨h2.1,by lia⟩]
  ·rw[ir h2,zy]
theorem zev{K:Nat}{r d:List Zr}{m:Int}{qn i j:Nat}(hr:y9 K r)(hd:y9 K d)(hm:Bz K m)(h0:0<m)(h:i<qn)(k:Nat):Bz (2*K+qn+1) (iL r d m qn i j k):=by
 unfold iL;refine Bz.sub ((Fa hr hd hm h0 _ k).mono<|by lia) ?_;split
 ·exact((L3 hm h0 i).mul<|hd.bz _).mono<|by lia
 ·exact Bz.zero _
theorem RR{fu K n i qn:Nat}{r d:List Zr}{m:Zr}{q:Nat->Int}(hr:y9 K r)(hd:y9 K d)(hm:Bz K (zv m))(h0:0<zv m)(hn:r.length=n)(hq:qn=n+1-d.length)(hb:0<d.length)(hi:i<qn)(hK:2*K+n+5<=40000)(ha:q i=Lr r d (zv m) qn i)(hf:3000000<=fu):
 zg (uV fu d (i:Int)) fu (d,m,0,zi n<|tX r d (zv m) qn<|i+1,zi qn q)=some (d,m,zi n<|tX r d (zv m) qn i,zi qn q):=by
 refine zx (fun s:List Zr×Zr×Int×List Zr×List Zr=>∃j:Nat,j<=d.length/\s=(d,m,(j:Int),zi n<|iL r d (zv m) qn i j,zi qn q)) (fun s=>d.length-s.2.2.1.toNat) _ ?_ _ _ ⟨0,xah _,by rw[xb (f:=iL r d (zv m) qn i 0) fun k _=>R9];rfl⟩ (by show d.length-0<fu;lia);rintro s L ⟨j,hj,rfl⟩ ih;unfold uV;simp only;by_cases h2:j<d.length
 ·rw[zN,za rfl];simp only[if_true];have e:(i:Int)+(j:Int)=((i+j:Nat):Int):=by lia
  have hp:=zev (j:=j) hr hd hm h0 hi<|i+j;have hc:=L3 (r:=r) (d:=d) (qn:=qn) hm h0 i;rw[zp h2,zf,e,zb,zb,zp (by rw[yI];lia),zf,YK (by lia),zp (by rw[yI];lia),zf,YK hi,ha,za<|ya (hc.ok<|by lia) (hd.okZ (by lia) j) hf,VG,zw,za<|qv (hp.ok<|by lia) ((hc.mul<|hd.bz j).ok<|by lia) hf,zw,zw,zp (by rw[yI];lia),zf,KR,zb];exact ih _ ⟨j+1,by lia,by rw[xb fun k _=>R7 r d (zv m) qn i j k];rfl⟩ (by show d.length-((j:Int)+1).toNat<d.length-(j:Int).toNat;lia)
 ·rw[zy,za rfl];simp only[xak,if_false];obtain rfl:j=d.length:=by lia
  rw[xb fun k _=>RV hi k]
theorem DY{fu K n qn:Nat}{r d:List Zr}{m:Zr}(hr:y9 K r)(ha:r=zi n (cf r))(hd:y9 K d)(hm:Bz K (zv m))(hb:zm m.2)(he:m.2.length<=K)(h0:0<zv m)(hn:r.length=n)(hq:qn=n+1-d.length)(hc:0<d.length)(hK:2*K+n+5<=40000)(hg:d.length<=1000000)(hf:3000000<=fu):
 zg (uQ fu d m) fu ((qn:Int)-1,r,xaf qn (false,[]))=some (zi n<|tX r d (zv m) qn 0,zi qn<|dvQ r d (zv m) qn):=by
 refine zx (fun s:Int×List Zr×List Zr=>∃i:Nat,i<=qn/\s=((i:Int)-1,zi n<|tX r d (zv m) qn i,zi qn (fun k=>if i<=k then Lr r d (zv m) qn k else 0))) (fun s=>(s.1+1).toNat) _ ?_ _ _ ⟨qn,xab _,?_⟩ (by show((qn:Int)-1+1).toNat<fu;lia)
 ·rintro s L ⟨i,hi,rfl⟩ ih;unfold uQ;simp only
  cases i with
  |zero=>
   have e0:(zi qn fun k=>if 0<=k then Lr r d (zv m) qn k else 0)=zi qn (dvQ r d (zv m) qn):=xb fun k hk=>by
    rw[iq<|xah _];unfold dvQ;rw[iq hk]
   rw[zy,e0]
  |succ i=>
   have e1:((i+1:Nat):Int)-1=(i:Int):=by lia
   have e2:(i:Int)+(d.length:Int)-1=((i+(d.length-1):Nat):Int):=by lia
   have hp:Bz (2*K+qn) (tX r d (zv m) qn (i+1)<|i+(d.length-1)):=(Fa hr hd hm h0 _ _).mono (by lia);rw[e1,zN,zb,e2,zb,zp (by rw[yI];lia),zf,YK (by lia),za<|uu (hp.okS<|by lia) ⟨hb,by lia⟩ hf,zw];unfold B4;rw[zy];simp only;rw[zp (by rw[yI];lia),zf,KR,za<|RR (q:=Zl (fun k=>if i+1<=k then Lr r d (zv m) qn k else 0) i<|tX r d (zv m) qn (i+1) (i+(d.length-1))%zv m) hr hd hm h0 hn hq hc (by lia) hK ?_ hf]
   ·simp only;rw[zb];refine ih _ ⟨i,by lia,?_⟩ (by show((i:Int)-1+1).toNat<(((i+1:Nat):Int)-1+1).toNat;lia);congr 2;refine xb fun k hk=> ?_;unfold Zl;by_cases h:k=i
    ·rw[iq h,zN,h];rfl
    ·rw[ir h];show(if i+1<=k then _ else _)=_;by_cases h2:i+1<=k
     ·rw[iq h2,zN]
     ·rw[ir h2,zy]
   ·unfold Zl;rw[iq rfl];rfl
 ·rw[nW,<-ha,b7,xb (g:=fun k=>if qn<=k then Lr r d (zv m) qn k else 0) fun k hk=>by rw[zy]]
theorem XX{fu k K:Nat}{a d:List Zr}{m:Zr}(ha:y9 k a)(hk:k<=40000)(hd:y9 K d)(hb:zm m.2)(hg:m.2.length<=K)(h0:0<zv m)(hi:0<d.length)(hK:2*K+a.length+5<=40000)(hj:d.length<=1000000)(hf:3000000<=fu):
 qP fu a d m=some (AQ (wA a<|zv m) d<|zv m,YZ (wA a<|zv m) d<|zv m):=by
 unfold qP;have hm:Bz K (zv m):=(Bz.of hb).mono hg;have he:gK m:=⟨hb,by lia⟩;have hr:=Jy (a:=a) hm h0;have hl:=ZV a<|zv m;have hc:=za0<|Jc a<|zv m;rw[za<|Zn ha hk he h0];generalize wA a (zv m)=r at*
 obtain⟨qn,hq⟩:∃qn,qn=r.length+1-d.length:=⟨_,rfl⟩;have e1:max ((r.length:Int)-(d.length:Int)+1) 0=(qn:Int):=by lia
 rw[zb,zb,zf,e1,yE,yJ,zf,xaZ,zb,za<|DY hr hc hd hm hb hg h0 rfl hq hi (by lia) hj hf];simp only;have hQ:∀j,Bz K (dvQ r d (zv m) qn j):=fun j=>by
  unfold dvQ;split
  ·exact L3 hm h0 j
  ·exact Bz.zero _
 have hR:∀j,Bz (2*K+qn) (tX r d (zv m) qn 0 j):=fun j=>(Fa hr hd hm h0 _ _).mono (by lia);rw[za (Zn (Qy hQ) (by lia) he h0<|by rw[yI];lia),za<|Zn (Qy hR) (by lia) he h0<|by rw[yI];lia];unfold AQ YZ wA;rw[<-hq,yI,yI,iF fun k hk=>by rw[Gn hk],iF (n:=r.length) fun k hk=>by rw[Gn hk]]
end
section
variable{k:Nat}{a b:List Zr}
def mono(i:Nat)(c:Int):Nat->Int:=fun k=>if k=i then c else 0
theorem NT(a b:List Zr)(k:Nat):cf (aU a b) k=cf a k-cf b k:=jy (fun j hj=>by rw[ye (by lia),ye<|by lia];rfl) k
theorem QN(a b:List Zr):(aU a b).length<=max a.length b.length:=by unfold aU;rw[xJ];exact vZ _ _
theorem oj(ha:y9 k a)(hb:y9 k b):y9 (k+1) (aU a b):=xa fun j=>(ha.bz j).sub<|hb.bz j
theorem Bz.one':∀{k:Nat},1<=k->Bz k 1:=by grind [Bz,Bz.mono]
theorem GL(hl:a.length=b.length)(h:∀j,j<a.length->a.getD j (false,[])=b.getD j (false,[])):a=b:=by grind [xeR,xaa]
theorem Kb{fu:Nat}(ha:y9 k a)(hk:k<=1000000)(hb:a.length<=1000000)(hf:3000000<=fu):kM fu a b=some (decide<|a=b):=by
 unfold kM;by_cases hl:a.length=b.length
 ·rw[zN,za (v:=if a=b then .inl ()else .inr ())]
  ·by_cases h:a=b
   ·rw[iq h,decide_eq_true h]
   ·rw[ir h,decide_eq_false h]
  ·refine zx (fun i:Int=>∃j:Nat,i=(j:Int)/\j<=a.length/\∀l,l<j->a.getD l (false,[])=b.getD l (false,[])) (fun i=>a.length-i.toNat) _ ?_ _ _ ⟨0,rfl,xah _,fun l h=>absurd h<|xbp _⟩ (by show a.length-0<fu;lia);rintro i L ⟨j,rfl,hj,he⟩ ih;unfold U7;by_cases h1:j<a.length
   ·have:=(ha.get j).2;rw[zN,zp h1,zf,yj,zf,za<|J8 (by lia)<|by lia];by_cases h2:a.getD j (false,[])=b.getD j (false,[])
    ·rw[decide_eq_true h2,ir (by decide),zb];refine ih _ ⟨j+1,rfl,by lia,fun l h=> ?_⟩ (by lia);by_cases h3:l=j
     ·rw[h3];exact h2
     ·exact he l<|by lia
    ·rw[decide_eq_false h2,iq (by decide),ir<|fun e=>h2<|by rw[e]]
   ·rw[zy,iq<|GL hl fun l h=>he l<|by lia]
 ·rw[zy,decide_eq_false<|fun e=>hl<|by rw[e]]
theorem Bg{d:List Zr}(h:d.length≠0:=by lia):d.drop (d.length-1)=[d.getD (d.length-1) (false,[])]:=by grind [xcx,xcl,xaa]
end
section
theorem Bc{a b:List Zr}(k:Nat):∀c,XF a b (a.length+c) k=XF a b a.length k
 |0=>rfl
 |c+1=>by
  show XF a b (a.length+c) k+cf a (a.length+c)*L6 b (a.length+c) k=_;rw[Bc k c,ye (p:=a) (by lia),xaS,xbD]
theorem FT{a b:List Zr}{n:Nat}(h:a.length<=n)(k:Nat):XF a b n k=XF a b a.length k:=by
 have:=Bc (a:=a) (b:=b) k<|n-a.length;rw[show a.length+(n-a.length)=n by lia]at this;exact this
theorem tu{a b:List Zr}{m:Int}(h:∀k,cf a k%m=cf b k%m):wA a m=wA b m:=by grind [wA,aw,ye,xag]
section
variable{r d:List Zr}{m:Int}
theorem Pt{qn:Nat}{q:List Zr}(hq:∀j,j<qn->cf q j=Lr r d m qn j)(k:Nat):∀n,n<=qn->tX r d m qn n k=tX r d m qn 0 k+XF q d n k
 |0,_=>by show _=_+0;lia
 |n+1,h=>by
  have ih:=Pt hq k n (by lia);rw[tc (i:=n)<|by lia]at ih;show _=_+(XF q d n k+cf q n*L6 d n k);rw[hq n<|by lia];lia
theorem Pj(j:Nat):cf (AQ r d m) j=dvQ r d m (r.length+1-d.length) j%m:=jy (fun k hk=>by unfold dvQ;rw[zy,xag]) j
theorem te{qn:Nat}(hn:r.length<=qn+(d.length-1))(hb:0<d.length)(ha:cf d (d.length-1)=1):∀c i k,i+c=qn->i+(d.length-1)<=k->tX r d m qn i k%m=0
 |0,i,k,hi,hk=>by
  obtain rfl:i=qn:=by lia
  rw[nW,ye (by lia),xag]
 |c+1,i,k,hi,hk=>by
  rw[tc (i:=i)<|by lia];by_cases h:k=i+(d.length-1)
  ·unfold L6 Lr;rw[zN,show k-i=d.length-1 by lia,ha,xck,<-h,<-Int.emod_sub_emod,xdb,xag]
  ·have ih:=te hn hb ha c (i+1) k (by lia) (by lia);unfold L6;rw[zN,ye (p:=d) (by lia),xau,xcE];exact ih
theorem cL(h:r.length<=r.length+1-d.length+(d.length-1))(ha:0<d.length)(hb:cf d (d.length-1)=1)(k:Nat):cf (YZ r d m) k=tX r d m (r.length+1-d.length) 0 k%m:=
 jy (fun j hj=>by
  by_cases h2:d.length<=r.length
  ·exact te h ha hb _ 0 j (xaN _)<|by lia
  ·rw[show r.length+1-d.length=0 by lia,nW,ye hj,xag]) k
theorem AF(ha:0<d.length)(hb:cf d (d.length-1)=1):(YZ r d m).length<d.length:=by
 have h:(YZ r d m).length<=d.length-1:=C6 (uC _ _) fun k hk=>by
  rw[show vP r.length (fun k=>tX r d m (r.length+1-d.length) 0 k%m)=YZ r d m from rfl,cL (by lia) ha hb];exact te (by lia) ha hb _ 0 k (xaN _)<|by lia
 lia
end
end
section
variable{m:Int}
def zX:Nat->(Nat->Int)->Int
 |0,_=>0
 |n+1,f=>zX n f+f n
theorem zV{f g:Nat->Int}:∀{n},(∀k,k<n->f k=g k)->zX n f=zX n g
 |0,_=>rfl
 |n+1,h=>by
  show zX n f+f n=zX n g+g n;rw[zV fun k hk=>h k (by lia),h n<|by lia]
theorem Zo(f g:Nat->Int):∀n,zX n (fun k=>f k+g k)=zX n f+zX n g
 |0=>rfl
 |n+1=>by
  show zX n _+(f n+g n)=zX n f+f n+(zX n g+g n);rw[Zo f g n];lia
theorem jT(c:Int)(f:Nat->Int):∀n,zX n (fun k=>c*f k)=c*zX n f
 |0=>by show(0:Int)=c*0;lia
 |n+1=>by
  show zX n _+c*f n=c*(zX n f+f n);rw[jT c f n,xeX]
theorem Rm(c:Int)(f:Nat->Int)(n:Nat):zX n (fun k=>f k*c)=zX n f*c:=by grind [jT,zV,xbm]
theorem yG:∀{n}{f:Nat->Int},(∀k,k<n->f k=0)->zX n f=0
 |0,_,_=>rfl
 |n+1,f,h=>by
  show zX n f+f n=0;rw[yG fun k hk=>h k (by lia),h n<|by lia];rfl
theorem ks(f:Nat->Int):∀n,zX (n+1) f=f 0+zX n (fun k=>f<|k+1)
 |0=>by show(0:Int)+f 0=f 0+0;lia
 |n+1=>by
  show zX (n+1) f+f (n+1)=f 0+(zX n _+f (n+1));rw[ks f n];lia
theorem GM(f:Nat->Int):∀n,zX (n+1) f=zX (n+1) (fun k=>f<|n-k)
 |0=>rfl
 |n+1=>by
  rw[ks (fun k=>f<|n+1-k)<|n+1];show zX (n+1) f+f (n+1)=f (n+1-0)+_;rw[GM f n,Nat.sub_zero,zV (f:=fun k=>f<|n+1-(k+1)) (g:=fun k=>f<|n-k) fun k _=>by rw[show n+1-(k+1)=n-k by lia]];lia
theorem DC{f:Nat->Int}{n:Nat}(h:∀k,n<=k->f k=0):∀c,zX (n+c) f=zX n f
 |0=>rfl
 |c+1=>by
  show zX (n+c) f+f (n+c)=_;rw[DC h c,h _<|by lia];lia
theorem Ha(G:Nat->Nat->Int):∀n,zX n (fun i=>zX (i+1)<|fun j=>G j<|i-j)=zX n (fun j=>zX (n-j)<|fun l=>G j l)
 |0=>rfl
 |n+1=>by
  show zX n _+zX (n+1) (fun j=>G j<|n-j)=zX n _+zX (n+1-n) (fun l=>G n l);rw[Ha G n,zV (f:=fun j=>zX (n+1-j)<|fun l=>G j l) (g:=fun j=>zX (n-j) (fun l=>G j l)+G j (n-j)) fun j hj=>by rw[show n+1-j=(n-j)+1 by lia];rfl,Zo,show n+1-n=1 by lia];show _+(zX n (fun j=>G j<|n-j)+G n (n-n))=_+(0+G n 0);rw[xda];lia
abbrev Pz:=Nat->Int
instance:_root_.Add Pz:=⟨fun f g k=>f k+g k⟩
instance:_root_.Sub Pz:=⟨fun f g k=>f k-g k⟩
instance:_root_.Neg Pz:=⟨fun f k=> -f k⟩
instance:_root_.Mul Pz:=⟨fun f g k=>zX (k+1)<|fun i=>f i*g (k-i)⟩
def pc(c:Int):Pz:=fun k=>if k=0 then c else 0
theorem zI(f g:Pz)(k:Nat):(f+g) k=f k+g k:=rfl
theorem yz(f g:Pz)(k:Nat):(f-g) k=f k-g k:=rfl
theorem Hf(f:Pz)(k:Nat):(-f) k= -f k:=rfl
theorem xt(f g:Pz)(k:Nat):(f*g) k=zX (k+1) (fun i=>f i*g (k-i)):=rfl
theorem zj(f g:Pz):f*g=g*f:=by
 funext k;rw[xt,xt,GM];exact zV fun i hi=>by rw[show k-(k-i)=i by lia,xbm]
theorem xy(f g h:Pz):f*(g+h)=f*g+f*h:=by
 funext k;rw[zI,xt,xt,xt,<-Zo];exact zV fun i _=>by rw[zI,xeX]
theorem yg(f g h:Pz):(f+g)*h=f*h+g*h:=by grind [zj,xy]
theorem RJ(f g:Pz):f*(-g)= -(f*g):=by grind [Hf,zX,xt,jT,zV,xeC]
theorem sE(f g:Pz):f-g=f+ -g:=by
 funext k;rw[yz,zI,Hf];lia
theorem vj(f g h:Pz):f*(g-h)=f*g-f*h:=by grind [sE,xy,RJ]
theorem wO(f g h:Pz):(f-g)*h=f*h-g*h:=by grind [zj,vj]
theorem zd(f g h:Pz):f*g*h=f*(g*h):=by
 funext k;have e1:(f*g*h) k=zX (k+1) (fun i=>zX (i+1)<|fun j=>(fun j l=>f j*g l*h (k-(j+l))) j<|i-j):=by
  rw[xt];refine zV fun i hi=> ?_;rw[xt,<-Rm];exact zV fun j hj=>by
   show f j*g (i-j)*h (k-i)=f j*g (i-j)*h (k-(j+(i-j)));rw[show j+(i-j)=i by lia]
 rw[e1,Ha<|fun j l=>f j*g l*h (k-(j+l)),xt];refine zV fun j hj=> ?_;rw[xt,<-jT,show k+1-j=k-j+1 by lia];exact zV fun l hl=>by
  show f j*g l*h (k-(j+l))=f j*(g l*h (k-j-l));rw[show k-(j+l)=k-j-l by lia,xbK]
theorem zz(f g h:Pz):f*(g*h)=g*(f*h):=by grind [zd,zj]
theorem zE(c:Int)(f:Pz)(k:Nat):(pc c*f) k=c*f k:=by simp_all [pc,xt,ks,yG]
theorem zt(f:Pz):pc 1*f=f:=by funext k;rw[zE,xca]
theorem yb(f:Pz):pc 0*f=pc 0:=by
 funext k;rw[zE,xaS];unfold pc;split<;>rfl
theorem zL(k:Nat):pc 0 k=0:=by unfold pc;split<;>rfl
theorem qZ(a b:Int):pc a*pc b=pc (a*b):=by
 funext k;rw[zE];unfold pc;split
 ·rfl
 ·exact xau _
def Cg(m:Int)(f g:Pz):Prop:=∀k,f k%m=g k%m
theorem Cg.rfl{f:Pz}:Cg m f f:=fun _=>Eq.refl _
theorem Cg.of{f g:Pz}(h:f=g):Cg m f g:=fun _=>by rw[h]
theorem Cg.symm{m:Int}{f g:Pz}(h:Cg m f g):Cg m g f:=fun k=>(h k).symm
theorem Cg.trans{m:Int}{f g h:Pz}(h1:Cg m f g)(h2:Cg m g h):Cg m f h:=fun k=>(h1 k).trans<|h2 k
theorem Cg.add{f f' g g':Pz}(h1:Cg m f f')(h2:Cg m g g'):Cg m (f+g) (f'+g'):=fun k=>by
 rw[zI,zI,xdO,h1,h2,<-xdO]
theorem Cg.sub{f f' g g':Pz}(h1:Cg m f f')(h2:Cg m g g'):Cg m (f-g) (f'-g'):=fun k=>by
 rw[yz,yz,Int.sub_emod,h1,h2,<-Int.sub_emod]
theorem aB{m:Int}{f g:Nat->Int}:∀{n},(∀k,k<n->f k%m=g k%m)->zX n f%m=zX n g%m
 |0,_=>Eq.refl _
 |n+1,h=>by
  show(zX n f+f n)%m=(zX n g+g n)%m;rw[xdO,aB fun k hk=>h k (by lia),h n (by lia),<-xdO]
theorem Cg.mul{f f' g g':Pz}(h1:Cg m f f')(h2:Cg m g g'):Cg m (f*g) (f'*g'):=fun k=>by
 rw[xt,xt];exact aB fun i _=>by rw[xbr,h1,h2,<-xbr]
theorem Cg.down{n:Int}{f g:Pz}(h:Cg m f g)(hd:n∣m):Cg n f g:=fun k=>by
 have:=h k;rw[<-xcF (f k) hd,this,xcF _ hd]
theorem Cg.dvd{f:Pz}(h:Cg m f (pc 0))(k:Nat):m∣f k:=xaJ<|by rw[h,zL,xag]
theorem Cg.of_dvd{f:Pz}(h:∀k,m∣f k):Cg m f (pc 0):=fun k=>by rw[zL,xag,xaB<|h k]
theorem UH{m:Int}{f:Nat->Int}:∀{n},(∀k,k<n->m∣f k)->m∣zX n f
 |0,_=>xcO _
 |n+1,h=>Int.dvd_add (UH fun k hk=>h k<|by lia)<|h n<|by lia
theorem Cg.mul_zero{n:Int}{f g:Pz}(hf:Cg m f (pc 0))(hg:Cg n g (pc 0)):Cg (m*n) (f*g) (pc 0):=Cg.of_dvd fun k=>by
 rw[xt];exact UH fun i _=>xfP (hf.dvd i)<|hg.dvd _
theorem Cg.mul_zero_l{f:Pz}(g:Pz)(hf:Cg m f (pc 0)):Cg m (g*f) (pc 0):=by
 have:=(Cg.rfl (m:=m) (f:=g)).mul hf;rw[zj g<|pc 0,yb]at this;exact this
theorem Cg.iff_sub{f g:Pz}:Cg m f g↔Cg m (f-g) (pc 0):=by
 constructor
 ·intro h;refine Cg.of_dvd fun k=> ?_;rw[yz];exact xaJ<|xaE.1<|h k
 ·intro h k;have:=xaB<|h.dvd k;rw[yz]at this;exact xaE.2 this
end
section
variable{m:Int}{f g h s t:Pz}
theorem zO(f:Pz):f*pc 1=f:=by rw[zj,zt]
theorem zd8(f g h s t e q:Pz):f-(g+(t*e+q*g))*(h+(s*e-q*h))=(f-g*h-e)+(e*(pc 1-(s*g+t*h))-(t*s)*(e*e)+(t*h-g*s)*(q*e)+(g*h)*(q*q)):=by
 simp only[xy,yg,vj,wO,zO,zd,zz,zj];funext k;simp only[zI,yz];lia
theorem zcF(g h s t b c:Pz):(s-(s*b-c*h))*g+(t-(t*b+c*g))*h-pc 1=(s*g+t*h-pc 1-b)-(s*g+t*h-pc 1-b)*b-b*b:=by
 simp only[xy,yg,vj,wO,zO,zt,zd,zz,zj];funext k;simp only[zI,yz];lia
theorem Cg.zero_add(hf:Cg m f (pc 0))(hg:Cg m g (pc 0)):Cg m (f+g) (pc 0):=Cg.of_dvd fun k=>by rw[zI];exact Int.dvd_add (hf.dvd k)<|hg.dvd k
theorem Cg.zero_sub(hf:Cg m f (pc 0))(hg:Cg m g (pc 0)):Cg m (f-g) (pc 0):=Cg.of_dvd fun k=>by rw[yz];exact xdp (hf.dvd k)<|hg.dvd k
theorem Cg.mul_zero_r(g:Pz)(hf:Cg m f (pc 0)):Cg m (f*g) (pc 0):=by rw[zj];exact hf.mul_zero_l g
theorem zaz{n:Int}(hm:m∣n*n)(hn:n∣m){e q r g' h':Pz}(h1:Cg n f (g*h))(h2:Cg n (s*g+t*h) (pc 1))(he:Cg m e (f-g*h))(hd:Cg m (s*e) (q*h+r))(hq:Cg n q (pc 0))(hr:Cg n r (pc 0))(hg:Cg m g' (g+(t*e+q*g)))(hh:Cg m h' (h+r)):
 Cg m f (g'*h')/\Cg n g' g/\Cg n h' h:=by
 have ha:Cg n e (pc 0):=(he.down hn).trans<|Cg.iff_sub.1 h1;have hb:Cg m r (s*e-q*h):=by
  refine Cg.iff_sub.2<|Cg.of_dvd fun k=> ?_;have:=(Cg.iff_sub.1 hd).dvd k;simp only[zI,yz]at this⊢;have e1:r k-((s*e) k-(q*h) k)= -((s*e) k-((q*h) k+r k)):=by lia
  rw[e1];exact xfQ.2 this
 refine⟨?_,?_,?_⟩
 ·refine Cg.trans ?_<|Cg.symm<|hg.mul<|hh.trans<|Cg.rfl.add hb;refine Cg.iff_sub.2 ?_;rw[zd8];have z1:Cg m (f-g*h-e) (pc 0):=Cg.iff_sub.1 he.symm;have z2:Cg n (pc 1-(s*g+t*h)) (pc 0):=Cg.iff_sub.1 h2.symm;exact z1.zero_add ((((ha.mul_zero z2).down hm).zero_sub<|((ha.mul_zero ha).down hm).mul_zero_l _).zero_add (((hq.mul_zero ha).down hm).mul_zero_l _)|>.zero_add (((hq.mul_zero hq).down hm).mul_zero_l _))
 ·refine(hg.down hn).trans<|Cg.iff_sub.2 ?_;have e1:g+(t*e+q*g)-g=t*e+q*g:=by
   funext k;simp only[zI,yz];lia
  rw[e1];exact(ha.mul_zero_l t).zero_add<|hq.mul_zero_r g
 ·refine(hh.down hn).trans<|Cg.iff_sub.2 ?_;have e1:h+r-h=r:=by
   funext k;simp only[zI,yz];lia
  rw[e1];exact hr
theorem zcq{n:Int}(hm:m∣n*n)(hn:n∣m){b c d s' t':Pz}(h2:Cg n (s*g+t*h) (pc 1))(hb:Cg m b (s*g+t*h-pc 1))(hd:Cg m (s*b) (c*h+d))(hs:Cg m s' (s-d))(ht:Cg m t' (t-(t*b+c*g))):
 Cg m (s'*g+t'*h) (pc 1):=by
 have ha:Cg n b (pc 0):=(hb.down hn).trans<|Cg.iff_sub.1 h2;have hc:Cg m d (s*b-c*h):=by
  refine Cg.iff_sub.2<|Cg.of_dvd fun k=> ?_;have:=(Cg.iff_sub.1 hd).dvd k;simp only[zI,yz]at this⊢;have e1:d k-((s*b) k-(c*h) k)= -((s*b) k-((c*h) k+d k)):=by lia
  rw[e1];exact xfQ.2 this
 refine((hs.trans<|Cg.rfl.sub hc).mul Cg.rfl|>.add (ht.mul Cg.rfl)).trans<|Cg.iff_sub.2 ?_;rw[zcF];have z1:Cg m (s*g+t*h-pc 1-b) (pc 0):=Cg.iff_sub.1 hb.symm;exact(z1.zero_sub<|z1.mul_zero_r b).zero_sub<|(ha.mul_zero ha).down hm
end
section
variable{a p:Int}{fu j m:Nat}{f g:Pz}{l:List Int}
theorem IZ(hp:0<p:=by lia):(if xcc a p<0 then xcc a p+p else xcc a p)=a%p:=by
 have h1:=xcV a (show p≠0 by lia);have h2:=xdy a hp;rw[Int.tmod_eq_emod];by_cases h:0<=a\/p∣a
 ·rw[iq h,zy];lia
 ·rw[ir h,zN];lia
theorem uw(ha:0<=a:=by lia):xcc a p=a%p:=by grind [Int.tmod_eq_emod]
theorem yc(hp:0<p:=by lia):0<=a%p/\a%p<p:=⟨xcV a (by lia),xdy a hp⟩
theorem u6(h1:1<=p)(h2:p<=65521)(ha:VE a):kg fu a p=some (a%p):=by
 unfold kg;obtain⟨a1,a2⟩:=ha;have hr:=yc (a:=a) (p:=p);have ht:=IZ (a:=a) (p:=p);rw[zy,yJ,zf];by_cases h:xcc a p<0
 ·rw[iq h]at ht;rw[iq h,zb,ht]
 ·rw[ir h]at ht;rw[ir h,ht]
def zl(n:Nat)(f:Pz):List Int:=(xbc n).map f
def ci(l:List Int):Pz:=fun k=>l.getD k 0
def nl(n:Nat)(f:Pz):List Int:=zl (dg f n) f
theorem ZO(l:List Int)(k:Nat):l.getD k 0=ci l k:=rfl
theorem zK(n:Nat)(f:Pz):(zl n f).length=n:=by unfold zl;simp
theorem vT{n:Nat}(h:j<n:=by lia):(zl n f).getD j 0=f j:=by simp_all [zl]
theorem yo{n:Nat}(h:∀k,k<n->f k=g k):zl n f=zl n g:=by simp_all [zl]
theorem jS{n:Nat}{v:Int}:(zl n f).set j v=zl n (Zl f j v):=by
 refine xcy fun i=> ?_;unfold zl Zl;rw[xeb];by_cases h:j=i
 ·subst h;rw[iq rfl,xaP,xcA,xaT];by_cases hj:j<n
  ·rw[iq hj,xby hj];simp
  ·rw[ir hj,xaH<|by simp;lia];rfl
 ·rw[ir h,xaT,xaT];by_cases hi:i<n
  ·rw[xby hi];simp[Ne.symm h]
  ·rw[xaH<|by simp;lia];rfl
theorem JF(n:Nat):xaf n 0=zl n (fun _=>0):=by grind [zl,List.map_const',xcA]
theorem zeI{n:Nat}:zl n f++[f n]=zl (n+1) f:=by grind [zl,xdu]
theorem Ep{n:Nat}(h:m<=n:=by lia):(zl n f).take m=zl m f:=by
 unfold zl;rw[<-List.map_take,List.take_range,xcM h]
theorem jo{n:Nat}(h:j<n):ci (zl n f) j=f j:=vT h
theorem zM(h:l.length<=j):ci l j=0:=by simp_all [ci]
theorem ur{n:Nat}(h:∀k,n<=k->f k=0)(j:Nat):ci (zl n f) j=f j:=by grind [jo,zM,zK]
theorem Gw(l:List Int):zl l.length (ci l)=l:=by grind [zl,ci,zK,jo,xeR,xaa]
theorem zcJ(n:Nat)(f:Pz):(nl n f).length=dg f n:=zK _ _
theorem BJ(n:Nat)(f:Pz):(nl n f).length<=n:=by rw[zcJ];exact vZ _ _
theorem sx{n:Nat}(h:∀k,n<=k->f k=0)(j:Nat):ci (nl n f) j=f j:=by
 refine ur (fun k hk=> ?_) j;by_cases hn:k<n
 ·exact J4 f n k hk hn
 ·exact h k<|by lia
theorem zhW{n:Nat}(hf:∀k,n<=k->f k=0)(hg:∀k,m<=k->g k=0)(h:∀k,f k=g k):dg f n=dg g m:=by
 refine ax ?_ ?_ ?_
 ·refine xbw fun ha=> ?_;have:=Vf g m (by lia);rw[<-h,hf _<|by lia]at this;exact this rfl
 ·intro k h1 h2;rw[h];by_cases hk:k<m
  ·exact J4 g m k h1 hk
  ·exact hg k<|by lia
 ·by_cases h0:dg g m=0
  ·exact .inl h0
  ·right;rw[h];exact Vf g m h0
theorem zim{n:Nat}(hf:∀k,n<=k->f k=0)(hg:∀k,m<=k->g k=0)(h:∀k,f k=g k):nl n f=nl m g:=by grind [nl,zhW,yo]
theorem sU{n:Nat}(h:∀k,k<n->f k=g k):nl n f=nl n g:=by grind [nl,tE,vZ,yo]
def Nl(l:List Int):Prop:=l.length=0\/ci l (l.length-1)≠0
theorem me(n:Nat)(f:Pz):Nl (nl n f):=by
 by_cases h:(nl n f).length=0
 ·exact .inl h
 ·right;rw[zcJ]at h⊢;unfold nl;rw[jo<|by lia];exact Vf f n h
theorem Nl.eq(h:Nl l):l=nl l.length (ci l):=by
 have e:dg (ci l) l.length=l.length:=ax (xab _) (fun k h1 h2=>by lia)<|h.imp id id;unfold nl;rw[e,Gw]
theorem Nl.ext{a b:List Int}(ha:Nl a)(hb:Nl b)(h:∀k,ci a k=ci b k):a=b:=by
 rw[ha.eq,hb.eq];exact zim (fun k hk=>zM hk) (fun k hk=>zM hk) h
theorem Nl.le(h:Nl l){n:Nat}(hz:∀k,n<=k->ci l k=0):l.length<=n:=by
 refine xbw fun ha=> ?_;rcases h with h|h
 ·lia
 ·exact h<|hz _<|by lia
def Rl(l:List Int):Prop:=∀k,VE<|ci l k
structure Fp(p:Int)(l:List Int):Prop where
 nn:∀k,0<=ci l k
 lt:∀k,ci l k<p
 nl:Nl l
def pm(p:Int)(l:List Int):List Int:=nl l.length<|fun k=>ci l k%p
theorem Cu(p:Int)(l:List Int)(k:Nat):ci (pm p l) k=ci l k%p:=sx (fun k hk=>by rw[zM hk,xag]) k
theorem Og(p:Int)(l:List Int):(pm p l).length<=l.length:=BJ _ _
theorem tn(hp:0<p)(l:List Int):Fp p (pm p l):=⟨fun k=>by rw[Cu];exact(yc hp).1,fun k=>by rw[Cu];exact(yc hp).2,me _ _⟩
theorem GU(p:Int)(l:List Int):Cg p (ci<|pm p l) (ci l):=fun k=>by rw[Cu,xaF]
theorem Fp.mod(h:Fp p l)(k:Nat):ci l k%p=ci l k:=xaC (h.nn k)<|h.lt k
theorem Fp.pm{p:Int}{l:List Int}(h:Fp p l):pm p l=l:=by
 refine Nl.ext (me _ _) h.nl fun k=> ?_;exact(Cu p l k).trans<|h.mod k
theorem Fp.ext{p:Int}{a b:List Int}(ha:Fp p a)(hb:Fp p b)(h:Cg p (ci a) (ci b)):a=b:=Nl.ext ha.nl hb.nl fun k=>by rw[<-ha.mod,h,hb.mod]
theorem Fp.rl(h:Fp p l)(hp:p<=65521):Rl l:=fun k=>by
 have h1:=h.nn k;have h2:=h.lt k;exact⟨by lia,by lia⟩
theorem zF(h1:1<=p)(h2:p<=65521)(hr:Rl l)(hl:l.length<=1000000)(hf:3000000<=fu):zT fu l p=some (pm p l):=by
 unfold zT;have hd:=vZ (fun k=>ci l k%p) l.length;rw[yE,yJ,zf,JF,za (v:=zl l.length<|fun k=>ci l k%p)]
 ·rw[za (v:=pm p l)];refine zx (fun t:List Int=>∃m,m<=l.length/\t=zl m (fun k=>ci l k%p)/\dg (fun k=>ci l k%p) m=dg (fun k=>ci l k%p) l.length) (fun t=>t.length) _ ?_ _ _ ⟨l.length,xab _,rfl,rfl⟩ (by rw[zK];lia);rintro t L ⟨m,hm,rfl,hg⟩ ih;unfold Kl;rw[zK]
  cases m with
  |zero=>
   rw[zy];unfold pm nl;rw[<-hg];rfl
  |succ m=>
   rw[zN,show((m+1:Nat):Int)-1=(m:Int)by lia,zb,yj,zf,vT];by_cases h0:ci l m%p=0
   ·rw[iq h0,zb,yE,yJ,zf,Ep];exact ih _ ⟨m,by lia,rfl,by rw[<-K2 (f:=fun k=>ci l k%p) h0,hg]⟩<|by rw[zK,zK];lia
   ·rw[ir h0];unfold pm nl;rw[<-hg,UI (f:=fun k=>ci l k%p) h0]
 ·refine zx (fun s:Int×List Int=>∃i:Nat,i<=l.length/\s=((i:Int),zl l.length (fun k=>if k<i then ci l k%p else 0))) (fun s=>l.length-s.1.toNat) _ ?_ _ _ ⟨0,xah _,by rw[yo (g:=fun k=>if k<0 then ci l k%p else 0)<|fun k _=>by rw[zy]];rfl⟩ (by show l.length-0<fu;lia);rintro s L ⟨i,hi,rfl⟩ ih;unfold Ko;simp only;by_cases h:i<l.length
  ·rw[zN,zp h,zf,ZO,za<|u6 h1 h2<|hr i,zp (by rw[zK];exact h),zf,jS,zb];refine ih _ ⟨i+1,by lia,?_⟩ (by show l.length-((i:Int)+1).toNat<l.length-(i:Int).toNat;lia);congr 1;refine yo fun k hk=> ?_;unfold Zl;by_cases e:k=i
   ·rw[iq e,zN,e]
   ·rw[ir e];show(if k<i then ci l k%p else 0)=_;by_cases e2:k<i
    ·rw[iq e2,zN]
    ·rw[ir e2,zy]
  ·rw[zy];congr 1;exact yo fun k hk=>by rw[zN]
end
section
variable{f g:Pz}{p:Int}{fu:Nat}{a b:List Int}
def sh(g:Pz)(i k:Nat):Int:=if i<=k then g (k-i)else 0
def Ad(f g:Pz)(n k:Nat):Int:=zX n<|fun i=>f i*sh g i k
theorem eF{n:Nat}(hf:∀k,n<=k->f k=0)(k:Nat):Ad f g n k=(f*g) k:=by
 have e1:=DC (f:=fun i=>f i*sh g i k) (n:=n) (fun i hi=>by rw[hf i hi,xaS])<|k+1;have e2:=DC (f:=fun i=>f i*sh g i k) (n:=k+1) (fun i hi=>by unfold sh;rw[zy,xau]) n;rw[xdD]at e2;unfold Ad;rw[<-e1,e2,xt];exact zV fun i hi=>by unfold sh;rw[zN]
theorem Gm(a b:List Zr)(k:Nat):∀n,XF a b n k=Ad (cf a) (cf b) n k
 |0=>rfl
 |n+1=>by
  show XF a b n k+cf a n*L6 b n k=Ad (cf a) (cf b) n k+cf a n*sh (cf b) n k;rw[Gm a b k n];rfl
theorem qG(a b:List Zr):cf (yQ a b)=(cf a:Pz)*cf b:=by grind [OC,Gm,eF,ye]
def e9(f g:Pz)(i j k:Nat):Int:=Ad f g i k+if i<=k/\k<i+j then f i*g (k-i)else 0
theorem Cc(f g:Pz)(i k:Nat):e9 f g i 0 k=Ad f g i k:=by
 unfold e9;rw[zy,xbD]
theorem BS{n:Nat}(hg:∀k,n<=k->g k=0)(i k:Nat):e9 f g i n k=Ad f g (i+1) k:=by
 show _=Ad f g i k+f i*sh g i k;unfold e9 sh;congr 1;by_cases h:i<=k
 ·rw[iq h];by_cases h2:k<i+n
  ·rw[if_pos ⟨h,h2⟩]
  ·rw[ir<|fun e=>h2 e.2,hg _ (by lia),xau]
 ·rw[ir<|fun e=>h e.1,ir h,xau]
theorem Cz(f g:Pz)(p:Int)(i j k:Nat):Zl (fun k=>e9 f g i j k%p) (i+j) ((e9 f g i j (i+j)%p+f i*g j)%p) k=e9 f g i (j+1) k%p:=by
 unfold Zl;by_cases h:k=i+j
 ·subst h;rw[iq rfl,Int.emod_add_emod];unfold e9;rw[zy,if_pos ⟨by lia,by lia⟩,show i+j-i=j by lia,xbD]
 ·rw[ir h];show e9 f g i j k%p=_;unfold e9;congr 2;by_cases h2:i<=k/\k<i+j
  ·rw[iq h2,if_pos ⟨h2.1,by lia⟩]
  ·rw[ir h2,zy]
def y3(p:Int)(a b:List Int):List Int:=nl (a.length+b.length)<|fun k=>(ci a*ci b) k%p
theorem vL{n m:Nat}(hf:∀k,n<=k->f k=0)(hg:∀k,m<=k->g k=0){k:Nat}(h:n+m<=k+1:=by lia):(f*g) k=0:=by
 rw[xt];refine yG fun i hi=> ?_;by_cases h1:i<n
 ·rw[hg (k-i) (by lia),xau]
 ·rw[hf i (by lia),xaS]
theorem Ji(p:Int)(a b:List Int)(k:Nat):ci (y3 p a b) k=(ci a*ci b) k%p:=sx (fun k hk=>by rw[vL (fun j hj=>zM hj)<|fun j hj=>zM hj,xag]) k
theorem kK(p:Int)(a b:List Int):Cg p (ci<|y3 p a b) (ci a*ci b):=fun k=>by rw[Ji,xaF]
theorem vR(hp:0<p)(a b:List Int):Fp p (y3 p a b):=⟨fun k=>by rw[Ji];exact(yc hp).1,fun k=>by rw[Ji];exact(yc hp).2,me _ _⟩
theorem qC(p:Int)(a b:List Int):(y3 p a b).length<=a.length+b.length:=BJ _ _
theorem Xq{x y:Int}(h2:p<=65521)(hx:0<=x)(ha:x<p)(hy:0<=y)(hb:y<p):0<=x*y/\x*y<=4293001441:=by
 refine⟨xcB hx hy,?_⟩;have h1:x*y<=65521*y:=xbz (by lia) hy;lia
theorem wh(h1:1<=p)(h2:p<=65521)(ha:Fp p a)(hb:Fp p b)(hc:a.length<=100000)(hd:b.length<=100000)(hf:3000000<=fu):xT fu a b p=some (y3 p a b):=by
 unfold xT;obtain⟨n,hn⟩:∃n,n=a.length+b.length:=⟨_,rfl⟩;rw[zb,show(a.length:Int)+(b.length:Int)=(n:Int)by lia,yE,yJ,zf,JF,za (v:=zl n<|fun k=>Ad (ci a) (ci b) a.length k%p)]
 ·have hz:∀k,n<=k->Ad (ci a) (ci b) a.length k%p=0:=fun k hk=>by rw[eF<|fun j hj=>zM hj,vL (fun j hj=>zM hj)<|fun j hj=>zM hj,xag]
  have hr:Rl (zl n<|fun k=>Ad (ci a) (ci b) a.length k%p):=fun k=>by
   rw[ur hz];have:=yc (a:=Ad (ci a) (ci b) a.length k) (p:=p);exact⟨by lia,by lia⟩
  rw[za<|zF h1 h2 hr (by rw[zK];lia) hf];congr 1;unfold pm y3;rw[zK,<-hn];exact sU fun k hk=>by rw[jo hk,xaF,eF<|fun j hj=>zM hj]
 ·refine zx (fun s:Int×List Int=>∃i:Nat,i<=a.length/\s=((i:Int),zl n<|fun k=>Ad (ci a) (ci b) i k%p)) (fun s=>a.length-s.1.toNat) _ ?_ _ _ ⟨0,xah _,by rw[yo (g:=fun k=>Ad (ci a) (ci b) 0 k%p) fun k _=>by show(0:Int)=0%p;rw[xag]];rfl⟩ (by show a.length-0<fu;lia);rintro s L ⟨i,hi,rfl⟩ ih;unfold VO;simp only;by_cases h3:i<a.length
  ·rw[zN,za rfl];simp only[if_true];rw[zp h3,zf,za (v:=zl n<|fun k=>Ad (ci a) (ci b) (i+1) k%p),zb]
   ·exact ih _ ⟨i+1,by lia,rfl⟩ (by show a.length-((i:Int)+1).toNat<a.length-(i:Int).toNat;lia)
   ·refine zx (fun s:Int×List Int=>∃j:Nat,j<=b.length/\s=((j:Int),zl n<|fun k=>e9 (ci a) (ci b) i j k%p)) (fun s=>b.length-s.1.toNat) _ ?_ _ _ ⟨0,xah _,by rw[yo fun k _=>by rw[<-Cc]];rfl⟩ (by show b.length-0<fu;lia);rintro s L2 ⟨j,hj,rfl⟩ ih2;unfold Qh;simp only;by_cases h4:j<b.length
    ·rw[zN,za rfl];simp only[if_true];have e:(i:Int)+(j:Int)=((i+j:Nat):Int):=by lia
     have r1:=yc (a:=e9 (ci a) (ci b) i j<|i+j) (p:=p);obtain⟨r2,r3⟩:=Xq h2 (ha.nn i) (ha.lt i) (hb.nn j)<|hb.lt j;rw[zp h4,zf,e,zb,zb,zp (by rw[zK];lia),zf,vT,ZO,ZO,zb,zb,yJ,zf,uw,zp (by rw[zK];lia),zf,jS,zb];exact ih2 _ ⟨j+1,by lia,by rw[yo fun k _=>Cz (ci a) (ci b) p i j k];rfl⟩ (by show b.length-((j:Int)+1).toNat<b.length-(j:Int).toNat;lia)
    ·rw[zy,za rfl];simp only[xak,if_false];obtain rfl:j=b.length:=by lia
     rw[yo fun k _=>by rw[BS<|fun k hk=>zM hk]]
  ·rw[zy,za rfl];simp only[xak,if_false];obtain rfl:i=a.length:=by lia
   rfl
def Ya(p:Int)(a b:List Int)(c:Int):List Int:=nl (max a.length b.length)<|fun k=>(ci a k+c*ci b k)%p
theorem C7(p:Int)(a b:List Int)(c:Int)(k:Nat):ci (Ya p a b c) k=(ci a k+c*ci b k)%p:=sx (fun k hk=>by rw[zM (by lia),zM (by lia),xau];exact xag _) k
theorem CN(p:Int)(a b:List Int)(c:Int):Cg p (ci<|Ya p a b c) (ci a+pc c*ci b):=fun k=>by rw[C7,xaF,zI,zE]
theorem JY(hp:0<p)(a b:List Int)(c:Int):Fp p (Ya p a b c):=⟨fun k=>by rw[C7];exact(yc hp).1,fun k=>by rw[C7];exact(yc hp).2,me _ _⟩
theorem nX(p:Int)(a b:List Int)(c:Int):(Ya p a b c).length<=max a.length b.length:=BJ _ _
theorem zhv{n:Nat}(h:a.length<=n):cpy (xaf n 0) a=zl n (ci a):=by
 unfold cpy;rw[xaZ,xcM h,xcP,List.drop_replicate];refine xeR (by rw[xax,xaZ,zK];lia) fun j h1 h2=> ?_;have h3:=jo (n:=n) (f:=ci a) (j:=j) (by rw[zK]at h2;exact h2);have e:(a++xaf (n-a.length) 0).getD j 0=a.getD j 0:=by
  rw[H1,List.getElem?_append];by_cases hj:j<a.length
  ·rw[iq hj,<-H1]
  ·rw[ir hj,ZO,zM (by lia),xfe];split<;>rfl
 have h4:(zl n<|ci a).getD j 0=a.getD j 0:=h3;rw[<-h4,H1,H1,xaa h1,xaa h2]at e;exact e
theorem Vo{c:Int}(h1:1<=p)(h2:p<=65521)(ha:Fp p a)(hb:Fp p b)(hc:0<=c)(hd:c<p)(hg:a.length<=100000)(hj:b.length<=100000)(hf:3000000<=fu):Zh fu a b c p=some (Ya p a b c):=by
 unfold Zh;obtain⟨n,hn⟩:∃n,n=max a.length b.length:=⟨_,rfl⟩;have hz:∀k,n<=k->ci a k+c*ci b k=0:=fun k hk=>by rw[zM (by lia),zM (by lia),xau];rfl
 have he:∀k,0<=ci a k+c*ci b k/\ci a k+c*ci b k<=4293066962:=fun k=>by
  obtain⟨r2,r3⟩:=Xq h2 hc hd (hb.nn k)<|hb.lt k;have:=ha.nn k;have:=ha.lt k;lia
 rw[zf,show max (a.length:Int) (b.length:Int)=(n:Int)by lia,yE,yJ,zf,zf,zhv (by lia),za (v:=zl n<|fun k=>ci a k+c*ci b k)]
 ·have hr:Rl (zl n<|fun k=>ci a k+c*ci b k):=fun k=>by
   rw[ur hz];have:=he k;exact⟨by lia,by lia⟩
  rw[za<|zF h1 h2 hr (by rw[zK];lia) hf];congr 1;unfold pm Ya;rw[zK,<-hn];exact sU fun k hk=>by rw[jo hk]
 ·refine zx (fun s:Int×List Int=>∃i:Nat,i<=b.length/\s=((i:Int),zl n (fun k=>ci a k+if k<i then c*ci b k else 0))) (fun s=>b.length-s.1.toNat) _ ?_ _ _ ⟨0,xah _,by rw[yo (f:=ci a) (g:=fun k=>ci a k+if k<0 then c*ci b k else 0) fun k _=>by rw[zy,xbD]];rfl⟩ (by show b.length-0<fu;lia);rintro s L ⟨i,hi,rfl⟩ ih;unfold bS;simp only;by_cases h3:i<b.length
  ·rw[zN,za rfl];simp only[if_true];obtain⟨r2,r3⟩:=Xq h2 hc hd (hb.nn i)<|hb.lt i;have:=ha.nn i;have:=ha.lt i;rw[zp h3,zf,zp (by rw[zK];lia),zf,vT,ir<|Nat.lt_irrefl i,xbD,ZO,zb,zb,zp (by rw[zK];lia),zf,jS,zb];refine ih _ ⟨i+1,by lia,?_⟩ (by show b.length-((i:Int)+1).toNat<b.length-(i:Int).toNat;lia);congr 1;refine yo fun k hk=> ?_;unfold Zl;by_cases e:k=i
   ·rw[iq e,zN,e]
   ·rw[ir e];show ci a k+(if k<i then c*ci b k else 0)=_;by_cases e2:k<i
    ·rw[iq e2,zN]
    ·rw[ir e2,zy]
  ·rw[zy,za rfl];simp only[xak,if_false];congr 1;refine yo fun k hk=> ?_;by_cases e2:k<i
   ·rw[iq e2]
   ·rw[ir e2,zM (l:=b) (by lia),xau]
end
section
variable{p a fu:Nat}
theorem af(hp:2<=p)(h:vX p)(h0:0<a:=by lia)(h1:a<p:=by lia):xen p a=1:=by
 obtain⟨g,hg⟩:∃g,g=xen p a:=⟨_,rfl⟩;have d1:g∣p:=by rw[hg];exact Nat.gcd_dvd_left _ _
 have d2:g∣a:=by rw[hg];exact Nat.gcd_dvd_right _ _
 have hc:g<=a:=Nat.le_of_dvd h0 d2;have ha:0<g:=Nat.pos_of_dvd_of_pos d1 (by lia);rw[<-hg];refine xcU (xbw fun h2=> ?_) ha;by_cases hs:g*g<=p
 ·exact h g (by lia) hs<|Nat.mod_eq_zero_of_dvd d1
 ·obtain⟨d,hd⟩:=d1;have he:d<g:=by
   refine xdz fun h3=>hs ?_;rw[hd];exact xaD _ h3
  have hb:2<=d:=by
   refine xbw fun h3=> ?_;have:d=0\/d=1:=by lia
   rcases this with e|e
   ·rw[e,xcN]at hd;lia
   ·rw[e,xcG]at hd;lia
  refine h d hb ?_ ?_
  ·rw[hd];exact xaw _<|by lia
  ·rw[hd];exact Nat.mul_mod_left _ _
theorem ku{p:Int}(hp:wz p=true)(hf:400<fu:=by lia):wi fu p=some 0:=by grind [wi,za,YI]
structure IvI(p a:Nat)(r0 r1:Nat)(t0 t1:Int):Prop where
 lt:r1<r0
 two:2<=r0
 le:r0<=p
 c0:(p:Int)∣(r0:Int)-t0*a
 c1:(p:Int)∣(r1:Int)-t1*a
 g:xen r0 r1=1
 s:∃u0 u1:Nat,((t0=u0/\t1= -u1)\/(t0= -u0/\t1=u1))/\r0*u1+r1*u0=p
theorem IvI.step{r0 r1:Nat}{t0 t1:Int}(h:IvI p a r0 r1 t0 t1)(h2:2<=r1):IvI p a r1 (r0%r1) t1 (t0-((r0/r1:Nat):Int)*t1)/\(((r0/r1:Nat):Int)*t1).natAbs<=p/\(t0-((r0/r1:Nat):Int)*t1).natAbs<=p:=by
 have hd:=xbB r0 r1;have hf:=xbi r0 (show 0<r1 by lia);obtain⟨u0,u1,hs,he⟩:=h.s;generalize hq:r0/r1=q at*
 generalize hr:r0%r1=r2 at*
 have hg:=h.le;have hi:=h.lt;have e1:r1*(u0+q*u1)+r2*u1=p:=by
  rw[xbh,<-xaX];have:r0*u1=r1*q*u1+r2*u1:=by rw[<-xaV,hd]
  lia
 have hb:u0+q*u1<=p:=by
  have h3:1*(u0+q*u1)<=r1*(u0+q*u1):=xaw _ (by lia);lia
 have ha:((q*u1:Nat):Int)=(q:Int)*(u1:Int):=by simp
 have hc:((t1=u1/\t0-(q:Int)*t1= -((u0+q*u1:Nat):Int))\/(t1= -u1/\t0-(q:Int)*t1=((u0+q*u1:Nat):Int)))/\((q:Int)*t1).natAbs<=p:=by
  rcases hs with⟨a1,a2⟩|⟨a1,a2⟩
  ·rw[a1,a2,xeC,<-ha];exact⟨.inr ⟨rfl,by lia⟩,by lia⟩
  ·rw[a1,a2,<-ha];exact⟨.inl ⟨rfl,by lia⟩,by lia⟩
 refine⟨⟨hf,h2,by lia,h.c1,?_,?_,u1,u0+q*u1,hc.1,e1⟩,hc.2,by rcases hc.1 with⟨_,e⟩|⟨_,e⟩<;>lia⟩
 ·have h3:=xdp h.c0<|xbG h.c1<|xcQ (q:Int) _;have e2:(r0:Int)-t0*a-(q:Int)*((r1:Int)-t1*a)=(r2:Int)-(t0-(q:Int)*t1)*a:=by
   rw[Int.mul_sub,xfR,xbK];have:(r0:Int)=(r1:Int)*(q:Int)+(r2:Int):=by rw[<-hd];simp
   rw[this,xbm (r1:Int)];lia
  rw[e2]at h3;exact h3
 ·have h3:=h.g;rw[<-hr,xeE,<-Nat.gcd_rec,xeE];exact h3
theorem zaL(hp:p<=65521)(hf:70000<fu){t:Int}:∀{r0 r1:Nat}{t0 t1:Int},IvI p a r0 r1 t0 t1->∀n,r1<n->∃x:Int,zg (cG fu) n ((r0:Int),(r1:Int),t0,t1)=some (.inl x)/\(p:Int)∣1-x*a/\x.natAbs<=p:=by
 intro r0 r1
 induction r1 using xds generalizing r0 with
 |_ r1 ih=>
  intro t0 t1 h n hn;obtain⟨n,rfl⟩:∃k,n=k+1:=⟨n-1,by lia⟩;rw[jc];unfold cG;simp only;have hb:=h.lt;have ha:=h.two;have hc:=h.le;by_cases h0:r1=0
  ·have:=h.g;rw[h0,Nat.gcd_zero_right]at this;lia
  ·rw[zy];by_cases h1:r1=1
   ·rw[zN];refine⟨t1,rfl,?_,?_⟩
    ·have:=h.c1;rw[h1]at this;exact this
    ·obtain⟨u0,u1,hs,he⟩:=h.s;have h3:1*u1<=r0*u1:=xaw _ (by lia);rcases hs with⟨_,e⟩|⟨_,e⟩<;>lia
   ·obtain⟨s1,s2,s3⟩:=h.step (by lia);have e1:xdd (r0:Int) (r1:Int)=((r0/r1:Nat):Int):=rfl;have hd:=xbB r0 r1;have e2:((r0/r1:Nat):Int)*(r1:Int)=((r1*(r0/r1):Nat):Int):=by rw[xbm];simp
    have hg:((r0/r1:Nat):Int)<=(r0:Int):=Int.ofNat_le.2<|xea _ _;have hi:(0:Int)<=((r0/r1:Nat):Int):=xde _;rw[zy,yJ,e1,zb,e2,zb,show(r0:Int)-((r1*(r0/r1):Nat):Int)=((r0%r1:Nat):Int)by lia,zb,zb,zb];exact ih (r0%r1) (xbi _<|by lia) s1 n (by have:=xbi r0 (show 0<r1 by lia);lia)
theorem Qn{p a:Int}(hp:wz p=true)(h0:0<a)(h1:a<p)(hf:3000000<=fu):∃x,Xl fu a p=some (x,0)/\0<=x/\x<p/\(x*a)%p=1:=by
 obtain⟨p1,p2⟩:=zn hp;have ha:vX p.toNat:=by
  refine xae fun h=> ?_;rw[tN<|fun e=>h e.2.2]at hp;exact absurd hp<|by decide
 obtain⟨P,rfl⟩:=xaA (show 0<=p by lia);obtain⟨A,rfl⟩:=xaA (show 0<=a by lia);have hI:IvI P A P A 0 1:=⟨by lia,by lia,xab _,by rw[xaS,xcE];exact xdP _,by rw[xca,xdb];exact xcO _,af (by lia) ha,0,1,.inr ⟨rfl,rfl⟩,by lia⟩;obtain⟨x,k1,k2,k3⟩:=zaL (fu:=fu) (t:=0) (show P<=65521 by lia) (by lia) hI fu (by lia);have hr:=yc (a:=x) (p:=(P:Int));refine⟨x%P,?_,hr.1,hr.2,?_⟩
 ·unfold Xl;rw[za<|ku hp,iq rfl,za<|u6 (by lia) (by lia) ⟨by lia,by lia⟩,xaC (a:=(A:Int)) (by lia) (by lia),za k1];simp only;rw[za<|u6 (by lia) (by lia) ⟨by lia,by lia⟩]
 ·rw[xbr,xaF,<-xbr];have:=xaE.2<|xaB k2;rw[<-this];exact xaC (by decide)<|by lia
end
section
variable{p x:Int}{fu i qn:Nat}{a b:List Int}{R Q:Pz}
theorem yv{α β:Type}{f:(β->Option α)->β->Option α}(I:β->Prop)(m:β->Nat)(Q:α->Prop)
 (step:∀s L,I s->(∀s',I s'->m s'<m s->∃r,L s'=some r/\Q r)->∃r,f L s=some r/\Q r):∀(n:Nat) (s:β),I s->m s<n->∃r,zg f n s=some r/\Q r
 |0,s,_,h=>absurd h<|xbp _
 |n+1,s,hI,h=>step s _ hI fun s' ha hm=>yv I m Q step n s' ha<|by lia
theorem xU{f:Nat->Int}{i:Nat}(h:∀k,k≠i->f k=0):∀n,zX n f=if i<n then f i else 0
 |0=>by rw[ir<|xbp _];rfl
 |n+1=>by
  show zX n f+f n=_;rw[xU h n];by_cases h1:i<n
  ·rw[iq h1,zN,h n (by lia),xbD]
  ·rw[ir h1,xcD];by_cases h2:n=i
   ·rw[zN,h2]
   ·rw[zy,h n h2]
theorem Zz(i:Nat)(c:Int)(g:Pz)(k:Nat):((mono i c:Pz)*g) k=c*sh g i k:=by
 rw[xt,xU (i:=i) fun j hj=>by show mono i c j*_=0;unfold mono;rw[ir hj,xaS]];unfold sh;by_cases h:i<=k
 ·rw[zN,iq h];unfold mono;rw[iq rfl]
 ·rw[zy,ir h,xau]
theorem qk(x:Int):ci [x]=pc x:=by
 funext k
 cases k with
 |zero=>rfl
 |succ k=>exact zM<|by simp
theorem Yq(h0:0<x:=by lia)(h1:x<p:=by lia):Fp p [x]:=⟨fun k=>by rw[qk];unfold pc;split<;>lia,fun k=>by rw[qk];unfold pc;split<;>lia,.inr (by show x≠0;lia)⟩
theorem MJ(h:0<p:=by lia):Fp p []:=⟨fun k=>by rw[zM<|xah _];lia,fun k=>by rw[zM<|xah _];exact h,.inl rfl⟩
theorem PB{c:Int}(h:0<=x)(hx:(x*c)%p=1):0<x:=by
 rcases Int.lt_or_eq_of_le h with h|h
 ·exact h
 ·rw[<-h,xaS,xag]at hx;cases hx
theorem Qk{c:Int}(hp:wz p=true)(ha:Fp p a)(h0:0<c)(h1:c<p)(hb:a.length<=90000)(hf:3000000<=fu):∃x,0<x/\x<p/\(x*c)%p=1/\Xl fu c p=some (x,0)/\vr fu a c p=some (y3 p a [x]):=by
 obtain⟨p1,p2⟩:=zn hp;obtain⟨x,e1,e2,e3,e4⟩:=Qn hp h0 h1 hf;have hx:=PB e2 e4;refine⟨x,hx,e3,e4,e1,?_⟩;unfold vr;rw[za e1];simp only;rw[za<|wh (by lia) p2 ha (Yq hx e3) (by lia) (by simp) hf]
def cz(R g:Pz)(p c:Int)(i j:Nat):Pz:=fun k=>if i<=k/\k<i+j then(R k+(p-c)*g (k-i))%p else R k
theorem Sp(R g:Pz)(p c:Int)(i j k:Nat):Zl (cz R g p c i j) (i+j) ((R (i+j)+(p-c)*g j)%p) k=cz R g p c i (j+1) k:=by grind [cz,Zl]
theorem R8{g:Pz}{c:Int}{n:Nat}(hR:∀k,R k%p=R k)(hg:∀k,n<=k->g k=0)(k:Nat):cz R g p c i n k%p=(R k-c*sh g i k)%p:=by
 unfold cz sh;by_cases h:i<=k/\k<i+n
 ·rw[iq h,iq h.1,xaF,xfR];refine xaE.2<|xaB ⟨g<|k-i,?_⟩;lia
 ·rw[ir h];by_cases h2:i<=k
  ·rw[iq h2,hg _ (by lia),xau,xcE]
  ·rw[ir h2,xau,xcE]
theorem RE{n:Nat}{c:Int}(h1:1<=p)(h2:p<=65521)(hb:Fp p b)(hR:∀k,0<=R k/\R k<p)(hc:0<=c)(ha:c<p)(hd:i+b.length<=n)(hn:n<=100000)(hf:3000000<=fu):
 zg (ZJ fu b (i:Int) c) fu (b,p,x,0,zl n R,zl qn Q)=some (b,p,x,zl n<|cz R (ci b) p c i b.length,zl qn Q):=by
 refine zx (fun s:List Int×Int×Int×Int×List Int×List Int=>∃j:Nat,j<=b.length/\s=(b,p,x,(j:Int),zl n<|cz R (ci b) p c i j,zl qn Q)) (fun s=>b.length-s.2.2.2.1.toNat) _ ?_ _ _ ⟨0,xah _,by rw[yo (f:=R) (g:=cz R (ci b) p c i 0) fun k _=>by unfold cz;rw[zy]];rfl⟩ (by show b.length-0<fu;lia);rintro s L ⟨j,hj,rfl⟩ ih;unfold ZJ;simp only;by_cases h3:j<b.length
 ·rw[zN,za rfl];simp only[if_true];have e:(i:Int)+(j:Int)=((i+j:Nat):Int):=by lia
  have e2:cz R (ci b) p c i j (i+j)=R (i+j):=by unfold cz;rw[zy]
  obtain⟨r1,r2⟩:=hR<|i+j;have r3:0<=(p-c)*ci b j:=xcB (by lia)<|hb.nn j;have r4:(p-c)*ci b j<=65521*ci b j:=xbz (by lia)<|hb.nn j;have r5:=hb.lt j;rw[zp h3,zf,e,zb,zb,zp (by rw[zK];lia),zf,vT,ZO,e2,zb,zb,zb,yJ,zf,uw,zp (by rw[zK];lia),zf,jS,zb];exact ih _ ⟨j+1,by lia,by rw[yo fun k _=>Sp R (ci b) p c i j k];rfl⟩ (by show b.length-((j:Int)+1).toNat<b.length-(j:Int).toNat;lia)
 ·rw[zy,za rfl];simp only[xak,if_false];obtain rfl:j=b.length:=by lia
  rfl
structure FdI(p:Int)(a b:List Int)(qn i:Nat)(R Q:Pz):Prop where
 hi:i<=qn
 rr:∀k,0<=R k/\R k<p
 qr:∀k,0<=Q k/\Q k<p
 rz:∀k,i+(b.length-1)<=k->R k=0
 ql:∀k,k<i->Q k=0
 qz:∀k,qn<=k->Q k=0
 cg:Cg p (ci a) (Q*ci b+R)
theorem FdI.step(h1:1<=p)(h:FdI p a b qn (i+1) R Q)(hb:0<b.length)(hx:(x*ci b (b.length-1))%p=1):
 FdI p a b qn i (cz R (ci b) p (R (i+(b.length-1))*x%p) i b.length) (Zl Q i<|R (i+(b.length-1))*x%p):=by
 obtain⟨c,hc⟩:∃c,c=R (i+(b.length-1))*x%p:=⟨_,rfl⟩;have hi:=h.hi;have he:=yc (a:=R (i+(b.length-1))*x) (p:=p);rw[<-hc]at he⊢;have hf:∀k,R k%p=R k:=fun k=>xaC (h.rr k).1 (h.rr k).2;have ha:=R8 (g:=ci b) (c:=c) (i:=i) (n:=b.length) hf<|fun k hk=>zM hk;have hd:∀k,0<=cz R (ci b) p c i b.length k/\cz R (ci b) p c i b.length k<p:=fun k=>by
  unfold cz;split
  ·exact yc
  ·exact h.rr k
 have hg:∀k,Zl Q i c k=(Q+(mono i c:Pz)) k:=fun k=>by
  rw[zI];unfold Zl mono;by_cases hk:k=i
  ·rw[iq hk,iq hk,h.ql k (by lia),xcD]
  ·rw[ir hk,ir hk,xbD]
 refine⟨by lia,hd,fun k=> ?_,fun k hk=> ?_,fun k hk=> ?_,fun k hk=> ?_,?_⟩
 ·unfold Zl;split
  ·exact he
  ·exact h.qr k
 ·have h3:=xaC (hd k).1 (hd k).2;rw[<-h3,ha];by_cases hj:k=i+(b.length-1)
  ·unfold sh;rw[zN,show k-i=b.length-1 by lia,hc,hj,Int.sub_emod,xbr,xaF,<-xbr,xbK,xbr _<|x*_,hx,xck,xaF,<-Int.sub_emod,xdb,xag]
  ·unfold sh;rw[h.rz k (by lia),zN,zM (l:=b) (by lia),xau,xcE,xag]
 ·unfold Zl;rw[zy];exact h.ql k<|by lia
 ·unfold Zl;rw[zy];exact h.qz k hk
 ·refine h.cg.trans fun k=> ?_;rw[show Zl Q i c=Q+(mono i c:Pz)from funext hg,yg,zI,zI,zI,Zz,xdO<|_+_,ha,<-xdO];congr 1;lia
theorem xg(hp:wz p=true)(ha:Fp p a)(hb:Fp p b)(he:0<b.length)(hr:a.length<=90000)(hs:b.length<=90000)(hf:3000000<=fu):
 ∃q r,xk fu a b p=some (q,r)/\Fp p q/\Fp p r/\Cg p (ci a) (ci q*ci b+ci r)/\r.length<b.length/\q.length<=a.length:=by
 obtain⟨p1,p2⟩:=zn hp;unfold xk;rw[wC (by simp;lia),zf,xbA,zb];by_cases hl:a.length<b.length
 ·rw[zN];refine⟨[],a,rfl,MJ,ha,Cg.of ?_,hl,xah _⟩;funext k;rw[zI,show ci []=pc 0 from funext fun j=>by rw[zM<|xah _,zL],yb,zL,xcD]
 ·obtain⟨qn,hq⟩:∃qn,qn=a.length-b.length+1:=⟨_,rfl⟩;have ho:ci b (b.length-1)≠0:=by
   rcases hb.nl with h|h
   ·lia
   ·exact h
  have t1:=hb.nn<|b.length-1;have t2:=hb.lt<|b.length-1;obtain⟨x,e1,e2,e3,e4⟩:=Qn (fu:=fu) hp (show 0<ci b (b.length-1)by lia) t2 hf;have c1:(b.length:Int)-1=((b.length-1:Nat):Int):=by lia
  have c2:(a.length:Int)-(b.length:Int)+1=(qn:Int):=by lia
  rw[zy,c1,zb,yj,zf,ZO,za e1];simp only;rw[zb,c2,yE,yJ,zf]
  have hc:=yv (f:=Zw fu b p x) (fun s:Int×List Int×List Int=>∃(i:Nat) (R Q:Pz),s=((i:Int)-1,zl a.length R,zl qn Q)/\FdI p a b qn i R Q) (fun s=>(s.1+1).toNat)
   (fun r=>∃R Q:Pz,r=(zl a.length R,zl qn Q)/\FdI p a b qn 0 R Q) (by
    rintro s L ⟨i,R,Q,rfl,h⟩ ih;unfold Zw;simp only
    cases i with
    |zero=>
     rw[zy];exact⟨_,rfl,R,Q,rfl,h⟩
    |succ i=>
     have hi:=h.hi;obtain⟨r1,r2⟩:=h.rr<|i+(b.length-1);obtain⟨r3,r4⟩:=Xq p2 r1 r2 e2 e3;have hd:=yc (a:=R (i+(b.length-1))*x) (p:=p);rw[show((i+1:Nat):Int)-1=(i:Int)by lia,zN,zb,show(i:Int)+(b.length:Int)-1=((i+(b.length-1):Nat):Int)by lia,zb,zp (by rw[zK];lia),zf,vT,zb,yJ,zf,uw r3,zp (by rw[zK];lia),zf,jS,za<|RE (by lia) p2 hb h.rr hd.1 hd.2 (by lia) (by lia) hf];simp only;rw[zb];exact ih _ ⟨i,_,_,rfl,h.step (by lia) he e4⟩ (by show((i:Int)-1+1).toNat<(((i+1:Nat):Int)-1+1).toNat;lia))
   fu ((a.length:Int)-(b.length:Int),a,xaf qn 0) ⟨qn,ci a,fun _=>0,by rw[Gw,JF,show(a.length:Int)-(b.length:Int)=(qn:Int)-1 by lia],xab _,fun k=>⟨ha.nn k,ha.lt k⟩,fun k=>⟨xeY _,by lia⟩,fun k hk=>zM (by lia),fun k _=>rfl,fun k _=>rfl,Cg.of (by
    funext k;rw[zI,show((fun _=>0:Pz))=pc 0 from funext fun j=>(zL j).symm,yb,zL,xcD])⟩ (by show((a.length:Int)-(b.length:Int)+1).toNat<fu;lia)
  obtain⟨_,hg,R,Q,rfl,h⟩:=hc;rw[za hg];simp only;have hm:Rl (zl a.length R):=fun k=>by
   rw[ur fun j hj=>h.rz j<|by lia];have:=h.rr k;exact⟨by lia,by lia⟩
  have hn:Rl (zl qn Q):=fun k=>by
   rw[ur h.qz];have:=h.qr k;exact⟨by lia,by lia⟩
  rw[za<|zF (by lia) p2 hn (by rw[zK];lia) hf,za<|zF (by lia) p2 hm (by rw[zK];lia) hf];refine⟨_,_,rfl,tn (by lia) _,tn (by lia) _,?_,?_,?_⟩
  ·refine h.cg.trans<|Cg.add (Cg.mul (Cg.symm<|(GU p _).trans<|Cg.of<|funext (ur h.qz)) Cg.rfl)<|Cg.symm<|(GU p _).trans<|Cg.of<|funext (ur fun j hj=>h.rz j<|by lia)
  ·have:=(tn (p:=p) (by lia)<|zl a.length R).nl.le (n:=b.length-1) fun k hk=>by rw[Cu,ur (fun j hj=>h.rz j<|by lia),h.rz k (by lia),xag]
   lia
  ·have:=Og p<|zl qn Q;rw[zK]at this;lia
end
section
variable{p:Int}{fu N:Nat}{r0 s0 t0 r1 s1 t1 g h:List Int}{f:Pz}
theorem zhm(f:Pz):Cg p (pc (p-1)*f) (-f):=fun k=>by
 rw[zE,Hf,xfR,xca];refine xaE.2<|xaB ⟨f k,?_⟩;lia
theorem Je(a b:List Int):Cg p (ci<|Ya p a b<|p-1) (ci a-ci b):=by
 refine(CN p a b<|p-1).trans ?_;rw[sE];exact Cg.rfl.add<|zhm _
theorem mU{S:Nat}(hp:wz p=true)(ha:Fp p r0)(hg:Fp p s0)(hj:Fp p t0)(hb:Fp p r1)(hk:Fp p s1)(hl:Fp p t1)(h0:0<r1.length)(l1:r0.length<=N)(l2:r1.length<=N)(l3:s0.length<=S)(l4:t0.length<=S)(l5:s1.length<=S)(l6:t1.length<=S)(hN:N<=9000)(hS:S<=90000)(hf:3000000<=fu):
 ∃q,Fp p q/\q.length<=N/\Cg p (ci r0) (ci q*ci r1+ci (Ya p r0 (y3 p q r1)<|p-1))/\(Ya p r0 (y3 p q r1)<|p-1).length<r1.length/\
  ZL fu [r0,s0,t0] [r1,s1,t1] p=some [Ya p r0 (y3 p q r1)<|p-1,Ya p s0 (y3 p q s1)<|p-1,Ya p t0 (y3 p q t1)<|p-1]:=by
 obtain⟨p1,p2⟩:=zn hp;obtain⟨q,r,e1,hq,hr,hc,hm,ht⟩:=xg (fu:=fu) hp ha hb h0 (by lia) (by lia) hf;have hd:Ya p r0 (y3 p q r1) (p-1)=r:=by
  refine Fp.ext (JY (by lia) _ _ _) hr<|(Je r0<|y3 p q r1).trans ?_;refine(hc.sub<|kK p q r1).trans<|Cg.of ?_;funext k;simp only[zI,yz];lia
 refine⟨q,hq,by lia,by rw[hd];exact hc,by rw[hd];exact hm,?_⟩;unfold ZL;have f1:=qC p q r1;have f2:=qC p q s1;have f3:=qC p q t1;rw[show(0:Int)=((0:Nat):Int)from rfl,zp (by decide),zp (by decide),zf];show bd (xk fu r0 r1 p) _=_;rw[za e1];simp only;rw[za (v:=([Ya p r0 (y3 p q r1)<|p-1,Ya p s0 (y3 p q s1)<|p-1,Ya p t0 (y3 p q t1)<|p-1],xaf 3 []))];obtain⟨n,hn⟩:∃n,fu=n+4:=⟨fu-4,by lia⟩
 have step:∀(L:List Int×Int×List (List Int)×List (List Int)->Option (List (List Int)×List (List Int))) (i:Nat) (x y z u:List Int) (ts:List (List Int)),i<3->ts.length=3->ts.getD i []=x->[r1,s1,t1].getD i []=y->Fp p x->Fp p y->x.length<=90000->y.length<=90000->
  ki fu [r1,s1,t1] p L (q,(i:Int),ts,xaf 3 [])=L (q,((i+1:Nat):Int),ts.set i<|Ya p x (y3 p q y)<|p-1,xaf 3 []):=fun L i x y z u ts hi hu hx hy ho hs hv hw=>by
  unfold ki;simp only;have f4:=qC p q y;rw[zN,za rfl];simp only[if_true];rw[zp hi,zp hi,zf,hx,hy,za<|wh (by lia) p2 hq hs (by lia) (by lia) hf,zb,za<|Vo (by lia) p2 ho (vR (by lia) _ _) (by lia) (by lia) (by lia) (by lia) hf,zp hi,zf,zb];rfl
 have he:zg (ki fu [r1,s1,t1] p) (n+4) (q,((0:Nat):Int),[r0,s0,t0],xaf 3 [])=some ([Ya p r0 (y3 p q r1)<|p-1,Ya p s0 (y3 p q s1)<|p-1,Ya p t0 (y3 p q t1)<|p-1],xaf 3 []):=by
  rw[jc,step _ 0 r0 r1 [] [] _ (by decide) rfl rfl rfl ha hb (by lia) (by lia),jc,step _ 1 s0 s1 [] [] _ (by decide) rfl rfl rfl hg hk (by lia) (by lia),jc,step _ 2 t0 t1 [] [] _ (by decide) rfl rfl rfl hj hl (by lia) (by lia),jc];unfold ki;simp only;rw[ir (by decide),za rfl];rfl
 rw[<-hn]at he;exact he
def Fs(f:Pz):Prop:=∃n,∀k,n<=k->f k=0
theorem Fs.add{g:Pz}(hf:Fs f)(hg:Fs g):Fs (f+g):=by
 obtain⟨n,hn⟩:=hf;obtain⟨m,hm⟩:=hg;exact⟨n+m,fun k hk=>by rw[zI,hn k (by lia),hm k<|by lia];rfl⟩
theorem Fs.mul{g:Pz}(hf:Fs f)(hg:Fs g):Fs (f*g):=by
 obtain⟨n,hn⟩:=hf;obtain⟨m,hm⟩:=hg;exact⟨n+m,fun k hk=>vL hn hm⟩
theorem Fs.pc(c:Int):Fs (pc c):=⟨1,fun k hk=>by unfold Go.Proofs.YtmggkmchbdanfaaGreat.pc;rw[zy]⟩
theorem Fs.ci(l:List Int):Fs (ci l):=⟨l.length,fun k hk=>zM hk⟩
theorem Fs.cf(l:List Zr):Fs (cf l):=⟨l.length,fun k hk=>ye hk⟩
structure BzR(p:Int)(g h d s t:List Int)(S:Nat):Prop where
 df:Fp p d
 sf:Fp p s
 tf:Fp p t
 cg:Cg p (ci d) (ci s*ci g+ci t*ci h)
 dv:∃A C:Pz,Fs A/\Fs C/\Cg p (ci g) (A*ci d)/\Cg p (ci h) (C*ci d)
 dl:d.length<=S
 sl:s.length<=S
 tl:t.length<=S
structure BzI(p:Int)(g h r0 s0 t0 r1 s1 t1:List Int)(N:Nat):Prop where
 f0:Fp p r0
 g0:Fp p s0
 h0:Fp p t0
 f1:Fp p r1
 g1:Fp p s1
 h1:Fp p t1
 c0:Cg p (ci r0) (ci s0*ci g+ci t0*ci h)
 c1:Cg p (ci r1) (ci s1*ci g+ci t1*ci h)
 dv:∃A B C D:Pz,Fs A/\Fs B/\Fs C/\Fs D/\Cg p (ci g) (A*ci r0+B*ci r1)/\Cg p (ci h) (C*ci r0+D*ci r1)
 l0:r0.length<=N
 l1:r1.length<=N
 b0:s0.length<=1+N*(N+1-r1.length)
 b1:t0.length<=1+N*(N+1-r1.length)
 b2:s1.length<=1+N*(N+1-r1.length)
 b3:t1.length<=1+N*(N+1-r1.length)
theorem BzI.step(hI:BzI p g h r0 s0 t0 r1 s1 t1 N)(hp:wz p=true)(hN:N<=290)(hr:0<r1.length)(hf:3000000<=fu):
 ∃r2 s2 t2,ZL fu [r0,s0,t0] [r1,s1,t1] p=some [r2,s2,t2]/\r2.length<r1.length/\BzI p g h r1 s1 t1 r2 s2 t2 N:=by
 obtain⟨p1,p2⟩:=zn hp;have hb:1+N*(N+1-r1.length)<=90000:=by
  have:N*(N+1-r1.length)<=290*290:=xbH hN (by lia);lia
 have hd:=hI.l0;have ha:=hI.l1;have hg:=hI.b0;have hi:=hI.b1;have hj:=hI.b2;have hk:=hI.b3;obtain⟨q,hq,hm,hc,hl,he⟩:=mU (fu:=fu) (S:=1+N*(N+1-r1.length)) hp hI.f0 hI.g0 hI.h0 hI.f1 hI.g1 hI.h1 hr hd ha hg hi hj hk (by lia) hb hf;refine⟨_,_,_,he,hl,hI.f1,hI.g1,hI.h1,JY (by lia) _ _ _,JY (by lia) _ _ _,JY (by lia) _ _ _,hI.c1,?_,?_,ha,by lia,?_,?_,?_,?_⟩
 ·refine(Je _ _).trans<|(hI.c0.sub<|(kK p q r1).trans<|Cg.rfl.mul hI.c1).trans ?_;refine Cg.trans (Cg.of ?_)<|Cg.symm (((Je s0<|y3 p q s1).trans<|Cg.rfl.sub<|kK p q s1).mul (Cg.rfl (f:=ci g))|>.add (((Je t0<|y3 p q t1).trans<|Cg.rfl.sub<|kK p q t1).mul<|Cg.rfl (f:=ci h)));simp only[xy,yg,vj,wO,zd];funext k;simp only[zI,yz];lia
 ·obtain⟨A,B,C,D,z1,z2,z3,z4,d1,d2⟩:=hI.dv;refine⟨A*ci q+B,A,C*ci q+D,C,(z1.mul<|Fs.ci q).add z2,z1,(z3.mul<|Fs.ci q).add z4,z3,?_,?_⟩
  ·refine d1.trans<|((Cg.rfl (f:=A)).mul hc|>.add Cg.rfl).trans<|Cg.of ?_;simp only[xy,yg,zd];funext k;simp only[zI];lia
  ·refine d2.trans<|((Cg.rfl (f:=C)).mul hc|>.add Cg.rfl).trans<|Cg.of ?_;simp only[xy,yg,zd];funext k;simp only[zI];lia
 ·have:N*(N+1-r1.length)<=N*(N+1-(Ya p r0 (y3 p q r1)<|p-1).length):=xaD _ (by lia);lia
 ·have:N*(N+1-r1.length)<=N*(N+1-(Ya p r0 (y3 p q r1)<|p-1).length):=xaD _ (by lia);lia
 ·have h1:=nX p s0 (y3 p q s1)<|p-1;have h2:=qC p q s1;have h3:N*(N+1-r1.length+1)<=N*(N+1-(Ya p r0 (y3 p q r1)<|p-1).length):=xaD _ (by lia);rw[xbh,xcG]at h3;lia
 ·have h1:=nX p t0 (y3 p q t1)<|p-1;have h2:=qC p q t1;have h3:N*(N+1-r1.length+1)<=N*(N+1-(Ya p r0 (y3 p q r1)<|p-1).length):=xaD _ (by lia);rw[xbh,xcG]at h3;lia
theorem SC(hp:wz p=true)(hN:N<=290)(hf:3000000<=fu)(hI:BzI p g h r0 s0 t0 r1 s1 t1 N):
 ∃d s t,zg (kO fu p) fu ([r0,s0,t0],[r1,s1,t1])=some [d,s,t]/\BzR p g h d s t (1+N*(N+1)):=by
 obtain⟨r,e1,d,s,t,rfl,e3⟩:=yv (f:=kO fu p) (fun x:List (List Int)×List (List Int)=>∃r0 s0 t0 r1 s1 t1,x=([r0,s0,t0],[r1,s1,t1])/\BzI p g h r0 s0 t0 r1 s1 t1 N) (fun x=>(x.2.getD 0 []).length) (fun r=>∃d s t,r=[d,s,t]/\BzR p g h d s t (1+N*(N+1))) (by
  rintro x L ⟨r0,s0,t0,r1,s1,t1,rfl,hI⟩ ih;unfold kO;simp only;rw[show(0:Int)=((0:Nat):Int)from rfl,zp<|by decide];show∃r,(if((0:Nat):Int)<(r1.length:Int)then _ else _)=some r/\_;by_cases h0:0<r1.length
  ·obtain⟨r2,s2,t2,he,ha,hc⟩:=hI.step (fu:=fu) hp hN h0 hf;rw[zN,za he];exact ih _ ⟨_,_,_,_,_,_,rfl,hc⟩ ha
  ·rw[zy];have hz:ci r1=pc 0:=funext fun k=>by rw[zM (by lia),zL]
   have hb:1+N*(N+1-r1.length)<=1+N*(N+1):=by
    have:N*(N+1-r1.length)<=N*(N+1):=xaD _ (by lia);lia
   have hd:=hI.l0;have hg:N*1<=N*(N+1):=xaD _ (by lia);refine⟨_,rfl,r0,s0,t0,rfl,hI.f0,hI.g0,hI.h0,hI.c0,?_,by lia,xam hI.b0 hb,xam hI.b1 hb⟩;obtain⟨A,B,C,D,z1,z2,z3,z4,d1,d2⟩:=hI.dv;rw[hz,zj B,yb]at d1;rw[hz,zj D,yb]at d2;refine⟨A,C,z1,z3,d1.trans<|Cg.of ?_,d2.trans<|Cg.of ?_⟩<;>funext k<;>rw[zI,zL,xbD]) fu ([r0,s0,t0],[r1,s1,t1]) ⟨_,_,_,_,_,_,rfl,hI⟩ (by have:=hI.l1;show r1.length<fu;lia)
 exact⟨d,s,t,e1,e3⟩
theorem jH(hp:wz p=true)(hg:Fp p g)(hh:Fp p h)(hs:g.length<=290)(ht:h.length<=290)(hf:3000000<=fu):
 ∃d s t,j9 fu g h p=some (d,s,t,0)/\BzR p g h d s t (2+max g.length h.length*(max g.length h.length+1))/\(d.length=0\/ci d (d.length-1)=1):=by
 obtain⟨p1,p2⟩:=zn hp;unfold j9;rw[za<|ku hp,iq rfl,za<|zF (by lia) p2 (hg.rl p2) (by lia) hf,za<|zF (by lia) p2 (hh.rl p2) (by lia) hf,hg.pm,hh.pm];have z0:ci ([]:List Int)=pc 0:=funext fun k=>by rw[zM<|xah _,zL]
 have addz:∀f:Pz,f+pc 0=f:=fun f=>funext fun k=>by rw[zI,zL,xbD]
 have zadd:∀f:Pz,pc 0+f=f:=fun f=>funext fun k=>by rw[zI,zL,xcD]
 have hI:BzI p g h g [1] [] h [] [1] (max g.length h.length):=by
  refine⟨hg,Yq,MJ,hh,MJ,Yq,Cg.of ?_,Cg.of ?_,⟨pc 1,pc 0,pc 0,pc 1,Fs.pc 1,Fs.pc 0,Fs.pc 0,Fs.pc 1,Cg.of ?_,Cg.of ?_⟩,xee _ _,xdL _ _,xbP _ _,xah _,xah _,xbP _ _⟩
  ·rw[qk,z0,zt,yb,addz]
  ·rw[qk,z0,zt,yb,zadd]
  ·rw[zt,yb,addz]
  ·rw[zt,yb,zadd]
 obtain⟨d,s,t,e1,hR⟩:=SC (fu:=fu) hp (by lia) hf hI;have hS:max g.length h.length*(max g.length h.length+1)<=290*291:=xbH (by lia) (by lia);generalize max g.length h.length*(max g.length h.length+1)=S at*
 rw[za e1,show(0:Int)=((0:Nat):Int)from rfl,zp<|by decide];show∃d' s' t',bd (if((0:Nat):Int)<(d.length:Int)then some true else some false) _=_/\_;by_cases h0:0<d.length
 ·have hu:=hR.dl;have hr:ci d (d.length-1)≠0:=by
   rcases hR.df.nl with h|h
   ·lia
   ·exact h
  have t1:=hR.df.nn<|d.length-1;have t2:=hR.df.lt<|d.length-1;obtain⟨x,x1,x2,x3,x4,x5⟩:=Qk (fu:=fu) hp hR.df (show 0<ci d (d.length-1)by lia) t2 (by lia) hf;have sc:∀{a:List Int},Fp p a->a.length<=90000->vr fu a (ci d<|d.length-1) p=some (y3 p a [x]):=fun{a} ha hl=>by
   unfold vr;rw[za x4];simp only;rw[za<|wh (by lia) p2 ha (Yq x1 x2) (by lia) (by simp) hf]
  rw[zN,za rfl,iq rfl,zp<|by decide];show∃d' s' t',ze ((d.length:Int)-1) _=_/\_;rw[show(d.length:Int)-1=((d.length-1:Nat):Int)by lia,zb];show∃d' s' t',zG ((d.length-1:Nat):Int) d.length _=_/\_;rw[yj,zf];show∃d' s' t',bd (zg (wg fu p<|ci d<|d.length-1) fu (((0:Nat):Int),[d,s,t])) _=_/\_;have hd:zg (wg fu p<|ci d<|d.length-1) fu (((0:Nat):Int),[d,s,t])=some [y3 p d [x],y3 p s [x],y3 p t [x]]:=by
   obtain⟨n,hn⟩:∃n,fu=n+4:=⟨fu-4,by lia⟩
   have step:∀(L:Int×List (List Int)->Option (List<|List Int)) (i:Nat) (y:List Int) (ts:List (List Int)),i<3->ts.getD i []=y->Fp p y->y.length<=90000->
    wg fu p (ci d<|d.length-1) L ((i:Int),ts)=L (((i+1:Nat):Int),ts.set i<|y3 p y [x]):=fun L i y ts hi hy ho hq=>by
    unfold wg;simp only;rw[zN,zp hi,hy,za<|sc ho hq,zp hi,zf,zb];rfl
   have hm:zg (wg fu p<|ci d<|d.length-1) (n+4) (((0:Nat):Int),[d,s,t])=some [y3 p d [x],y3 p s [x],y3 p t [x]]:=by
    rw[jc,step _ 0 d _ (by decide) rfl hR.df (xam hR.dl<|by lia),jc,step _ 1 s _ (by decide) rfl hR.sf (xam hR.sl<|by lia),jc,step _ 2 t _ (by decide) rfl hR.tf (xam hR.tl<|by lia),jc];unfold wg;simp only;rw[ir<|by decide];rfl
   rw[<-hn]at hm;exact hm
  rw[za hd];have hb:∀a:List Int,Cg p (ci<|y3 p a [x]) (ci a*pc x):=fun a=>by
   have:=kK p a [x];rw[qk]at this;exact this
  have he:Cg p (pc x*pc (ci d<|d.length-1)) (pc 1):=fun k=>by
   rw[qZ];unfold pc;split
   ·rw[x3];exact(xaC (by decide)<|by lia).symm
   ·rfl
  have f1:=qC p d [x];have f2:=qC p s [x];have f3:=qC p t [x];have hv:=hR.sl;have hw:=hR.tl;simp only[xaq,xbS]at f1 f2 f3;have hc:∀k,ci (y3 p d [x]) k=(x*ci d k)%p:=fun k=>by rw[Ji,qk,zj,zE]
  have hj:(y3 p d [x]).length=d.length:=by
   refine xcU ((vR (by lia) _ _).nl.le fun k hk=> ?_)<|xbw fun hx=> ?_
   ·rw[hc,zM hk,xau,xag]
   ·have h3:=hc<|d.length-1;rw[x3,zM<|by lia]at h3;cases h3
  refine⟨y3 p d [x],y3 p s [x],y3 p t [x],rfl,⟨vR (by lia) _ _,vR (by lia) _ _,vR (by lia) _ _,?_,?_,by lia,by lia,by lia⟩,.inr ?_⟩
  ·refine(hb d).trans<|(hR.cg.mul Cg.rfl).trans<|Cg.trans (Cg.of ?_)<|Cg.symm<|((hb s).mul Cg.rfl).add<|(hb t).mul Cg.rfl;simp only[xy,yg,zd,zj,zz]
  ·obtain⟨A,C,z1,z3,d1,d2⟩:=hR.dv;have key:∀F:Pz,Cg p (F*ci d) (F*pc (ci d<|d.length-1)*ci (y3 p d [x])):=fun F=>by
    refine Cg.symm<|(Cg.rfl.mul<|hb d).trans<|Cg.trans (Cg.of ?_)<|((Cg.rfl (f:=F*ci d)).mul he).trans<|Cg.of<|zO _;simp only[zd,zj,zz]
   exact⟨_,_,z1.mul<|Fs.pc _,z3.mul<|Fs.pc _,d1.trans<|key A,d2.trans<|key C⟩
  ·rw[hj,hc,x3]
 ·rw[zy,za rfl,ir<|by decide];exact⟨d,s,t,rfl,⟨hR.df,hR.sf,hR.tf,hR.cg,hR.dv,xam hR.dl (by lia),xam hR.sl (by lia),xam hR.tl<|by lia⟩,.inl<|by lia⟩
end
section
variable{fu:Nat}{a l b:List Int}{p:Int}
theorem RU{n:Nat}(h:n<9223372036854775808):Ru n=(n:Int):=by
 unfold Ru;rw[iq h]
theorem nN{x:Int}(h0:0<=x)(h:x<9223372036854775808)(hf:3000000<=fu):WC fu (yH x)=some (x,true):=by
 have hB:Bz 1 x:=by unfold Bz;lia
 unfold WC;rw[za<|uz (hB.ok<|by decide) hf,zw];have ha:(yH x).1=false:=by unfold yH;simp;lia
 by_cases hx:x=0
 ·subst hx;rw[show(yH 0).2=[]from rfl,iq (show((([]:List Nat).length:Nat):Int)=0 from rfl),za rfl,iq rfl]
 ·have hb:=oq.2 hx;have hc:=hB.len;obtain⟨n,rfl⟩:=xaA h0;have hg:(yH (n:Int)).2.getD 0 0=n:=by
   show(yC<|(n:Int).natAbs).getD 0 0=n;rw[xbe,Y0,xeg,xdU,xar<|by lia]
  rw[zy,za rfl,ir (by decide),zy,za rfl,ir (by decide),ha,ir (by decide),za rfl,ir (by decide),ir (by decide),show(0:Int)=((0:Nat):Int)from rfl,yj,zf,hg,zy,yj,zf,hg,zf,RU<|by lia]
theorem sw{a:Zr}(ha:gK a)(h1:1<=p)(h2:p<=65521)(hf:3000000<=fu):VM fu a p=some (zv a%p,0):=by
 unfold VM;have hB:Bz 1 p:=by unfold Bz;lia
 have hr:=yc (a:=zv a) (p:=p);rw[za<|z6 ⟨by lia,by lia⟩,za<|uu ha (hB.okS<|by decide) hf,zw];unfold B4;rw[zy];simp only[if_true];rw[za<|nN hr.1 (by lia) hf]
def v8(p:Int)(a:List Zr):List Int:=nl a.length<|fun k=>cf a k%p
theorem V8(p:Int)(a:List Zr)(k:Nat):ci (v8 p a) k=cf a k%p:=sx (fun k hk=>by rw[ye hk,xag]) k
theorem aD(p:Int)(a:List Zr):Cg p (ci<|v8 p a) (cf a):=fun k=>by rw[V8,xaF]
theorem Wv(hp:0<p)(a:List Zr):Fp p (v8 p a):=⟨fun k=>by rw[V8];exact(yc hp).1,fun k=>by rw[V8];exact(yc hp).2,me _ _⟩
theorem zet(p:Int)(a:List Zr):(v8 p a).length<=a.length:=BJ _ _
theorem jX{k:Nat}{a:List Zr}(ha:y9 k a)(hk:k<=40000)(h1:1<=p)(h2:p<=65521)(hl:a.length<=1000000:=by lia)(hf:3000000<=fu:=by lia):ke fu a p=some (v8 p a,0):=by
 unfold ke;have hd:=vZ (fun k=>cf a k%p) a.length;rw[zy,za (v:=zl a.length<|fun k=>cf a k%p)]
 ·rw[za (v:=v8 p a)];refine zx (fun t:List Int=>∃m,m<=a.length/\t=zl m (fun k=>cf a k%p)/\dg (fun k=>cf a k%p) m=dg (fun k=>cf a k%p) a.length) (fun t=>t.length) _ ?_ _ _ ⟨a.length,xab _,rfl,rfl⟩ (by rw[zK];lia);rintro t L ⟨m,hm,rfl,hg⟩ ih;unfold aX;rw[zK]
  cases m with
  |zero=>
   rw[zy];unfold v8 nl;rw[<-hg];rfl
  |succ m=>
   rw[zN,show((m+1:Nat):Int)-1=(m:Int)by lia,zb,yj,zf,vT];by_cases h0:cf a m%p=0
   ·rw[iq h0,zb,yE,yJ,zf,Ep];exact ih _ ⟨m,by lia,rfl,by rw[<-K2 (f:=fun k=>cf a k%p) h0,hg]⟩<|by rw[zK,zK];lia
   ·rw[ir h0];unfold v8 nl;rw[<-hg,UI (f:=fun k=>cf a k%p) h0]
 ·unfold qi;rw[yE,yJ,zf,JF,za];refine zx (fun s:Int×List Int=>∃i:Nat,i<=a.length/\s=((i:Int),zl a.length (fun k=>if k<i then cf a k%p else 0))) (fun s=>a.length-s.1.toNat) _ ?_ _ _ ⟨0,xah _,by rw[yo (g:=fun k=>if k<0 then cf a k%p else 0)<|fun k _=>by rw[zy]];rfl⟩ (by show a.length-0<fu;lia);rintro s L ⟨i,hi,rfl⟩ ih;unfold kn;simp only;by_cases h:i<a.length
  ·rw[zN,za rfl];simp only[if_true];have e1:YQ fu (i:Int) (a.getD i (false,[])) p=some (cf a i%p):=by
    unfold YQ;rw[za<|sw (ha.okS hk i) h1 h2 hf];rfl
   rw[zp h,zf,za e1,zp (by rw[zK];exact h),zf,jS,zb];refine ih _ ⟨i+1,by lia,?_⟩ (by show a.length-((i:Int)+1).toNat<a.length-(i:Int).toNat;lia);congr 1;refine yo fun k hk=> ?_;unfold Zl;by_cases e:k=i
   ·rw[iq e,zN,e]
   ·rw[ir e];show(if k<i then cf a k%p else 0)=_;by_cases e2:k<i
    ·rw[iq e2,zN]
    ·rw[ir e2,zy]
  ·rw[zy,za rfl];simp only[xak,if_false];congr 1;exact yo fun k hk=>by rw[zN]
def v7(l:List Int):List Zr:=vP l.length<|ci l
theorem vq(l:List Int):cf (v7 l)=ci l:=funext fun k=>jy (fun k hk=>zM hk) k
theorem sy(l:List Int):(v7 l).length<=l.length:=by unfold v7;rw[xJ];exact vZ _ _
theorem Rl.bz(h:Rl l)(k:Nat):Bz 1 (ci l k):=by
 obtain⟨h1,h2⟩:=h k;unfold Bz;lia
theorem tF(h:Rl l):y9 1 (v7 l):=xa h.bz
theorem jl(h:Rl l)(hl:l.length<=1000000)(hf:3000000<=fu):vU fu l=some (v7 l):=by
 unfold vU;rw[za (v:=zi l.length<|ci l)]
 ·rw[za<|zC (Qy h.bz) (by decide) (by rw[yI];lia) hf,yI,tH];rfl
 ·unfold qq;rw[yE,yJ,zf,b7,za];refine zx (fun s:Int×List Zr=>∃i:Nat,i<=l.length/\s=((i:Int),zi l.length (fun k=>if k<i then ci l k else 0))) (fun s=>l.length-s.1.toNat) _ ?_ _ _ ⟨0,xah _,by rw[xb (g:=fun k=>if k<0 then ci l k else 0)<|fun k _=>by rw[zy]];rfl⟩ (by show l.length-0<fu;lia);rintro s L ⟨i,hi,rfl⟩ ih;unfold j8;simp only;by_cases h1:i<l.length
  ·have e1:Zu fu (i:Int) (l.getD i 0)=some (yH<|ci l i):=by
    unfold Zu;rw[ZO,za<|z6<|h i]
   rw[zN,zp h1,zf,za e1,zp (by rw[yI];exact h1),zf,KR,zb];refine ih _ ⟨i+1,by lia,?_⟩ (by show l.length-((i:Int)+1).toNat<l.length-(i:Int).toNat;lia);congr 1;refine xb fun k hk=> ?_;unfold Zl;by_cases e:k=i
   ·rw[iq e,zN,e]
   ·rw[ir e];show(if k<i then ci l k else 0)=_;by_cases e2:k<i
    ·rw[iq e2,zN]
    ·rw[ir e2,zy]
  ·rw[zy];congr 1;exact xb fun k hk=>by rw[zN]
theorem QH(h:Rl l)(hl:l.length<=1000000)(hf:3000000<=fu:=by lia):kt fu l=some (v7 l):=by grind [kt,za,jl]
theorem j7(hp:wz p=true)(ha:Fp p a)(hb:Fp p b)(hc:a.length<=90000:=by lia)(hd:b.length<=90000:=by lia)(hf:3000000<=fu:=by lia):q9 fu a b p=some (y3 p a b,0):=by
 obtain⟨p1,p2⟩:=zn hp;unfold q9;rw[za<|ku hp,iq rfl,za<|zF (by lia) p2 (ha.rl p2) (by lia) hf,za<|zF (by lia) p2 (hb.rl p2) (by lia) hf,ha.pm,hb.pm,za<|wh (by lia) p2 ha hb (by lia) (by lia) hf]
theorem UF(hp:wz p=true)(ha:Fp p a)(hb:Fp p b)(hc:a.length<=90000)(hd:b.length<=90000)(hf:3000000<=fu):Y9 fu a b p=some (Ya p a b<|p-1,0):=by
 obtain⟨p1,p2⟩:=zn hp;unfold Y9;rw[za<|ku hp,iq rfl,za<|zF (by lia) p2 (ha.rl p2) (by lia) hf,za<|zF (by lia) p2 (hb.rl p2) (by lia) hf,ha.pm,hb.pm,zb,za<|Vo (by lia) p2 ha hb (by lia) (by lia) (by lia) (by lia) hf]
theorem VL(hp:wz p=true)(ha:Fp p a)(hb:Fp p b)(hd:a.length<=90000)(he:b.length<=90000)(hf:3000000<=fu):ZQ fu a b p=some (decide<|a=b):=by
 obtain⟨p1,p2⟩:=zn hp;unfold ZQ;rw[za<|UF hp ha hb hd he hf];simp only;have hF:=JY (p:=p) (by lia) a b<|p-1;have hc:=Je (p:=p) a b;by_cases h:a=b
 ·have hl:(Ya p a b<|p-1).length<=0:=hF.nl.le fun k _=>by
   have:=hc k;rw[hF.mod,h,yz,xdb,xag]at this;rw[h];exact this
  rw[zN,decide_eq_true h]
 ·rw[decide_eq_false h,if_neg];intro h0;refine h<|ha.ext hb<|Cg.iff_sub.2<|hc.symm.trans fun k=> ?_;rw[zM (by lia),zL]
end
section
variable{p:Int}{l:List Int}{fu M i:Nat}
def Ll(p:Int)(l:List Int):Prop:=(∀j,j<l.length->0<=ci l j/\ci l j<p)/\1<l.length/\ci l (l.length-1)=1
theorem Ll.fp(hp:0<p)(h:Ll p l):Fp p l:=by
 refine⟨fun k=> ?_,fun k=> ?_,.inr<|by rw[h.2.2];decide⟩
 ·by_cases hk:k<l.length
  ·exact(h.1 k hk).1
  ·rw[zM<|by lia];lia
 ·by_cases hk:k<l.length
  ·exact(h.1 k hk).2
  ·rw[zM<|by lia];exact hp
theorem Qm(hl:l.length<=1000000)(hf:3000000<=fu):∃b,Zx fu l p=some b/\(b=true↔Ll p l):=by
 unfold Zx;obtain⟨r,e1,e2⟩:=yv (f:=YE fu l p) (fun i:Int=>∃j:Nat,i=(j:Int)/\j<=l.length/\∀t,t<j->0<=ci l t/\ci l t<p) (fun i=>l.length-i.toNat) (fun r=>(r=.inl ()/\∀t,t<l.length->0<=ci l t/\ci l t<p)\/(r=.inr ()/\¬∀t,t<l.length->0<=ci l t/\ci l t<p)) (by
  rintro i L ⟨j,rfl,hj,he⟩ ih;unfold YE;by_cases h1:j<l.length
  ·rw[zN,zp h1,zf,ZO];by_cases h2:ci l j<0
   ·rw[iq h2];exact⟨_,rfl,.inr ⟨rfl,fun e=>by have:=(e j h1).1;lia⟩⟩
   ·rw[ir h2];by_cases h3:p<=ci l j
    ·rw[iq h3];exact⟨_,rfl,.inr ⟨rfl,fun e=>by have:=(e j h1).2;lia⟩⟩
    ·rw[ir h3,zb];refine ih _ ⟨j+1,rfl,by lia,fun t ht=> ?_⟩ (by lia);by_cases h4:t=j
     ·rw[h4];lia
     ·exact he t<|by lia
  ·rw[zy];exact⟨_,rfl,.inl ⟨rfl,fun t ht=>he t<|by lia⟩⟩) fu 0 ⟨0,rfl,xah _,fun t h=>absurd h (xbp _)⟩ (by show l.length-0<fu;lia)
 rw[za e1];rcases e2 with⟨rfl,h⟩|⟨rfl,h⟩
 ·simp only;by_cases h1:1<l.length
  ·rw[zN,show(l.length:Int)-1=((l.length-1:Nat):Int)by lia,zb,yj,zf,ZO];by_cases h2:ci l (l.length-1)=1
   ·rw[iq h2];exact⟨_,rfl,fun _=>⟨h,h1,h2⟩,fun _=>rfl⟩
   ·rw[ir h2];exact⟨_,rfl,fun e=>absurd e (by decide),fun e=>absurd e.2.2 h2⟩
  ·rw[zy];exact⟨_,rfl,fun e=>absurd e (by decide),fun e=>absurd e.2.1 h1⟩
 ·exact⟨_,rfl,fun e=>absurd e (by decide),fun e=>absurd e.1 h⟩
def X4(p:Int)(fs:List (List Int)):List Int:=fs.foldl (y3 p) [1]
def prZ:List Pz->Pz
 |[]=>pc 1
 |f::r=>f*prZ r
theorem wm:∀(a b:List Pz),prZ (a++b)=prZ a*prZ b
 |[],b=>(zt _).symm
 |f::r,b=>by show f*prZ (r++b)=f*prZ r*prZ b;rw[wm r b,zd]
theorem OV(p:Int):∀(fs:List (List Int)) (t:List Int),Cg p (ci<|fs.foldl (y3 p) t) (ci t*prZ (fs.map ci))
 |[],t=>by show Cg p (ci t) (ci t*pc 1);rw[zO];exact Cg.rfl
 |f::r,t=>by
  show Cg p (ci<|r.foldl (y3 p)<|y3 p t f) (ci t*(ci f*prZ (r.map ci)));refine(OV p r<|y3 p t f).trans<|((kK p t f).mul Cg.rfl).trans<|Cg.of<|zd _ _ _
theorem gb(p:Int)(fs:List (List Int)):Cg p (ci<|X4 p fs) (prZ<|fs.map ci):=by
 have:=OV p fs [1];rw[qk,zt]at this;exact this
theorem OM{p:Int}(hp:0<p):∀(fs:List (List Int)) {t:List Int},Fp p t->Fp p (fs.foldl (y3 p) t)
 |[],_,h=>h
 |f::r,t,h=>OM hp r<|vR hp t f
theorem K4(hp:2<=p)(fs:List (List Int)):Fp p (X4 p fs):=OM (by lia) fs<|Yq
theorem NQ{p:Int}{M:Nat}:∀{fs:List (List Int)}{t:List Int},(∀f∈fs,f.length<=M)->(fs.foldl (y3 p) t).length<=t.length+fs.length*M
 |[],_,_=>by simp
 |f::r,t,h=>by
  have h1:=NQ (p:=p) (fs:=r) (t:=y3 p t f) fun g hg=>h g<|UV _ hg;have h2:=qC p t f;have h3:=h f<|FS;show(r.foldl (y3 p)<|y3 p t f).length<=t.length+(r.length+1)*M;rw[xaV,xcm];lia
theorem UJ{fs:List (List Int)}(h:∀f∈fs,f.length<=M):(X4 p fs).length<=1+fs.length*M:=NQ h
theorem BA{l:List (List Int)}(h:i<l.length):l.getD i []∈l:=by grind [xaa,xbn]
theorem P0{l:List (List Int)}(h:i<l.length):l.take (i+1)=l.take i++[l.getD i []]:=by grind [xfs,xaa]
theorem qB{fs:List (List Int)}(hp:wz p=true)(hF:∀f∈fs,Fp p f)(hM:∀f∈fs,f.length<=M)(hb:1+fs.length*M<=90000)(ha:M<=90000)(hc:fs.length<=90000:=by lia)(hf:3000000<=fu:=by lia):vg fu fs p=some (X4 p fs):=by
 obtain⟨p1,p2⟩:=zn hp;unfold vg;rw[za (v:=X4 p fs)];refine zx (fun s:List Int×Int=>∃i:Nat,i<=fs.length/\s=(X4 p<|fs.take i,(i:Int))) (fun s=>fs.length-s.2.toNat) _ ?_ _ _ ⟨0,xah _,rfl⟩ (by show fs.length-0<fu;lia);rintro s L ⟨i,hi,rfl⟩ ih;unfold Vh;simp only;by_cases h1:i<fs.length
 ·have hm:=BA h1;have hl:=UJ (p:=p) (fs:=fs.take i) (M:=M) fun f hf=>hM f<|xdV hf;have hd:(fs.take i).length*M<=fs.length*M:=xaw _<|List.length_take_le' ..;have he:=hM _ hm;rw[zN,zp h1,zf,za<|j7 hp (K4 (by lia) _)<|hF _ hm];simp only;rw[zb];refine ih _ ⟨i+1,by lia,?_⟩ (by show fs.length-((i:Int)+1).toNat<fs.length-(i:Int).toNat;lia);congr 1;unfold X4;rw[P0 h1,List.foldl_append];rfl
 ·rw[zy,xaQ<|by lia]
def vD(p:Int)(f g:Pz):Prop:=∃s t:Pz,Fs s/\Fs t/\Cg p (s*f+t*g) (pc 1)
theorem vD.symm{f g:Pz}(h:vD p f g):vD p g f:=by
 obtain⟨s,t,z1,z2,h⟩:=h;refine⟨t,s,z2,z1,(Cg.of ?_).trans h⟩;funext k;rw[zI,zI,xfa]
theorem vD.mul{p:Int}{f g h:Pz}(hg:Fs g)(hh:Fs h)(hf:Fs f)(h1:vD p f h)(h2:vD p g h):vD p (f*g) h:=by
 obtain⟨s,t,z1,z2,h1⟩:=h1;obtain⟨u,v,z3,z4,h2⟩:=h2;refine⟨s*u,s*f*v+t*(u*g+v*h),z1.mul z3,((z1.mul hf).mul z4).add<|z2.mul<|(z3.mul hg).add<|z4.mul hh,Cg.trans (Cg.of ?_)<|(h1.mul h2).trans<|Cg.of<|zt _⟩;simp only[xy,yg,zd,zz,zj];funext k;simp only[zI];lia
theorem vD.one(p:Int)(h:Pz):vD p (pc 1) h:=⟨pc 1,pc 0,Fs.pc 1,Fs.pc 0,Cg.of (by
 rw[zt,yb];funext k;rw[zI,zL,xbD])⟩
theorem Fs.prZ:∀{fs:List Pz},(∀f∈fs,Fs f)->Fs (prZ fs)
 |[],_=>Fs.pc 1
 |f::r,hh=>(hh f<|FS).mul<|Fs.prZ fun g hg=>hh g<|UV _ hg
theorem vD.prZ{p:Int}{h:Pz}(hz:Fs h):∀{fs:List Pz},(∀f∈fs,Fs f)->(∀f∈fs,vD p f h)->vD p (prZ fs) h
 |[],_,_=>vD.one p h
 |f::r,hF,hh=>vD.mul (Fs.prZ fun g hg=>hF g<|UV _ hg) hz (hF f<|FS) (hh f<|FS)<|vD.prZ hz (fun g hg=>hF g<|UV _ hg) fun g hg=>hh g<|UV _ hg
theorem Dt{g h d s t:List Int}{S:Nat}(hR:BzR p g h d s t S)(hl:d.length=1)(h1:ci d (d.length-1)=1):vD p (ci g) (ci h):=by
 have e:ci d=pc 1:=by
  funext k;unfold pc;by_cases hk:k=0
  ·rw[iq hk,hk,<-h1,hl]
  ·rw[ir hk,zM<|by lia]
 have:=hR.cg;rw[e]at this;exact⟨ci s,ci t,Fs.ci s,Fs.ci t,this.symm⟩
structure UM(p:Int)(a:List Zr)(fs:List (List Int)):Prop where
 a0:a.length≠0
 al:(v8 p a).length=a.length
 fl:fs.length<=a.length
 pl:∀i,i<fs.length->(fs.getD i []).length<=a.length/\Ll p (fs.getD i [])
 cp:∀i j,i<fs.length->j<i->vD p (ci<|fs.getD i []) (ci<|fs.getD j [])
 pr:y3 p (X4 p fs) [ci (v8 p a)<|a.length-1]=v8 p a
theorem IH{f:List Int}{fs:List (List Int)}(hp:wz p=true)(hb:Fp p f)(hc:f.length<=290)(hi:i<=fs.length)(hk:i<=1000000)(hF:∀j,j<i->Fp p (fs.getD j [])/\(fs.getD j []).length<=290)(hf:3000000<=fu):
 ∃r,zg (qF fu p f<|fs.take i) fu 0=some r/\(r=.inl ()->∀j,j<i->vD p (ci f) (ci<|fs.getD j [])):=by
 have hd:(fs.take i).length=i:=by rw[xav];lia
 have ha:∀j,j<i->(fs.take i).getD j []=fs.getD j []:=fun j hj=>by rw[H1,xcp,iq hj,<-H1]
 refine yv (fun x:Int=>∃j:Nat,x=(j:Int)/\j<=i/\∀t,t<j->vD p (ci f) (ci<|fs.getD t [])) (fun x=>i-x.toNat) _ ?_ _ _ ⟨0,rfl,xah _,fun t h=>absurd h<|xbp _⟩ (by show i-0<fu;lia);rintro x L ⟨j,rfl,hj,he⟩ ih;unfold qF;by_cases h1:j<i
 ·obtain⟨k1,k2⟩:=hF j h1;obtain⟨d,s,t,e1,hR,e3⟩:=jH (fu:=fu) hp hb k1 hc k2 hf;rw[zN,yj,zf,ha j h1];have hg:qX fu f (fs.getD j []) p=some (d,0):=by
   unfold qX;rw[za e1]
  rw[za hg];simp only;by_cases h2:d.length=1
  ·rw[zN,zb];refine ih _ ⟨j+1,rfl,by lia,fun t ht=> ?_⟩ (by lia);by_cases h3:t=j
   ·rw[h3];exact Dt hR h2<|e3.resolve_left<|by lia
   ·exact he t<|by lia
  ·rw[zy];exact⟨_,rfl,fun e=>absurd e<|by simp⟩
 ·rw[zy];exact⟨_,rfl,fun _ t ht=>he t<|by lia⟩
theorem eO{k:Nat}{a:List Zr}{fs:List (List Int)}(hp:wz p=true)(ha:y9 k a)(hk:k<=40000)(hr:a.length<=66)(hf:3000000<=fu):
 ∃b,wE fu a fs p=some b/\(b=true->UM p a fs):=by
 obtain⟨p1,p2⟩:=zn hp;unfold wE;rw[za<|jX ha hk (by lia) p2];simp only;by_cases h0:a.length=0
 ·rw[zN];exact⟨_,rfl,fun e=>absurd e<|by decide⟩
 ·rw[zy];by_cases hl:(v8 p a).length=a.length
  ·rw[zN];by_cases hs:a.length<fs.length
   ·rw[zN];exact⟨_,rfl,fun e=>absurd e<|by decide⟩
   ·rw[zy]
    obtain⟨r,e1,e2⟩:=yv (f:=qM fu a fs p) (fun x:Int×List Int=>∃i:Nat,x=((i:Int),v8 p a)/\i<=fs.length/\(∀t,t<i->(fs.getD t []).length<=a.length/\Ll p (fs.getD t []))/\∀t j,t<i->j<t->vD p (ci<|fs.getD t []) (ci<|fs.getD j [])) (fun x=>fs.length-x.1.toNat)
     (fun r=>r=.inr ()\/(r=.inl (v8 p a)/\(∀t,t<fs.length->(fs.getD t []).length<=a.length/\Ll p (fs.getD t []))/\∀t j,t<fs.length->j<t->vD p (ci<|fs.getD t []) (ci<|fs.getD j []))) (by
      rintro x L ⟨i,rfl,hi,g1,g2⟩ ih;unfold qM;simp only;by_cases h1:i<fs.length
      ·rw[zN,za rfl];simp only[if_true];rw[zp h1,zf];by_cases h2:a.length<(fs.getD i []).length
       ·rw[zN];exact⟨_,rfl,.inl rfl⟩
       ·obtain⟨b,b1,b2⟩:=Qm (fu:=fu) (l:=fs.getD i []) (p:=p) (by lia) hf;rw[zy,za b1]
        cases b with
        |false=>
         rw[iq<|by decide];exact⟨_,rfl,.inl rfl⟩
        |true=>
         have hc:=b2.1 rfl;rw[ir (by decide),yE,yJ,zf];obtain⟨q,q1,q2⟩:=IH (fu:=fu) (i:=i) (fs:=fs) hp (hc.fp<|by lia) (by lia) (by lia) (by lia) (fun j hj=>⟨(g1 j hj).2.fp (by lia),by have:=(g1 j hj).1;lia⟩) hf;rw[za q1];rcases q with q|q
         ·simp only;rw[zb];refine ih _ ⟨i+1,rfl,by lia,fun t ht=> ?_,fun t j ht hj=> ?_⟩ (by show fs.length-((i:Int)+1).toNat<fs.length-(i:Int).toNat;lia)
          ·by_cases h4:t=i
           ·rw[h4];exact⟨by lia,hc⟩
           ·exact g1 t<|by lia
          ·by_cases h4:t=i
           ·rw[h4]at hj⊢;exact q2 rfl j hj
           ·exact g2 t j (by lia) hj
         ·exact⟨_,rfl,.inl rfl⟩
      ·rw[zy,za rfl];simp only[xak,if_false];exact⟨_,rfl,.inr ⟨rfl,fun t ht=>g1 t (by lia),fun t j ht hj=>g2 t j (by lia) hj⟩⟩) fu (0,v8 p a) ⟨0,rfl,xah _,fun t h=>absurd h (xbp _),fun t j h=>absurd h (xbp _)⟩ (by show fs.length-0<fu;lia)
    rw[za e1];rcases e2 with rfl|⟨rfl,g1,g2⟩
    ·exact⟨_,rfl,fun e=>absurd e<|by decide⟩
    ·simp only;have hb:∀{q:List Int->Prop},(∀t,t<fs.length->q (fs.getD t []))->∀f∈fs,q f:=fun{q} h f hf=>by
      obtain⟨j,hj,rfl⟩:=xdW.1 hf;have:=h j hj;rw[H1,xaa hj]at this;exact this
     have hm:∀f∈fs,Fp p f:=hb fun t ht=>(g1 t ht).2.fp (by lia);have he:∀f∈fs,f.length<=66:=hb fun t ht=>by have:=(g1 t ht).1;lia
     have hu:fs.length*66<=66*66:=xaw _ (by lia);have hc:=UJ (p:=p) he;have hz:=Wv (p:=p) (by lia) a;have hq:ci (v8 p a) (a.length-1)≠0:=by
      rcases hz.nl with h|h
      ·lia
      ·rw[hl]at h;exact h
     have hv:=hz.nn<|a.length-1;have hn:=hz.lt<|a.length-1;have hd:(v8 p a).drop (a.length-1)=[ci (v8 p a)<|a.length-1]:=by
      rw[xcx (by lia),xcl<|by lia];unfold ci;rw[H1,xaa<|by lia];rfl
     have hg:=Yq (p:=p) (x:=ci (v8 p a)<|a.length-1) (by lia) hn;have ho:=qC p (X4 p fs) [ci (v8 p a)<|a.length-1];simp only[xaq,xbS]at ho;rw[za (qB hp hm he (by lia)<|by decide),hl,show(a.length:Int)-1=((a.length-1:Nat):Int)by lia,zb,yE,yJ,zf,hd,za<|j7 hp (K4 (by lia) fs) hg (by lia)<|by simp];simp only;rw[za<|VL hp (vR (by lia) _ _) hz (by lia) (by lia) hf];exact⟨_,rfl,fun e=>⟨h0,hl,by lia,g1,g2,of_decide_eq_true e⟩⟩
  ·rw[zy];exact⟨_,rfl,fun e=>absurd e<|by decide⟩
end
section
variable{k fu K:Nat}{a b x d f g h s:List Zr}{m:Int}
def JX(a b:List Zr):List Zr:=vP (max a.length b.length)<|fun j=>cf a j+cf b j
theorem NS(a b:List Zr)(k:Nat):cf (JX a b) k=cf a k+cf b k:=jy (fun j hj=>KC hj) k
theorem UD(a b:List Zr):(JX a b).length<=max a.length b.length:=by unfold JX;rw[xJ];exact vZ _ _
theorem dI(ha:y9 k a)(hb:y9 k b):y9 (k+1) (JX a b):=xa fun j=>(ha.bz j).add<|hb.bz j
theorem fc(ha:y9 k a)(hb:y9 k b)(hk:k+1<=100000)(hc:a.length<=1000000)(hd:b.length<=1000000)(hf:3000000<=fu):w6 fu a b=some (JX a b):=U4 ha hb hk hc hd hf
def FW:List Zr:=v7 [1]
theorem zeV:(cf FW:Pz)=pc 1:=by unfold FW;rw[vq,qk]
theorem zcC:FW.length<=1:=sy [1]
theorem zck:Rl [1]:=fun k=>by
 rw[qk];unfold pc;split<;>exact⟨by decide,by decide⟩
theorem Oa:y9 1 FW:=tF zck
def KY(f g h:List Zr)(m:Int):List Zr:=wA (aU f<|yQ g h) m
def tW(x d:List Zr)(m:Int):List Zr:=AQ (wA x m) d m
def oC(x d:List Zr)(m:Int):List Zr:=YZ (wA x m) d m
def PV(f g h s t:List Zr)(m:Int):List Zr:=wA (JX g<|JX (yQ t<|KY f g h m)<|yQ (tW (yQ s<|KY f g h m) h m) g) m
def A6(f g h s:List Zr)(m:Int):List Zr:=wA (JX h<|oC (yQ s<|KY f g h m) h m) m
def bj(g h s t:List Zr)(m:Int):List Zr:=wA (aU (JX (yQ s g)<|yQ t h) FW) m
def puS(g h s t:List Zr)(m:Int):List Zr:=wA (aU s<|oC (yQ s<|bj g h s t m) h m) m
def puT(g h s t:List Zr)(m:Int):List Zr:=wA (aU t<|JX (yQ t<|bj g h s t m)<|yQ (tW (yQ s<|bj g h s t m) h m) g) m
theorem SO(hm:Bz K m)(h0:0<m):y9 K (tW x d m):=xa fun j=>hm.emod h0
theorem zbR(hm:Bz K m)(h0:0<m):y9 K (oC x d m):=xa fun j=>hm.emod h0
theorem PA(x d:List Zr)(m:Int):(tW x d m).length<=x.length+1:=by grind [AQ,tW,xJ,ZV,vZ,xam]
theorem PJ(x d:List Zr)(m:Int):(oC x d m).length<=x.length:=by grind [YZ,oC,xJ,vZ,ZV,xam]
theorem BB(ha:0<d.length)(hb:cf d (d.length-1)=1):(oC x d m).length<d.length:=AF ha hb
theorem Oh(h2:2<=m)(hl:0<h.length)(h1:cf h (h.length-1)=1):(A6 f g h s m).length=h.length/\cf (A6 f g h s m) (h.length-1)=1:=by
 have hs:=BB (x:=yQ s<|KY f g h m) (m:=m) hl h1;have e:∀k,cf (A6 f g h s m) k=(cf h k+cf (oC (yQ s<|KY f g h m) h m) k)%m:=fun k=>by unfold A6;rw[jE,NS]
 have e1:cf (A6 f g h s m) (h.length-1)=1:=by
  rw[e,h1,ye (p:=oC _ _ _)<|by lia];exact xaC (by decide)<|by lia
 refine⟨xcU (C6 (Jc _ _) fun k hk=> ?_)<|xbw fun ha=> ?_,e1⟩
 ·have:=e k;unfold A6 at this;rw[this,ye hk,ye (p:=oC _ _ _) (by lia),xbD,xag]
 ·rw[ye<|by lia]at e1;cases e1
theorem aK{W:Nat}{t:List Zr}{m:Zr}(hd:y9 K f)(hg:y9 K g)(hh:y9 K h)(hs:y9 K s)(ht:y9 K t)(lf:f.length<=W)(lg:g.length<=W)(lh:h.length<=W)(ls:s.length<=W)(lt:t.length<=W)(hW:W<=5000)(he:1<=K)(hK:K<=1000)(hb:zm m.2)(hc:m.2.length<=K)(h2:2<=zv m)(hl:0<h.length)(h1:cf h (h.length-1)=1)(hf:3000000<=fu):
 qJ fu [g,h,s,t] f m=some [PV f g h s t<|zv m,A6 f g h s<|zv m,puS (PV f g h s t<|zv m) (A6 f g h s<|zv m) s t<|zv m,puT (PV f g h s t<|zv m) (A6 f g h s<|zv m) s t<|zv m]:=by
 have hm:Bz K (zv m):=(Bz.of hb).mono hc;have ha:gK m:=⟨hb,by lia⟩;have h0:0<zv m:=by lia
 unfold qJ;rw[pK (i:=0) (by decide),zf,pK (i:=1) (by decide),zf,pK (i:=2) (by decide),zf,pK (i:=3) (by decide),zf,show[g,h,s,t].getD (Int.toNat 0) []=g from rfl,show[g,h,s,t].getD (Int.toNat 1) []=h from rfl,show[g,h,s,t].getD (Int.toNat 2) []=s from rfl,show[g,h,s,t].getD (Int.toNat 3) []=t from rfl];have p1:=YW hg hh;have l1:=kh g h;have l2:=QN f<|yQ g h;rw[za<|xi hg hh (by lia) (by lia) hf,za<|jQ (k:=K+K+g.length) (hd.mono<|by lia) p1 (by lia) (by lia) (by lia) hf,za<|Zn (oj (hd.mono<|by lia) p1) (by lia) ha h0,show wA (aU f<|yQ g h) (zv m)=KY f g h (zv m)from rfl];have pe:y9 K (KY f g h<|zv m):=Jy hm h0;have le:(KY f g h<|zv m).length<=W+W:=xam (ZV _ _) (by lia);have p2:=YW hs pe;have l3:=kh s<|KY f g h<|zv m;have pq:=SO (x:=yQ s<|KY f g h<|zv m) (d:=h) hm h0;have pr:=zbR (x:=yQ s<|KY f g h<|zv m) (d:=h) hm h0;have lq:=PA (yQ s<|KY f g h<|zv m) h<|zv m;have lr:=PJ (yQ s<|KY f g h<|zv m) h<|zv m;rw[za<|xi hs pe (by lia) (by lia) hf,za<|XX p2 (by lia) hh hb hc h0 hl (by lia) (by lia) hf,show AQ (wA (yQ s<|KY f g h<|zv m)<|zv m) h (zv m)=tW (yQ s<|KY f g h<|zv m) h (zv m)from rfl,show YZ (wA (yQ s<|KY f g h<|zv m)<|zv m) h (zv m)=oC (yQ s<|KY f g h<|zv m) h (zv m)from rfl];simp only;have p3:=YW ht pe;have l4:=kh t<|KY f g h<|zv m;have p4:=YW pq hg;have l5:=kh (tW (yQ s<|KY f g h<|zv m) h<|zv m) g;have p5:=dI (k:=K+K+W+W+W+1) (p3.mono<|by lia) (p4.mono<|by lia);have l6:=UD (yQ t<|KY f g h<|zv m)<|yQ (tW (yQ s<|KY f g h<|zv m) h<|zv m) g;have p6:=dI (k:=K+K+W+W+W+2) (hg.mono<|by lia) p5;have l7:=UD g<|JX (yQ t<|KY f g h<|zv m)<|yQ (tW (yQ s<|KY f g h<|zv m) h<|zv m) g;rw[za<|xi ht pe (by lia) (by lia) hf,za<|xi pq hg (by lia) (by lia) hf,za<|fc (k:=K+K+W+W+W+1) (p3.mono<|by lia) (p4.mono<|by lia) (by lia) (by lia) (by lia) hf,za<|fc (k:=K+K+W+W+W+2) (hg.mono<|by lia) p5 (by lia) (by lia) (by lia) hf,za<|Zn p6 (by lia) ha h0,show wA (JX g<|JX (yQ t<|KY f g h<|zv m)<|yQ (tW (yQ s<|KY f g h<|zv m) h<|zv m) g) (zv m)=PV f g h s t (zv m)from rfl];have l8:=UD h<|oC (yQ s<|KY f g h<|zv m) h<|zv m;rw[za<|fc hh pr (by lia) (by lia) (by lia) hf,za<|Zn (dI hh pr) (by lia) ha h0,show wA (JX h<|oC (yQ s<|KY f g h<|zv m) h<|zv m) (zv m)=A6 f g h s (zv m)from rfl];obtain⟨hi,hj⟩:=Oh (f:=f) (g:=g) (s:=s) h2 hl h1;have pG:y9 K (PV f g h s t<|zv m):=Jy hm h0;have pH:y9 K (A6 f g h s<|zv m):=Jy hm h0;have lG:(PV f g h s t<|zv m).length<=4*W+1:=xam (ZV _ _) (by lia);clear l1 l2 l3 l4 l5 l6 l7 l8 p1 p2 p3 p4 p5 p6 pe le pq pr lq lr;generalize PV f g h s t (zv m)=G at*
 generalize A6 f g h s (zv m)=H at*
 have p1:=YW hs pG;have l1:=kh s G;have p2:=YW ht pH;have l2:=kh t H;have p3:=dI (k:=K+K+W) (p1.mono<|by lia) (p2.mono<|by lia);have l3:=UD (yQ s G)<|yQ t H;have l4:=QN (JX (yQ s G)<|yQ t H) FW;have l5:=zcC;rw[za<|xi hs pG (by lia) (by lia) hf,za<|xi ht pH (by lia) (by lia) hf,za<|fc (k:=K+K+W) (p1.mono<|by lia) (p2.mono<|by lia) (by lia) (by lia) (by lia) hf];rw[za (QH zck<|by decide),show v7 [1]=FW from rfl,za<|jQ p3 (Oa.mono<|by lia) (by lia) (by lia) (by lia) hf,za<|Zn (oj p3<|Oa.mono<|by lia) (by lia) ha h0,show wA (aU (JX (yQ s G)<|yQ t H) FW) (zv m)=bj G H s t (zv m)from rfl];have pb:y9 K (bj G H s t<|zv m):=Jy hm h0;have lb:(bj G H s t<|zv m).length<=5*W+2:=xam (ZV _ _) (by lia);have p4:=YW hs pb;have l6:=kh s<|bj G H s t<|zv m;have pc':=SO (x:=yQ s<|bj G H s t<|zv m) (d:=H) hm h0;have pd:=zbR (x:=yQ s<|bj G H s t<|zv m) (d:=H) hm h0;have lc:=PA (yQ s<|bj G H s t<|zv m) H<|zv m;have ld:=PJ (yQ s<|bj G H s t<|zv m) H<|zv m;have l7:=QN s<|oC (yQ s<|bj G H s t<|zv m) H<|zv m;rw[za<|xi hs pb (by lia) (by lia) hf,za<|XX p4 (by lia) pH hb hc h0 (by lia) (by lia) (by lia) hf,show AQ (wA (yQ s<|bj G H s t<|zv m)<|zv m) H (zv m)=tW (yQ s<|bj G H s t<|zv m) H (zv m)from rfl,show YZ (wA (yQ s<|bj G H s t<|zv m)<|zv m) H (zv m)=oC (yQ s<|bj G H s t<|zv m) H (zv m)from rfl];simp only;rw[za<|jQ hs pd (by lia) (by lia) (by lia) hf,za<|Zn (oj hs pd) (by lia) ha h0,show wA (aU s<|oC (yQ s<|bj G H s t<|zv m) H<|zv m) (zv m)=puS G H s t (zv m)from rfl];have p5:=YW ht pb;have l8:=kh t<|bj G H s t<|zv m;have p6:=YW pc' pG;have l9:=kh (tW (yQ s<|bj G H s t<|zv m) H<|zv m) G;have p7:=dI (k:=K+K+6*W+3) (p5.mono<|by lia) (p6.mono<|by lia);have l10:=UD (yQ t<|bj G H s t<|zv m)<|yQ (tW (yQ s<|bj G H s t<|zv m) H<|zv m) G;have l11:=QN t<|JX (yQ t<|bj G H s t<|zv m)<|yQ (tW (yQ s<|bj G H s t<|zv m) H<|zv m) G;rw[za<|xi ht pb (by lia) (by lia) hf,za<|xi pc' pG (by lia) (by lia) hf,za<|fc (k:=K+K+6*W+3) (p5.mono<|by lia) (p6.mono<|by lia) (by lia) (by lia) (by lia) hf,za<|jQ (ht.mono<|by lia) p7 (by lia) (by lia) (by lia) hf,za<|Zn (oj (ht.mono<|by lia) p7) (by lia) ha h0,show wA (aU t<|JX (yQ t<|bj G H s t<|zv m)<|yQ (tW (yQ s<|bj G H s t<|zv m) H<|zv m) G) (zv m)=puT G H s t (zv m)from rfl]
end
section
variable{x d f g h s t:List Zr}{m:Int}
theorem Zt(a:List Zr)(m:Int):Cg m (cf<|wA a m) (cf a):=fun k=>by rw[jE,xaF]
theorem E9(a b:List Zr):(cf (aU a b):Pz)=cf a-cf b:=funext fun k=>NT a b k
theorem td(a b:List Zr):(cf (JX a b):Pz)=cf a+cf b:=funext fun k=>NS a b k
theorem zc8(ha:0<d.length)(hb:cf d (d.length-1)=1):Cg m (cf x) ((cf (tW x d m):Pz)*cf d+cf (oC x d m)):=by
 intro k;unfold tW oC;rw[zI,<-qG,cL (by lia) ha hb,xdO,xaF,<-xdO];have hr:=jE x m k;generalize wA x m=r at*
 obtain⟨qn,hq⟩:∃qn,qn=r.length+1-d.length:=⟨_,rfl⟩;have hc:∀j,j<qn->cf (AQ r d m) j=Lr r d m qn j:=fun j hj=>by
  rw[Pj,<-hq];unfold dvQ Lr;rw[iq hj,xaF]
 have hd:(AQ r d m).length<=qn:=by unfold AQ;rw[xJ,<-hq];exact vZ _ _
 have h:=Pt hc k qn<|xab _;rw[nW,FT hd]at h;rw[OC,<-hq,xfa,<-h,hr,xaF]
theorem KH{n x:Int}(hn:n∣m)(hx:n∣x):n∣x%m:=by
 rw[Int.emod_def];exact xdp hx<|xbG hn<|xco _ _
theorem n6{r d:List Zr}{n m:Int}{qn:Nat}(hn:n∣m)(hr:∀k,n∣cf r k):∀s k,n∣dvF r d m qn s k
 |0,k=>hr k
 |s+1,k=>xdp (n6 hn hr s k)<|xbG (KH hn<|n6 hn hr s _)<|xco _ _
theorem zbo{n:Int}(hn:n∣m)(hx:Cg n (cf x) (pc 0))(ha:0<d.length)(hb:cf d (d.length-1)=1):Cg n (cf<|tW x d m) (pc 0)/\Cg n (cf<|oC x d m) (pc 0):=by
 have hr:∀k,n∣cf (wA x m) k:=fun k=>by rw[jE];exact KH hn<|hx.dvd k
 refine⟨Cg.of_dvd fun k=> ?_,Cg.of_dvd fun k=> ?_⟩
 ·unfold tW;rw[Pj];refine KH hn ?_;unfold dvQ;split
  ·exact KH hn<|n6 hn hr _ _
  ·exact xcO _
 ·unfold oC;rw[cL (by lia) ha hb];exact KH hn<|n6 hn hr _ _
theorem zgz{n:Int}(hm:m∣n*n)(hn:n∣m)(h1:Cg n (cf f) ((cf g:Pz)*cf h))(h2:Cg n ((cf s:Pz)*cf g+(cf t:Pz)*cf h) (pc 1))(ha:0<h.length)(hb:cf h (h.length-1)=1):
 Cg m (cf f) ((cf (PV f g h s t m):Pz)*cf (A6 f g h s m))/\Cg n (cf<|PV f g h s t m) (cf g)/\Cg n (cf<|A6 f g h s m) (cf h):=by
 have he:Cg m (cf<|KY f g h m) ((cf f:Pz)-(cf g:Pz)*cf h):=by
  refine(Zt _ _).trans<|Cg.of ?_;rw[E9,qG]
 have hc:Cg n (cf<|KY f g h m) (pc 0):=(he.down hn).trans<|Cg.iff_sub.1 h1;have hd:Cg m ((cf s:Pz)*cf (KY f g h m)) ((cf (tW (yQ s<|KY f g h m) h m):Pz)*cf h+cf (oC (yQ s<|KY f g h m) h m)):=by
  rw[<-qG];exact zc8 ha hb
 obtain⟨z1,z2⟩:=zbo (x:=yQ s<|KY f g h m) (d:=h) hn (by rw[qG];exact hc.mul_zero_l _) ha hb;refine zaz hm hn (q:=cf<|tW (yQ s<|KY f g h m) h m) (r:=cf<|oC (yQ s<|KY f g h m) h m) h1 h2 he hd z1 z2 ?_ ?_
 ·refine(Zt _ _).trans<|Cg.of ?_;rw[td,td,qG,qG]
 ·refine(Zt _ _).trans<|Cg.of ?_;rw[td]
theorem zhF{n:Int}(hm:m∣n*n)(hn:n∣m)(h2:Cg n ((cf s:Pz)*cf g+(cf t:Pz)*cf h) (pc 1))(ha:0<h.length)(hc:cf h (h.length-1)=1):
 Cg m ((cf (puS g h s t m):Pz)*cf g+(cf (puT g h s t m):Pz)*cf h) (pc 1):=by
 have hb:Cg m (cf<|bj g h s t m) ((cf s:Pz)*cf g+(cf t:Pz)*cf h-pc 1):=by
  refine(Zt _ _).trans<|Cg.of ?_;rw[E9,td,qG,qG,zeV]
 have hd:Cg m ((cf s:Pz)*cf (bj g h s t m)) ((cf (tW (yQ s<|bj g h s t m) h m):Pz)*cf h+cf (oC (yQ s<|bj g h s t m) h m)):=by
  rw[<-qG];exact zc8 ha hc
 refine zcq hm hn h2 hb hd ?_ ?_
 ·refine(Zt _ _).trans<|Cg.of ?_;rw[E9]
 ·refine(Zt _ _).trans<|Cg.of ?_;rw[E9,td,qG,qG]
theorem OE{a b:List Zr}(ha:0<a.length)(hc:0<b.length)(hb:cf b (b.length-1)=1):((cf a:Pz)*cf b) (a.length-1+(b.length-1))=cf a (a.length-1):=by
 rw[xt,xU (i:=a.length-1) fun i hi=> ?_,zN,show a.length-1+(b.length-1)-(a.length-1)=b.length-1 by lia,hb,xck];by_cases h:i<a.length-1
 ·rw[ye (p:=b) (by lia),xau]
 ·rw[ye (p:=a) (by lia),xaS]
theorem Pe(hm:2<=m)(hg:wA g m=g)(hf:wA f m=f)(hq:0<f.length)(he:0<h.length)(hl:cf h (h.length-1)=1)(hc:Cg m (cf f) ((cf g:Pz)*cf h)):
 f.length=g.length+(h.length-1)/\0<g.length/\cf g (g.length-1)=cf f (f.length-1):=by
 have hd:=Jc g m;have ha:=Jc f m;rw[hg]at hd;rw[hf]at ha;have hn:∀k,cf g k%m=cf g k:=fun k=>by rw[<-jE,hg]
 have hb:∀k,cf f k%m=cf f k:=fun k=>by rw[<-jE,hf]
 have ho:=ZB ha (by lia);have g0:0<g.length:=by
  refine xcI fun h0=>ho ?_;rw[<-hb,hc,xt,yG fun i hi=>by rw[ye (p:=g) (by lia),xaS],xag]
 have hp:=ZB hd (by lia);have ht:=hc<|g.length-1+(h.length-1);rw[OE g0 he hl,hb,hn]at ht;have e1:f.length=g.length+(h.length-1):=by
  refine xcU (C6 ha fun k hk=> ?_)<|xbw fun hr=> ?_
  ·rw[<-hb,hc,vL (n:=g.length) (m:=h.length) (fun j hj=>ye hj)<|fun j hj=>ye hj,xag]
  ·rw[ye (p:=f)<|by lia]at ht;exact hp ht.symm
 refine⟨e1,g0,?_⟩;rw[<-ht];congr 1;lia
end
section
variable{r0 r1 a b K fu:Nat}{u0 u1 v0 v1:Int}
structure ZbI(a b:Nat)(r0 r1:Nat)(u0 v0 u1 v1:Int):Prop where
 p0:0<r0
 le0:r0<=max a b
 le1:r1<=max a b
 e0:u0*a+v0*b=r0
 e1:u1*a+v1*b=r1
 g:xen r0 r1=xen a b
 su:∃x y:Nat,((u0=x/\u1= -y)\/(u0= -x/\u1=y))/\r0*y+r1*x=b
 sv:∃x y:Nat,((v0=x/\v1= -y)\/(v0= -x/\v1=y))/\r0*y+r1*x=a
 bu0:u0.natAbs<=b
 bu1:u1.natAbs<=b
 bv0:v0.natAbs<=a
 bv1:v1.natAbs<=a
theorem FA{c:Nat}(hr:0<r1)(h:∃x y:Nat,((u0=x/\u1= -y)\/(u0= -x/\u1=y))/\r0*y+r1*x=c):
 (∃x y:Nat,((u1=x/\u0-((r0/r1:Nat):Int)*u1= -y)\/(u1= -x/\u0-((r0/r1:Nat):Int)*u1=y))/\r1*y+r0%r1*x=c)/\(u0-((r0/r1:Nat):Int)*u1).natAbs<=c:=by
 obtain⟨x,y,hs,he⟩:=h;have hc:=xbB r0 r1;generalize r0/r1=q at*
 generalize r0%r1=r2 at*
 have e1:r1*(x+q*y)+r2*y=c:=by
  rw[xbh,<-xaX];have:r0*y=r1*q*y+r2*y:=by rw[<-xaV,hc]
  lia
 have hb:x+q*y<=c:=by
  have h3:1*(x+q*y)<=r1*(x+q*y):=xaw _ (by lia);lia
 have ha:((q*y:Nat):Int)=(q:Int)*(y:Int):=by simp
 rcases hs with⟨a1,a2⟩|⟨a1,a2⟩
 ·rw[a1,a2,xeC,<-ha];exact⟨⟨y,x+q*y,.inr ⟨rfl,by lia⟩,e1⟩,by lia⟩
 ·rw[a1,a2,<-ha];exact⟨⟨y,x+q*y,.inl ⟨rfl,by lia⟩,e1⟩,by lia⟩
theorem ZbI.step(h:ZbI a b r0 r1 u0 v0 u1 v1)(hr:0<r1):ZbI a b r1 (r0%r1) u1 v1 (u0-((r0/r1:Nat):Int)*u1) (v0-((r0/r1:Nat):Int)*v1):=by
 obtain⟨s1,s2⟩:=FA hr h.su;obtain⟨t1,t2⟩:=FA hr h.sv;have ha:=xbB r0 r1;have hd:=xbi r0 hr;have hb:=h.le1;refine⟨hr,hb,by lia,h.e1,?_,?_,s1,t1,h.bu1,s2,h.bv1,t2⟩
 ·have e0:=h.e0;have e1:=h.e1;have hc:(r0:Int)=(r1:Int)*((r0/r1:Nat):Int)+((r0%r1:Nat):Int):=by
   have:(r0:Int)=((r1*(r0/r1)+r0%r1:Nat):Int):=by rw[ha]
   rw[this];simp
  generalize((r0/r1:Nat):Int)=q at*
  generalize((r0%r1:Nat):Int)=r2 at*
  rw[xfR,xfR,xbK,xbK];have e2:q*(u1*a)+q*(v1*b)=r1*q:=by rw[<-xeX,e1,xbm]
  lia
 ·rw[<-h.g,xeE r1,<-Nat.gcd_rec,xeE]
theorem Bz.nat{n:Nat}(h:n<18446744073709551616^K):Bz K (n:Int):=by unfold Bz;rw[xbe];exact h
theorem aV{q x0 y0 z0 x1 y1 z1:Int}(hq:Bz K q)(h1:Bz K x0)(h2:Bz K y0)(h3:Bz K z0)(h4:Bz K x1)(h5:Bz K y1)(h6:Bz K z1)(hK:K<=10000)(hf:3000000<=fu):
 kH fu (yH x0,(yH y0,yH z0)) (yH q) (yH x1,(yH y1,yH z1))=some (yH<|x0-q*x1,(yH<|y0-q*y1,yH<|z0-q*z1)):=by
 unfold kH;have b1:=hq.mul h4;have b2:=hq.mul h5;have b3:=hq.mul h6;simp only;rw[za<|ya (hq.ok<|by lia) (h4.ok<|by lia) hf,zw,zw,za<|qv (h1.ok<|by lia) (b1.ok<|by lia) hf,zw,zw,za<|ya (hq.ok<|by lia) (h5.ok<|by lia) hf,zw,zw,za<|qv (h2.ok<|by lia) (b2.ok<|by lia) hf,zw,zw,za<|ya (hq.ok<|by lia) (h6.ok<|by lia) hf,zw,zw,za<|qv (h3.ok<|by lia) (b3.ok<|by lia) hf,zw,zw]
theorem NZ(h:r1<=r0:=by lia)(hr:0<r1:=by lia):bl (r0%r1)<bl r0:=by
 have ha:=xbB r0 r1;have hc:=xbi r0 hr;have hq:1<=r0/r1:=(xcw hr).2 (by lia);have h1:r1*1<=r1*(r0/r1):=xaD _ hq;have hb:=sa r0;have hp:1<=bl r0:=by rw[JR];lia
 have e:2^bl r0=2*2^(bl r0-1):=by rw[<-xel,show(bl r0-1).succ=bl r0 by lia]
 have:=Qe (n:=r0%r1) (k:=bl r0-1) (by lia);lia
theorem RP(ha:a<18446744073709551616^K)(hb:b<18446744073709551616^K)(hK:K<=1000)(hf:3000000<=fu)(hI:ZbI a b r0 r1 u0 v0 u1 v1):
 ∃r,zg (XG fu) fu ((yH r0,(yH u0,yH v0)),(yH r1,(yH u1,yH v1)))=some r/\∃u v:Int,r=(yH (xen a b:Nat),(yH u,yH v))/\u*a+v*b=(xen a b:Nat)/\u.natAbs<=b/\v.natAbs<=a:=by
 have hc:∀{n:Nat},n<=max a b->bl n<=64*K:=fun{n} hn=>Qe (by
  rw[xdf,pB];lia)
 refine yv (fun s:(Zr×(Zr×Zr))×(Zr×(Zr×Zr))=>∃(r0 r1:Nat) (u0 v0 u1 v1:Int),s=((yH r0,(yH u0,yH v0)),(yH r1,(yH u1,yH v1)))/\ZbI a b r0 r1 u0 v0 u1 v1) (fun s=>bl (zv s.1.1).natAbs+bl (zv s.2.1).natAbs+if(zv s.1.1).natAbs<(zv s.2.1).natAbs then 1 else 0) _ ?_ _ _ ⟨r0,r1,u0,v0,u1,v1,rfl,hI⟩ ?_
 ·rintro s L ⟨r0,r1,u0,v0,u1,v1,rfl,hI⟩ ih;have hz:∀x:Int,x.natAbs<=max a b->Bz K x:=fun x hx=>by unfold Bz;lia
  have z0:Bz K (r0:Int):=hz _ (by have:=hI.le0;lia);have z1:Bz K (r1:Int):=hz _ (by have:=hI.le1;lia);unfold XG;simp only;rw[za<|xe (z1.ok<|by lia) hf,zw];by_cases h0:r1=0
  ·rw[iq<|wM.2<|by lia];have hg:=hI.g;rw[h0,Nat.gcd_zero_right]at hg;exact⟨_,rfl,u0,v0,by rw[hg],by rw[hI.e0,hg],hI.bu0,hI.bv0⟩
  ·rw[ir<|fun e=>h0 (by have:=wM.1 e;lia),za<|QK (z0.okS<|by lia) (z1.okS<|by lia) hf,zw,zw];unfold zcO;rw[zy];simp only;have hq:((r0:Int)/(r1:Int))=((r0/r1:Nat):Int):=rfl;have zq:Bz K ((r0/r1:Nat):Int):=Bz.nat (by
    have h1:=xea r0 r1;have h2:=hI.le0;lia)
   have hj:=hI.step (by lia);have hd:=xbB r0 r1;have he:(r0:Int)-((r0/r1:Nat):Int)*(r1:Int)=((r0%r1:Nat):Int):=by
    have:(r0:Int)=((r1*(r0/r1)+r0%r1:Nat):Int):=by rw[hd]
    conv=>lhs;rw[this]
    rw[hd];have h2:(r0:Int)=(r1:Int)*((r0/r1:Nat):Int)+((r0%r1:Nat):Int):=by rw[this];simp
    rw[xbm];lia
   rw[hq,za<|aV zq z0 (hz _ (by have:=hI.bu0;lia)) (hz _ (by have:=hI.bv0;lia)) z1 (hz _ (by have:=hI.bu1;lia)) (hz _ (by have:=hI.bv1;lia)) (by lia) hf,he];refine ih _ ⟨_,_,_,_,_,_,rfl,hj⟩ ?_;simp only[zw,xbe];have hk:=xbi r0 (show 0<r1 by lia);rw[zy];by_cases hi:r0<r1
   ·rw[iq hi,xar hi];lia
   ·have:=NZ (r0:=r0) (r1:=r1);lia
 ·simp only[zw,xbe];have h1:=hc hI.le0;have h2:=hc hI.le1;split<;>lia
theorem gM{x y:Zr}(hx:zm x.2)(hy:zm y.2)(hc:x.2.length<=K)(hd:y.2.length<=K)(he:zv x=(a:Int))(hg:zv y=(b:Int))(ha:0<a)(hb:0<b)(hK:K<=1000)(hf:3000000<=fu):
 ∃u v:Int,YF fu x y=some (yH (xen a b:Nat),yH u,yH v)/\u*a+v*b=(xen a b:Nat)/\u.natAbs<=b/\v.natAbs<=a:=by
 have na:nv x.2=a:=by have:=kD x;lia
 have nb:nv y.2=b:=by have:=kD y;lia
 have hA:a<18446744073709551616^K:=by rw[<-na];exact xan (qT hx)<|xay (by decide) hc
 have hB:b<18446744073709551616^K:=by rw[<-nb];exact xan (qT hy)<|xay (by decide) hd
 have hI:ZbI a b a b 1 0 0 1:=by refine⟨ha,xee _ _,xdL _ _,by lia,by lia,rfl,⟨1,0,.inl ⟨rfl,rfl⟩,by lia⟩,⟨0,1,.inr ⟨rfl,rfl⟩,by lia⟩,by lia,by lia,by lia,by lia⟩
 obtain⟨r,e1,u,v,rfl,e2,e3,e4⟩:=RP (fu:=fu) hA hB hK hf hI;unfold YF;rw[za (yp hx (by lia)<|by lia),za (z6<|by decide),za (z6<|by decide),za (yp hy (by lia)<|by lia),za (z6<|by decide),za (z6<|by decide),ir (by decide),ir (by decide),na,nb,za e1];simp only;rw[za<|xe ⟨hx,by lia⟩ hf,ir (fun e=>by rw[he,w4<|by lia]at e;exact absurd e<|by decide),za rfl,za<|xe ⟨hy,by lia⟩ hf,ir (fun e=>by rw[hg,w4<|by lia]at e;exact absurd e<|by decide),za rfl];exact⟨u,v,rfl,e2,e3,e4⟩
end
end Go.Proofs.YtmggkmchbdanfaaGreat
